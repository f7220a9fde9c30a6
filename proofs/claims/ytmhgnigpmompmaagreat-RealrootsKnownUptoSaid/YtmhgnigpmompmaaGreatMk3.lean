/- Lemmas. -/
import Derived.Test.YtmhgnigpmompmaaGreatMk1
import Derived.Test.YtmhgnigpmompmaaGreatMk2
import Derived.Deep.RegionWith
import Derived.WalkSmall
import Derived.Lib.RabinKarpLaws
import Derived.Deep.Cut
import Derived.Deep.DeepCutAuto
import Derived.RangeFuncNested
import Derived.RangeFuncBound
import Derived.RangeFuncCalls
import Derived.RangeFuncLeaves
import Derived.Shelf.Abstract
import Derived.Shelf.RegionOpen
import Derived.WalkKit
import Derived.OwnWalkIn
import Derived.TacticsInMore
import Derived.LoopNIn
import Derived.LoopIn
import Derived.ProofKit
import Derived.ChangeSlices
import Derived.Deep.Slices
set_option linter.unusedVariables false
set_option linter.unusedSimpArgs false
set_option maxHeartbeats 16000000
namespace Go.Hp
theorem Iu(l:List Rat):(BR l).length=pl (co l):=by rw[<-(Fu l).pl,GH]
theorem CS.isP{base:Nat}{w:World}{g:Nat}{t:TypeId}{N:Nat}{F:Nat->Rat}(h:CS w g t (El N F))(hF:Bq N F)(hb:base<=g){c:Nat}(hc:N<=c)(hm:c<=9223372036854775807):FV base w (.slice (some ⟨g,0,none⟩) (pl F) c) F:=by
 have e:=Qh hF;have hrow:=h.row (KH N F) hb;have hl:((List.range N).map F).length=N:=Fs N F;have:=BX hF;refine⟨BR ((List.range N).map F),⟨_,c,by rw[Iu,e],by rw[Iu,e];omega,hm,?_⟩,Fu _,by rw[GH,e]⟩;rw[Fq];exact Dx.take hrow _
theorem Rc(x:Rat)(a b:Nat):x^(a+b)=x^a*x^b:=by
 induction b with
 | zero=>rw[Nat.add_zero,Rat.pow_zero,Rat.mul_one]
 | succ b ih=>rw[<-Nat.add_assoc,Rat.pow_succ,ih,Rat.pow_succ,Rat.mul_assoc]
def Fr(D k Y:Nat)(q:Rat):Prop:=∃ m:Int,q=(m:Rat) / ((D:Rat)^k)/\m.natAbs<=Y
theorem Fr.mono{D k Y Y':Nat}{q:Rat}(h:Fr D k Y q)(l:Y<=Y'):Fr D k Y' q:=by obtain⟨m,h1,h2⟩:=h;exact⟨m,h1,Aa⟩
theorem Fr.zero(D k Y:Nat):Fr D k Y 0:=⟨0,by rw[show((0:Int):Rat)=0 from rfl,Rat.div_def,Rat.zero_mul],Ac⟩
theorem Fr.sub{D k Y Z:Nat}{p q:Rat}(h:Fr D k Y p)(g:Fr D k Z q):Fr D k (Y+Z) (p - q):=by
 obtain⟨m,h1,h2⟩:=h;obtain⟨n,g1,g2⟩:=g;refine⟨m - n,?_,?_⟩
 ·rw[h1,g1,Rat.intCast_sub,Rat.div_def,Rat.div_def,Rat.div_def];grind
 ·have:=Int.natAbs_sub_le m n;omega
theorem Fr.mul{D a b Y Z:Nat}{p q:Rat}(h:Fr D a Y p)(g:Fr D b Z q):Fr D (a+b) (Y*Z) (p*q):=by
 obtain⟨m,h1,h2⟩:=h;obtain⟨n,g1,g2⟩:=g;refine⟨m*n,?_,?_⟩
 ·rw[h1,g1,Rat.intCast_mul,Rat.div_def,Rat.div_def,Rat.div_def,Rc,Rat.inv_mul_rev];grind
 ·rw[Int.natAbs_mul];exact Nat.mul_le_mul h2 g2
theorem Fr.up{D k Y:Nat}{q:Rat}(hD:0 < D)(h:Fr D k Y q)(j:Nat):Fr D (k+j) (Y*D^j) q:=by
 have h0:=Jp hD;have h1:Fr D j (D^j) 1:=by
  refine⟨((D^j:Nat):Int),?_,Ac⟩;have h2:(D:Rat)^j≠0:=by
   induction j with
   | zero=>rw[Rat.pow_zero];decide
   | succ j ih=>rw[Rat.pow_succ];intro e;rcases Rat.mul_eq_zero.1 e with e | e<;>contradiction
  rw[Rat.intCast_natCast,Rat.natCast_pow];grind
 have:=h.mul h1;rwa[Rat.mul_one]at this
theorem Fr.qsz{D k Y:Nat}{q:Rat}(hD:0 < D)(h:Fr D k Y q){t:Nat}(h1:sz Y<=t)(h2:sz (D^k)<=t)(h3:1<=t):qsz q<=t:=by
 obtain⟨m,e,hm⟩:=h;rw[<-Rat.natCast_pow,IW]at e;rw[e];exact Dc (Nat.le_trans (Bf hm) h1) (by simpa using h2) h3
section
variable{C S:Nat->Rat}{D X:Nat}
end
theorem ZB{n:Nat}(h:n<=9223372036854775807):qsz (n:Rat)<=2:=by
 have h3:=J9 (n:=n) Aa;have h4:sz 1=1:=by decide
 show max (sz ((n:Int)).natAbs) (sz 1)<=2;rw[Int.natAbs_natCast];omega
theorem CD.rv{s:Nat}{F:Nat->Rat}(h:CD s F)(d:Nat):CD s (rv d F):=by
 obtain⟨D,X,⟨hD,hF⟩,h1,h2⟩:=h;refine⟨D,X,⟨hD,fun i=>?_⟩,h1,h2⟩;unfold Hp.rv
 split
 ·exact hF _
 ·exact⟨0,by show(0:Rat)=_;grind,Ac⟩
theorem CD.pd{s d:Nat}{F:Nat->Rat}(hC:CD s F)(hs:Bq (d+1) F)(hd:d<=9223372036854775807):CD (1+d*(s+3)) (pd F):=by
 refine CD.of (k:=s+2) (n:=d) (fun i hi=>by unfold Hp.pd;rw[hs (i+1) Aa];exact Rat.mul_zero _) fun i hi=>?_;have h1:=CG ((i+1:Nat):Rat) (F (i+1));have h2:=ZB (n:=i+1) Aa;have h3:=hC.elem (i+1);show Hp.qsz (((i+1:Nat):Rat)*F (i+1))<=s+2;omega
theorem iD{f:Nat->Rat}{t:Nat}(n:Nat)(h:∀ i,i < n->qsz (f i)<=t):qsz (sm n f)<=1+n*(t+1):=by
 induction n with
 | zero=>rw[EO,IM];omega
 | succ n ih =>
  have h1:=EM (sm n f) (f n);have h2:=ih fun i hi=>h i Aa;have h3:=h n Aa;rw[Br,Nat.succ_mul];omega
open Go.RowKit
def iU(base:Nat)(w:World)(v:Value)(t:TypeId)(l:List Rat):Prop:=l=[]\/∃ g cap,v = .slice (some ⟨g,0,none⟩) l.length cap/\base<=g/\l.length<=cap/\cap<=9223372036854775807/\CS w g t (l.map some)
def kW(base:Nat)(w:World)(v:Value)(t:TypeId)(F:Nat->Rat):Prop:=pl F=0\/∃ g cap,v = .slice (some ⟨g,0,none⟩) (pl F) cap/\base<=g/\pl F<=cap/\cap<=9223372036854775807/\CS w g t (El (pl F) F)
theorem CS.pre{w:World}{g:Nat}{t:TypeId}{l:List (Option Rat)}(h:CS w g t l)(n:Nat):CS w g t (l.take n):=by
 obtain⟨cs,h1,h2,h3⟩:=h;have hl:(l.take n).length<=l.length:=List.length_take_le' _ _;refine⟨cs,h1,Aa,fun j hj=>?_⟩;have:=h3 j Aa;rw[List.getElem_take];exact this
theorem V3(N n:Nat)(F:Nat->Rat)(h:n<=N):(El N F).take n=El n F:=by
 unfold El;rw[<-List.map_take,List.take_range,Nat.min_eq_left h]
theorem iU.fin{base n c:Nat}{w w':World}{A:Option Addr}{t:TypeId}{l:List Rat}(h:iU base w (.slice A n c) t l)(e:Ext w w'):kW base w' (.slice A (BR l).length c) t (co l):=by
 have hp:pl (co l)<=l.length:=BX (KS l);rcases h with rfl | ⟨g,cap,e1,h1,h2,h3,h4⟩
 ·exact .inl (by rw[PU,BJ])
 ·refine .inr ⟨g,cap,?_,h1,Aa,h3,?_⟩
  ·rw[Iu]
   injection e1 with e1 e2 e3;rw[e1,e3]
  ·have:=(h4.ext e).pre (pl (co l))
   rw[QZ,V3 _ _ _ hp]at this;exact this
def Ea(w:World)(g:Nat)(t:TypeId)(q:Rat):Prop:=∃ b A n c b' A' n' c',Be w g t #[.bool b,.slice A n c,.bool b',.slice A' n' c']/\BQ w (.agg #[.bool b,.slice A n c,.bool b',.slice A' n' c']) q
theorem Ea.ext{w w':World}{g:Nat}{t:TypeId}{q:Rat}(h:Ea w g t q)(e:Ext w w'):Ea w' g t q:=by
 obtain⟨b,A,n,c,b',A',n',c',h1,h2⟩:=h;exact⟨b,A,n,c,b',A',n',c',h1.ext e,h2.ext e⟩
theorem Ea.lt{w:World}{g:Nat}{t:TypeId}{q:Rat}(h:Ea w g t q):g < w.heap.size:=by
 obtain⟨b,A,n,c,b',A',n',c',h1,h2⟩:=h;exact h1.lt
theorem Ea.upd{w w':World}{g:Nat}{t:TypeId}{q:Rat}{G:List Nat}(h:Ea w g t q)(U:Cj G w w')(hg:g∉G):Ea w' g t q:=by
 obtain⟨b,A,n,c,b',A',n',c',h1,h2⟩:=h;exact⟨b,A,n,c,b',A',n',c',h1.upd U hg,h2.kd U.kd⟩
theorem Ea.mk{w:World}{g:Nat}{t:TypeId}{q:Rat}{b b':Bool}{A A':Option Addr}{n c n' c':Nat}(h:Be w g t #[.bool b,.slice A n c,.bool b',.slice A' n' c'])(k:BQ w (.agg #[.bool b,.slice A n c,.bool b',.slice A' n' c']) q):Ea w g t q:=⟨_,_,_,_,_,_,_,_,h,k⟩
theorem DL.off{base:Nat}{e:TypeId}{w w':World}{v:Value}{l:List Rat}{g:Nat}(h:DL base e w v l)(U:Cj [g] w w')(hg:∀ k∈blk v,k < g):DL base e w' v l:=
 BH.upd h U (fun k hk hG=>by have:=hg k hk;simp at hG;omega) fun _ _ q=>q.kd U.kd
theorem Uh{F G:Nat->Rat}{s t:Nat}(hF:∀ i,qsz (F i)<=s)(hG:∀ i,qsz (G i)<=t)(n i:Nat):qsz (sm i (fun j=>F j*G (n - j)))<=1+i*(s+t+1):=
 iD i fun j _=>by have h1:=CG (F j) (G (n - j));have h2:=hF j;have h3:=hG (n - j);omega
theorem Lc{i k c d:Nat}(h:i<=k)(e:1+k*c<=d):1+i*c<=d:=by
 have:i*c<=k*c:=Nat.mul_le_mul_right _ h;omega
theorem CS.hs{w:World}{g:Nat}{t:TypeId}{N c:Nat}{F:Nat->Rat}(h:CS w g t (El N F))(hs:∀ i,i < N->qsz (F i)<=274877906944)(hc:N<=c)(hm:c<=9223372036854775807):RI 0 w (.slice (some ⟨g,0,none⟩) N c) ((List.range N).map F):=by
 have hrow:=h.row (KH N F) (Nat.zero_le g);refine RV.has (base:=0) ⟨_,c,by rw[Fs],by rw[Fs];exact hc,hm,hrow⟩ fun q hq=>?_;obtain⟨i,hi,rfl⟩:=List.mem_map.1 hq;exact hs i (List.mem_range.1 hi)
theorem CD.mn{s:Nat}{F:Nat->Rat}(h:CD s F):CD (2*s) (mn F):=by
 have h1:=h.elem (pl F - 1);have h2:Hp.qsz (1 / ld F)<=s:=by
  have e:1 / ld F=(ld F)⁻¹ := by rw[Rat.div_def,Rat.one_mul]
  rw[e];exact Nat.le_trans (OY _) h1
 exact(h.psc (1 / ld F)).mono Aa
def RX(s:Nat):Nat->Nat
 | 0=>s
 | j+1=>18*RX s j+16
theorem QU{s i j:Nat}(h:i<=j):RX s i<=RX s j:=by
 induction j with
 | zero=>obtain rfl:i=0:=Aa;exact Nat.le_refl _
 | succ j ih =>
  rcases Nat.eq_or_lt_of_le h with e | e
  ·rw[e];exact Nat.le_refl _
  ·have:=ih Aa
   show _<=18*RX s j+16;omega
def OV(F0 G0:Nat->Rat)(j:Nat)(F G:Nat->Rat):Prop:=
 Ae F/\Ae G/\(∀ E,Ae E->(Dv E F/\Dv E G↔Dv E F0/\Dv E G0))/\CD (RX 44 j) F/\CD (RX 44 j) G/\pl F<=7/\pl G+j<=7
theorem OV.start{F G:Nat->Rat}(hF:Ae F)(hG:Ae G)(cF:CD 22 F)(cG:CD 22 G)(lF:pl F<=7)(lG:pl G<=7):OV F G 0 F G:=
 ⟨hF,hG,fun _ _=>Iff.rfl,cF.mono (by show 22<=44;omega),cG.mono (by show 22<=44;omega),lF,lG⟩
theorem OV.step{F0 G0 F G:Nat->Rat}{j:Nat}(h:OV F0 G0 j F G)(h0:G≠pz):OV F0 G0 (j+1) G (mn (pr F G)):=by
 obtain⟨hF,hG,hd,cF,cG,lF,lG⟩:=h;have hp:=AQ hG h0;have hr:=EE hF hG;have hs:=BX (Er hF hG h0);have c1:=CD.pr (n:=8) ((AB hF).mono Aa) hG h0 cF cG;refine⟨hG,Lb hr,fun E hE=>?_,cG.mono (QU Aa),c1.mn.mono ?_,Aa,by rw[QS hr];omega⟩
 ·rw[Oo hr,LV];exact hd E hE
 ·show _<=18*RX 44 j+16
  omega
theorem OV.end_{F0 G0 F G:Nat->Rat}{j:Nat}(h:OV F0 G0 j F G)(h0:G=pz):Lt F0 G0 (mn F):=by
 obtain⟨hF,hG,hd,_⟩:=h;subst h0;exact(Lt.zero hF).of hd
theorem OV.room{F0 G0 F G:Nat->Rat}{j:Nat}(h:OV F0 G0 j F G)(h0:G≠pz):j<=6/\RX 44 j+(pl F+2)*(RX 44 j+1)+2*RX 44 j+2<=68719476736/\pl (pr F G)<=6/\CD (9*RX 44 j+8) (pr F G):=by
 obtain⟨hF,hG,hd,cF,cG,lF,lG⟩:=h;have hp:=AQ hG h0;have hs:=BX (Er hF hG h0);have c1:=CD.pr (n:=8) ((AB hF).mono Aa) hG h0 cF cG;have h6:RX 44 j<=RX 44 6:=QU Aa;have h7:RX 44 6=1528549360:=rfl;have h8:(pl F+2)*(RX 44 j+1)<=9*(RX 44 j+1):=Nat.mul_le_mul_right _ Aa;exact⟨Aa,Aa,Aa,c1.mono Aa⟩
def lin(a:Rat):Nat->Rat:=cs (-a) pone
theorem DX:Bq 1 pone:=(Bq.pz 0).cs 1
theorem Di:Ae pone:=⟨1,DX⟩
theorem M4(x:Rat):ev pone x=1:=by unfold pone;rw[Oc _ Ae.pz,QI];grind
theorem Qo(a:Rat):Bq 2 (lin a):=DX.cs _
theorem Px(a:Rat):Ae (lin a):=⟨2,Qo a⟩
theorem XV(a x:Rat):ev (lin a) x=x - a:=by unfold lin;rw[Oc _ Di,M4];grind
theorem CD.pone:CD 3 pone:=by
 have:=CD.pz.cs 1;have e:qsz (1:Rat)=1:=by decide
 rw[e]at this;exact this
theorem CD.lin{a:Rat}(h:qsz a<=2):CD 6 (lin a):=by
 have:=CD.pone.cs (-a);rw[Gd]at this;exact this.mono Aa
def lgp(X:Nat->Rat)(i:Nat):Nat->Nat->Rat
 | 0=>pone
 | n+1=>if n=i then lgp X i n else cv (lgp X i n) (lin (X n))
theorem Fy(X:Nat->Rat)(i n:Nat):lgp X i (n+1)=if n=i then lgp X i n else cv (lgp X i n) (lin (X n)):=by rw[lgp]
theorem PK(X:Nat->Rat)(i n:Nat):Ae (lgp X i n):=by
  induction n with
  | zero=>exact Di
  | succ n ih => rw [Fy]; split
                 · exact ih
                 · exact ih.cv (Px _)
theorem Pv(X:Nat->Rat)(i n:Nat):Bq (n+1) (lgp X i n)/\(i < n->Bq n (lgp X i n)):=by
 induction n with
 | zero=>exact⟨DX,fun h=>Aa⟩
 | succ n ih =>
  rw[Fy];split
  ·exact⟨ih.1.mono Aa,fun _=>ih.1⟩
  ·have h1:=ih.1.cv (Qo (X n))
   refine⟨h1.mono Aa,fun h=>?_⟩;exact((ih.2 Aa).cv (Qo (X n))).mono Aa
theorem Yj(X:Nat->Rat){i n k:Nat}(hk:k < n)(hi:k≠i):ev (lgp X i n) (X k)=0:=by
 induction n with
 | zero=>omega
 | succ n ih =>
  rw[Fy];split
  ·rcases Nat.lt_or_ge k n with h | h
   ·exact ih h
   ·omega
  ·rw[Ei (PK _ _ _) (Px _),XV]
   rcases Nat.lt_or_ge k n with h | h
   ·rw[ih h];grind
   ·obtain rfl:k=n:=by omega
    grind
theorem WQ(X:Nat->Rat){i n:Nat}{x:Rat}(h:∀ k,k < n->k≠i->x≠X k):ev (lgp X i n) x≠0:=by
 induction n with
 | zero=>show ev pone x≠0;rw[M4];decide
 | succ n ih =>
  have h1:=ih fun k hk=>h k Aa;rw[Fy];split
  ·exact h1
  ·rename_i hne
   rw[Ei (PK _ _ _) (Px _),XV];intro e;rcases Rat.mul_eq_zero.1 e with e | e
   ·exact h1 e
   ·exact h n Aa hne Af
theorem gI{X:Nat->Rat}(i n:Nat)(hX:∀ k,k < n->qsz (X k)<=2)(hn:n<=4294967290):CD (3+7*n) (lgp X i n):=by
 induction n with
 | zero=>exact CD.pone
 | succ n ih =>
  have h1:=ih (fun k hk=>hX k Aa) Aa;rw[Fy];split
  ·exact h1.mono Aa
  ·exact(CD.cv (Pv X i n).1 Aa h1 (CD.lin (hX n Aa))).mono Aa
def hor(F:Nat->Rat)(x:Rat)(n i:Nat):Rat:=CR (n - i) (fun j=>F (i+j)) x
theorem TV(F:Nat->Rat)(x:Rat)(n:Nat):hor F x n n=0:=by unfold hor;rw[Nat.sub_self];rfl
theorem Np(F:Nat->Rat)(x:Rat){n i:Nat}(h:i < n):hor F x n i=hor F x n (i+1)*x+F i:=by
 unfold hor;obtain⟨m,hm⟩:∃ m,n - i=m+1:=⟨n - i - 1,Aa⟩
 rw[hm,DT,show n - (i+1)=m from by omega];have:tl (fun j=>F (i+j))=fun j=>F (i+1+j):=by funext j;show F (i+(j+1))=_;rw[show i+(j+1)=i+1+j from by omega]
 rw[this];show F (i+0)+_=_;rw[Nat.add_zero];grind
theorem RS(F:Nat->Rat)(x:Rat)(n:Nat):hor F x n 0=CR n F x:=by unfold hor;simp
theorem YP{F:Nat->Rat}{x:Rat}{s t:Nat}(hF:∀ i,qsz (F i)<=s)(hx:qsz x<=t)(n:Nat):qsz (CR n F x)<=1+n*(s+t+1):=by
 induction n generalizing F with
 | zero=>show qsz 0<=_;rw[IM];omega
 | succ n ih =>
  rw[DT];have h1:=EM (F 0) (x*CR n (tl F) x);have h2:=CG x (CR n (tl F) x);have h3:=ih (F:=tl F) fun i=>hF (i+1);have h4:=hF 0;rw[Nat.succ_mul];omega
theorem Tj{F:Nat->Rat}{x:Rat}{s t n:Nat}(hs:Bq n F)(hF:∀ i,qsz (F i)<=s)(hx:qsz x<=t):qsz (ev F x)<=1+n*(s+t+1):=by
 rw[EA hs];exact YP hF hx n
noncomputable def fZ(X Y:Nat->Rat)(n i:Nat):Nat->Rat:=psc (Y i / ev (lgp X i n) (X i)) (lgp X i n)
noncomputable def Zq(X Y:Nat->Rat)(n:Nat):Nat->Nat->Rat
 | 0=>pz
 | m+1=>pad (Zq X Y n m) (fZ X Y n m)
def Lv(X:Nat->Rat)(n:Nat):Prop:=∀ i k,i < n->k < i->X i≠X k
theorem Lv.ne{X:Nat->Rat}{n:Nat}(h:Lv X n){i k:Nat}(hi:i < n)(hk:k < n)(e:k≠i):X i≠X k:=by
 rcases Nat.lt_or_ge k i with l | l
 ·exact h i k hi l
 ·exact fun e2=>h k i hk Aa e2.symm
theorem UD(X Y:Nat->Rat){n i:Nat}(h:i < n):Bq n (fZ X Y n i):=((Pv X i n).2 h).psc _
theorem OW(X Y:Nat->Rat)(n:Nat):∀ m,m<=n->Bq n (Zq X Y n m):=by
 intro m;induction m with
 | zero=>intro _;exact Bq.pz n
 | succ m ih=>intro h;exact(ih Aa).pad (UD X Y h)
theorem WI{X Y:Nat->Rat}{n:Nat}(h:Lv X n){k:Nat}(hk:k < n):∀ m,m<=n->ev (Zq X Y n m) (X k)=if k < m then Y k else 0:=by
 intro m;induction m with
 | zero=>intro _;show ev pz _=_;rw[QI,if_neg Aa]
 | succ m ih =>
  intro hm;show ev (pad (Zq X Y n m) (fZ X Y n m)) (X k)=_;rw[IK ⟨n,OW X Y n m Aa⟩ ⟨n,UD X Y hm⟩,ih Aa];unfold fZ;rw[FM _ (PK _ _ _)];by_cases e:k=m
  ·subst e
   have:=WQ X (i:=k) (n:=n) (x:=X k) fun j hj hne=>h.ne hk hj hne;rw[if_neg Aa,if_pos Aa];grind
  ·rw[Yj X hk e]
   by_cases l:k < m
   ·rw[if_pos l,if_pos Aa];grind
   ·rw[if_neg l,if_neg Aa];grind
theorem Kt{X:Nat->Rat}{n:Nat}(h:Lv X n){F G:Nat->Rat}(hF:Bq n F)(hG:Bq n G)(e:∀ k,k < n->ev F (X k)=ev G (X k)):F=G:=by
 have hz:psb F G=pz:=by
  refine I7 (l:=(List.range n).map X) (by simpa using hF.psb hG) ?_ ?_
  ·rw[List.nodup_iff_pairwise_ne,List.pairwise_map]
   refine List.Pairwise.imp_of_mem (R:=fun a b=>a < b) ?_ List.pairwise_lt_range;intro a b ha hb hab;exact fun e=>h b a (List.mem_range.1 hb) hab e.symm
  ·intro x hx
   obtain⟨k,hk,rfl⟩:=List.mem_map.1 hx;rw[eO ⟨n,hF⟩ ⟨n,hG⟩,e k (List.mem_range.1 hk)];grind
 funext i
 have:=congrFun hz i;simp only[psb,pz]at this;grind
def NV:Nat->Nat
 | 0=>22
 | 1=>22
 | j+2=>NV j+8*(NV (j+1)+1)
def lH(j:Nat):Nat:=1+8*(NV j+8*(NV (j+1)+1)+NV (j+1)+1)
def UX:Nat->Nat
 | 0=>3
 | 1=>3
 | j+2=>UX j+(lH j+UX (j+1)+1)+1
theorem SA:∀ j,NV j<=NV (j+1)
 | 0=>Nat.le_refl _
 | j+1=>by show _<=NV j+8*(NV (j+1)+1);omega
theorem Sd:∀ j,UX j<=UX (j+1)
 | 0=>Nat.le_refl _
 | j+1=>by show _<=UX j+(lH j+UX (j+1)+1)+1;omega
theorem Jh{f:Nat->Nat}(h:∀ j,f j<=f (j+1)){i j:Nat}(k:i<=j):f i<=f j:=by
 induction j with
 | zero=>obtain rfl:i=0:=Aa;exact Nat.le_refl _
 | succ j ih =>
  rcases Nat.eq_or_lt_of_le k with e | e
  ·rw[e];exact Nat.le_refl _
  ·exact Nat.le_trans (ih Aa) (h j)
theorem bK:NV 7=7310526:=rfl
theorem eG:UX 7=76218651:=rfl
def PL(F0 G0:Nat->Rat)(j:Nat)(R S U N:Nat->Rat):Prop:=
 (Ae R/\Ae S/\Ae U/\Ae N)/\(∀ E,Ae E->(Dv E R/\Dv E S↔Dv E F0/\Dv E G0)) /\
 (∃ V W,Ae V/\Ae W/\pad (cv U F0) (cv V G0)=R/\pad (cv N F0) (cv W G0)=S) /\
 (CD (NV j) R/\CD (NV (j+1)) S/\CD (UX j) U/\CD (UX (j+1)) N)/\pl R<=7/\pl S+j<=7/\pl G0<=7 /\
 ((j=0/\U=pone/\N=pz/\S=G0)\/(1<=j/\pl N+pl R<=pl G0+1/\pl U+pl R<=pl G0+1/\pl S<=pl R/\R≠pz))
theorem PL.start{F G:Nat->Rat}(hF:Ae F)(hG:Ae G)(cF:CD 22 F)(cG:CD 22 G)(lF:pl F<=7)(lG:pl G<=7):PL F G 0 F G pone pz:=
 ⟨⟨hF,hG,Di,Ae.pz⟩,fun _ _=>Iff.rfl,⟨pz,pone,Ae.pz,Di,by rw[Ck,Cv];funext n;simp only[pad,pz];grind,by rw[Ck,Cv];funext n;simp only[pad,pz];grind⟩,
  ⟨cF,cG,CD.pone,CD.pz.mono (by show 1<=3;omega)⟩,lF,lG,lG,.inl ⟨rfl,rfl,rfl,rfl⟩⟩
theorem PL.step{F0 G0 R S U N:Nat->Rat}{j:Nat}(h:PL F0 G0 j R S U N)(h0:S≠pz):PL F0 G0 (j+1) S (pr R S) N (psb U (cv (pq R S) N)):=by
 obtain⟨⟨hR,hS,hU,hN⟩,hd,⟨V,W,hV,hW,e1,e2⟩,⟨cR,cS,cU,cN⟩,lR,lS,lG,hj⟩:=h;have hp:=AQ hS h0;have hs:=BX (Er hR hS h0);have hR8:Bq (8+pl S - 1) R:=(AB hR).mono Aa;have q8:=L9 hR8 hS h0;have hq:=Dy R S;have c1:=CD.pr hR8 hS h0 cR cS;have c2:=CD.pq hR8 hS h0 cR cS;refine⟨⟨hS,EE hR hS,hN,hU.psb (hq.cv hN)⟩,fun E hE=>by rw[LV];exact hd E hE,⟨W,psb V (cv (pq R S) W),hW,hV.psb (hq.cv hW),e2,?_⟩,
  ⟨cS,c1,cN,cU.psb (CD.cv q8 Aa c2 cN)⟩,Aa,Aa,lG,.inr ?_⟩
 ·show _=psb R (cv (pq R S) S)
  rw[FR,FR,Ai,Ai,<-e2,F8]
  conv=>rhs;rw[<-e1]
  funext n;simp only[pad,psb];grind
 ·rcases hj with⟨rfl,rfl,rfl,rfl⟩ | ⟨hj,d1,d2,d3,d4⟩
  ·have e:psb pone (cv (pq R S) pz)=pone:=by rw[Jz];funext n;simp only[psb,pz];grind
   have l1:=BX DX;rw[e,BJ];exact⟨Aa,Aa,Aa,Aa,h0⟩
  ·have q1:=L9 (n:=pl R - pl S+1) ((AB hR).mono Aa) hS h0
   have l1:pl (psb U (cv (pq R S) N))<=pl G0+1 - pl S:=BX (((AB hU).mono Aa).psb ((q1.cv (AB hN)).mono Aa));exact⟨Aa,Aa,Aa,Aa,h0⟩
theorem PL.room{F0 G0 R S U N:Nat->Rat}{j:Nat}(h:PL F0 G0 j R S U N)(h0:S≠pz):j<=6/\NV j<=7310526/\NV (j+1)<=7310526/\UX j<=76218651/\UX (j+1)<=76218651/\Bq 8 (pq R S)/\pl N<=8/\(∀ i,qsz (pq R S i)<=73105268) /\
  NV j+(pl R+2)*(NV (j+1)+1)+2*NV (j+1)+2<=68719476736/\(∀ i,qsz (cv (pq R S) N i)<=661060805)/\pl U<=8:=by
 obtain⟨⟨hR,hS,hU,hN⟩,hd,-,⟨cR,cS,cU,cN⟩,lR,lS,lG,hj⟩:=h;have hp:=AQ hS h0;have hR8:Bq (8+pl S - 1) R:=(AB hR).mono Aa;have q8:=L9 hR8 hS h0;have b1:NV j<=7310526:=by rw[<-bK];exact Jh SA Aa
 have b2:NV (j+1)<=7310526:=by rw[<-bK];exact Jh SA Aa
 have a1:UX j<=76218651:=by rw[<-eG];exact Jh Sd Aa
 have a2:UX (j+1)<=76218651:=by rw[<-eG];exact Jh Sd Aa
 have c2:=CD.pq hR8 hS h0 cR cS;have c3:=CD.cv q8 Aa c2 cN;have h8:(pl R+2)*(NV (j+1)+1)<=9*(NV (j+1)+1):=Nat.mul_le_mul_right _ Aa;have lN:pl N<=8/\pl U<=8:=by
  rcases hj with⟨rfl,rfl,rfl,rfl⟩ | ⟨hj,d1,d2,d3,d4⟩
  ·have:=BX DX
   rw[BJ];omega
  ·omega
 refine⟨Aa,b1,b2,a1,a2,q8,lN.1,fun i=>?_,Aa,fun i=>?_,lN.2⟩
 ·have:=PM hR8 hS h0 cR cS i;omega
 ·have:=c3.elem i;omega
theorem PL.end_{F0 G0 R S U N:Nat->Rat}{j:Nat}(h:PL F0 G0 j R S U N)(h0:S=pz)(hF:Ae F0)(hG:Ae G0)(hg:G0≠pz)(cF:CD 22 F0)(cG:CD 22 G0)(lF:pl F0<=7) :
  R≠pz/\CD 7310526 R/\CD 14621052 (mn R)/\CD 76218651 U/\CD 83529177 (psc (1 / ld R) U)/\pl U<=7/\1<=pl R/\pl R<=7 /\
  pq G0 (mn R)≠pz/\CD 1052715993 (pq G0 (mn R))/\pl (pq G0 (mn R))<=7 /\
  CD 8505257129 (pr (psc (1 / ld R) U) (pq G0 (mn R)))/\pl (pr (psc (1 / ld R) U) (pq G0 (mn R)))<=7 /\
  CD 8519878205 (psb (mn R) (cv (pr (psc (1 / ld R) U) (pq G0 (mn R))) F0))/\pl (psb (mn R) (cv (pr (psc (1 / ld R) U) (pq G0 (mn R))) F0))<=14 /\
  (∀ i,qsz (pq (psb (mn R) (cv (pr (psc (1 / ld R) U) (pq G0 (mn R))) F0)) G0 i)<=8519878572) /\
  kI F0 G0 (mn R) (pr (psc (1 / ld R) U) (pq G0 (mn R))) (pq (psb (mn R) (cv (pr (psc (1 / ld R) U) (pq G0 (mn R))) F0)) G0):=by
 subst h0;obtain⟨⟨hR,hS,hU,hN⟩,hd,⟨V,W,hV,hW,e1,e2⟩,⟨cR,cS,cU,cN⟩,lR,lS,lG,hj⟩:=h;rcases hj with⟨rfl,rfl,rfl,e⟩ | ⟨hj,d1,d2,d3,d4⟩
 ·exact absurd e.symm hg
 have pR:=AQ hR d4;have cR':CD 7310526 R:=cR.mono (by rw[<-bK];exact Jh SA Aa);have cU':CD 76218651 U:=cU.mono (by rw[<-eG];exact Jh Sd Aa);have hD:=Lb hR;have cD:CD 14621052 (mn R):=cR'.mn.mono Aa;have hI:Lt F0 G0 (mn R):=(Lt.zero hR).of hd;have hD0:=jJ hR d4;have lD:=QS hR;obtain⟨A,hA,eA⟩:=hI.2.2.1;obtain⟨Q,hQ,eQ⟩:=hI.2.2.2.1;have hper:pq G0 (mn R)=Q:=by
  have:=(Nn hQ hD hD0).1;rw[<-eQ]at this;exact this
 have hQ0:Q≠pz:=fun e=>hg (by rw[eQ,e,Cv]);have lQ:pl G0=pl Q+pl (mn R) - 1:=by rw[eQ];exact Ee hQ hD hQ0 hD0
 have pQ:=AQ hQ hQ0;have cQ:CD 1052715993 Q:=by
  rw[<-hper];exact(CD.pq (n:=8) ((AB hG).mono Aa) hD hD0 cG cD).mono Aa
 have c1:qsz (1 / ld R)<=7310526:=by
  have e:1 / ld R=(ld R)⁻¹ := by rw[Rat.div_def,Rat.one_mul]
  rw[e];exact Nat.le_trans (OY _) (cR'.elem _)
 have cU1:CD 83529177 (psc (1 / ld R) U):=(cU'.psc _).mono Aa;have hU1:Ae (psc (1 / ld R) U):=hU.psc _;have lU1:pl (psc (1 / ld R) U)<=7:=Nat.le_trans (BX ((AB hU).psc _)) Aa;rw[hper];obtain⟨U1,hU1e⟩:∃ U1,U1=psc (1 / ld R) U:=⟨_,rfl⟩
 rw[<-hU1e]at cU1 hU1 lU1 ⊢;have hU2:=EE hU1 hQ;have cU2:CD 8505257129 (pr U1 Q):=(CD.pr (n:=8) ((AB hU1).mono Aa) hQ hQ0 cU1 cQ).mono Aa;have sU2:=Er hU1 hQ hQ0;have lU2:=BX sU2;have cX:CD 8519878205 (psb (mn R) (cv (pr U1 Q) F0)):=(cD.psb (CD.cv sU2 Aa cU2 cF)).mono Aa;have hX:Ae (psb (mn R) (cv (pr U1 Q) F0)):=hD.psb (hU2.cv hF);have lX:pl (psb (mn R) (cv (pr U1 Q) F0))<=14:=BX (((AB hD).mono Aa).psb (((AB hU2).cv (AB hF)).mono Aa))
 have key:psb (mn R) (cv (pr U1 Q) F0)=cv (pad (psc (1 / ld R) V) (cv (pq U1 Q) A)) G0:=by
  have k1:cv (pr U1 Q) F0=psb (cv U1 F0) (cv (cv (pq U1 Q) Q) F0):=by
   unfold pr;rw[FR]
  have k2:cv (cv (pq U1 Q) Q) F0=cv (cv (pq U1 Q) A) G0:=by
   rw[Ai,Ai];congr 1
   conv=>lhs;rw[eA]
   conv=>rhs;rw[eQ]
   rw[<-Ai,<-Ai,AX Q A]
  have k3:mn R=pad (cv U1 F0) (cv (psc (1 / ld R) V) G0):=by
   rw[hU1e,Cz,Cz];show psc (1 / ld R) R=_
   conv=>lhs;rw[<-e1]
   funext n;simp only[pad,psc];grind
  rw[k1,k2,D5]
  conv=>lhs;rw[k3]
  funext n;simp only[pad,psb];grind
 have hB:Ae (pad (psc (1 / ld R) V) (cv (pq U1 Q) A)):=(hV.psc _).pad ((Dy _ _).cv hA);have hV2:pq (psb (mn R) (cv (pr U1 Q) F0)) G0=pad (psc (1 / ld R) V) (cv (pq U1 Q) A):=by
  rw[key];exact(Nn hB hG hg).1
 refine⟨d4,cR',cD,cU',cU1,Aa,pR,lR,hQ0,cQ,Aa,cU2,Aa,cX,lX,fun i=>?_,hI,hU2,Dy _ _,?_,sU2.mono Aa⟩
 ·have:=PM (n:=15) ((AB hX).mono Aa) hG hg cX cG i
  omega
 ·rw[hV2,<-key]
  funext n;simp only[pad,psb];grind
theorem DL.at_{base n c:Nat}{e:TypeId}{w:World}{A:Option Addr}{l:List Rat}(h:DL base e w (.slice A n c) l){j:Nat}(hj:j < l.length) :
  ∃ g o b A1 n c b' A1' n' c',A=some ⟨g,o,none⟩/\base<=g/\w.cell? ⟨g,o+j*4,none⟩=some (.bool b)/\w.cell? ⟨g,o+j*4+1,none⟩=some (.slice A1 n c)/\w.cell? ⟨g,o+j*4+2,none⟩=some (.bool b')/\w.cell? ⟨g,o+j*4+3,none⟩=some (.slice A1' n' c')/\BQ w (.agg #[.bool b,.slice A1 n c,.bool b',.slice A1' n' c']) l[j]:=by
 obtain⟨A',c',e1,h2,h3,h4⟩:=DL.row h;cases e1;exact MM.at_ h4 hj
theorem DL.shape{base:Nat}{e:TypeId}{w:World}{v:Value}{l:List Rat}(h:DL base e w v l):∃ A c,v = .slice A l.length c/\l.length<=c/\c<=9223372036854775807:=by
 obtain⟨A',c',e1,h2,h3,h4⟩:=DL.row h;exact⟨A',c',e1,h2,h3⟩
theorem FV.upd{base:Nat}{G:List Nat}{w w':World}{v:Value}{F:Nat->Rat}(h:FV base w v F)(U:Cj G w w')(hG:∀ g∈G,g < base):FV base w' v F:=by
 obtain⟨l,h1,h2,h3⟩:=h;exact⟨l,CE.upd h1 U hG fun _ _ q=>q.kd U.kd,h2,h3⟩
theorem Qw.own{w:World}{v:Value}{base:Nat}{q:Rat}{t:TypeId}(h:Qw w v base q t):DL base t w v [q]:=by
 obtain⟨g,cs,rfl,h1,h2,h3,h4⟩:=h;refine⟨[cs],rfl,fun c hc=>by simp at hc;subst hc;exact h3,⟨by simp[h3],.inr ⟨g,1,cs,rfl,h1,h2,Ac,by simp[maxLen],by simp[h3],?_⟩⟩,fun j h h'=>?_⟩
 ·simp only[List.flatMap_cons,List.flatMap_nil,List.append_nil]
  exact List.take_of_length_le (by simp[h3])
 ·have:j=0:=by simp at h;omega
  subst this;exact h4
theorem AC.of_one{w:World}{A:Option Addr}{c N:Nat}{b:Bool}{n:Int}(h:BC w (.slice A 1 c) [N])(h0:N≠0)(hn:n=if b then -(N:Int)else N):AC w (.agg #[.bool b,.slice A 1 c]) n:=by
 refine⟨b,[N],⟨_,rfl,h⟩,?_,fun _=>by simpa using h0,fun _=>Ac⟩;rw[hn];unfold iv;simp[nv]
theorem AC.of_nil{w:World}:AC w (.agg #[.bool false,.slice none 0 0]) 0:=AC.zero w
def Rf(w:World)(v:Value)(ns:List Int):Prop:=∃ g c,v = .slice (some ⟨g,0,none⟩) ns.length c/\ns.length<=c/\c<=9223372036854775807/\∀ j (h:j < ns.length),w.cell? ⟨g,j,none⟩=some (.int .i64 ns[j])
theorem Rf.new(w:World)(t:TypeId)(ns:List Int)(h:ns.length<=1000):Rf (w.alloc (.cells (ns.map fun n=>Value.int .i64 n).toArray t)) (.slice (some ⟨w.heap.size,0,none⟩) ns.length ns.length) ns:=
 ⟨_,_,rfl,Nat.le_refl _,Aa,fun j hj=>by
  rw[cell_of_row _ w.heap.size j _ t (0,0) (heap_alloc_new w _)];simp[hj]⟩
theorem RV.at_{base n c:Nat}{w:World}{A:Option Addr}{l:List Rat}(h:RV base w (.slice A n c) l){j:Nat}(hj:j < l.length) :
  ∃ g o b A1 n c b' A1' n' c',A=some ⟨g,o,none⟩/\base<=g/\w.cell? ⟨g,o+j*4,none⟩=some (.bool b)/\w.cell? ⟨g,o+j*4+1,none⟩=some (.slice A1 n c)/\w.cell? ⟨g,o+j*4+2,none⟩=some (.bool b')/\w.cell? ⟨g,o+j*4+3,none⟩=some (.slice A1' n' c')/\BQ w (.agg #[.bool b,.slice A1 n c,.bool b',.slice A1' n' c']) l[j]:=by
 obtain⟨A',c',e1,h2,h3,h4⟩:=h;have e5:A'=A:=by injection e1 with h1;exact h1.symm
 subst e5;exact MM.at_ h4 hj
theorem Wv{d:Nat}(h0:d≠0)(h1:d < 4294967296)(hb:d < 2^Lib.bitLen d)(hb2:2^Lib.bitLen d<=2*d):0 < Lib.bitLen d/\2^(Lib.bitLen d - 1)<=d:=by
 generalize Lib.bitLen d=b at *;rcases b with _ | b
 ·simp at hb;omega
 ·rw[Nat.pow_succ]at hb2
  exact⟨Aa,by rw[Nat.add_sub_cancel];omega⟩
theorem BL.uniq{n b c:Nat}(h:BL n b)(k:BL n c):b=c:=Nat.le_antisymm (h.le k.1) (k.le h.1)
theorem BL.sz{n b:Nat}(h:BL n b):b<=32*sz n:=h.le (by rw[<-Cq];exact Cy n)
theorem Rz{x y:Int}(h:x.sign=y.sign):x.sign*((x.natAbs:Int) - y.natAbs).sign=(x - y).sign:=by
 rcases Int.lt_trichotomy x 0 with h1 | h1 | h1
 ·rw[Int.sign_eq_neg_one_of_neg h1]at h ⊢
  have h2:y < 0:=by
   rcases Int.lt_trichotomy y 0 with k | k | k
   ·exact k
   ·rw[k]at h;cases h
   ·rw[Int.sign_eq_one_of_pos k]at h;cases h
  rw[show(x.natAbs:Int) - y.natAbs = -(x - y) by omega,Int.sign_neg];omega
 ·subst h1
  have:y=0:=by
   rcases Int.lt_trichotomy y 0 with k | k | k
   ·rw[Int.sign_eq_neg_one_of_neg k]at h;cases h
   ·exact k
   ·rw[Int.sign_eq_one_of_pos k]at h;cases h
  subst this;rfl
 ·rw[Int.sign_eq_one_of_pos h1]at h ⊢
  have h2:0 < y:=by
   rcases Int.lt_trichotomy y 0 with k | k | k
   ·rw[Int.sign_eq_neg_one_of_neg k]at h;cases h
   ·rw[k]at h;cases h
   ·exact k
  rw[show(x.natAbs:Int) - y.natAbs=x - y by omega];omega
theorem Ty{x y:Int}(h:x.sign≠y.sign):(x.sign - y.sign).sign=(x - y).sign:=by
 rcases Int.lt_trichotomy x 0 with h1 | h1 | h1<;>rcases Int.lt_trichotomy y 0 with h2 | h2 | h2
 all_goals first
  | (rw[Int.sign_eq_neg_one_of_neg h1,Int.sign_eq_neg_one_of_neg h2]at h;exact absurd rfl h)
  | (rw[Int.sign_eq_one_of_pos h1,Int.sign_eq_one_of_pos h2]at h;exact absurd rfl h)
  | (subst h1;subst h2;exact absurd rfl h)
  | (rw[Int.sign_eq_neg_one_of_neg h1,Int.sign_eq_one_of_pos h2,Int.sign_eq_neg_one_of_neg (show x - y < 0 by omega)];rfl)
  | (rw[Int.sign_eq_one_of_pos h1,Int.sign_eq_neg_one_of_neg h2,Int.sign_eq_one_of_pos (show 0 < x - y by omega)];rfl)
  | (subst h1;simp[Int.sign_neg])
  | (subst h2;simp)
theorem JK(x:Int) : -1<=x.sign/\x.sign<=1:=by
 rcases Int.lt_trichotomy x 0 with h | h | h
 ·rw[Int.sign_eq_neg_one_of_neg h];omega
 ·subst h;simp
 ·rw[Int.sign_eq_one_of_pos h];omega
theorem LZ.trim{base:Nat}{w:World}{A:Option Addr}{l:List Int}(h:LJ base w A l){c:Nat}(hl:l.length<=c)(hc:c<=9223372036854775807:=by omega):LZ base w (.slice A (BR (zq l)).length c) (Rq l):=by
 refine⟨A,c,by rw[Ob],by rw[Ob];have:=Xz l;omega,hc,Dx.take h _⟩
theorem GQ{l:List Int}{m:Nat}(hm:m<=l.length)(hz:∀ j,m<=j->(h:j < l.length)->l[j]=0)(hlast:∀ h:m - 1 < l.length,0 < m->l[m - 1]≠0):(BR (zq l)).length=m:=by
 have:=JI (l:=zq l) (m:=m) (by rw[En];exact hm) (fun j h1 h2=>by rw[En]at h2;rw[Ms h2,hz j h1 h2];rfl) (fun h h0=>by
  rw[En]at h;rw[Ms h];intro e;exact hlast h h0 (by exact_mod_cast e))
 rw[this,List.length_take,En];omega
theorem Cn.isZP{base:Nat}{w:World}{g:Nat}{t:TypeId}{l:List Int}{F:Nat->Rat}(h:Cn w g t l)(hF:cz l=F)(hb:base<=g){c:Nat}(hc:l.length<=c)(hm:c<=9223372036854775807):AY base w (.slice (some ⟨g,0,none⟩) (BR (zq l)).length c) F:=
 AY.of_trim (LZ.trim (h.row hb) hc hm) hF
theorem Gt(l:List Int):(BR (zq l)).length=pl (cz l):=by unfold cz;rw[<-(Fu (zq l)).pl,GH]
theorem Bh.zero(w:World):Bh w (.agg #[.bool false,.slice none 0 0]) 0:=(Kb w).has Ab
def dl:Nat->(Nat->Rat)->Nat
 | 0,_=>1
 | n+1,F=>Nat.lcm (dl n F) (F n).den
theorem Qk(n:Nat)(F:Nat->Rat):dl (n+1) F=Nat.lcm (dl n F) (F n).den:=rfl
theorem MK(F:Nat->Rat):∀ n,0 < dl n F
 | 0=>by show 0 < 1;omega
 | n+1=>Nat.lcm_pos (MK F n) (F n).den_pos
theorem Tc(F:Nat->Rat):∀ n i,i < n->(F i).den∣dl n F
 | n+1,i,h=>by
  rw[Qk];rcases Nat.lt_or_ge i n with l | l
  ·exact Nat.dvd_trans (Tc F n i l) (Nat.dvd_lcm_left _ _)
  ·obtain rfl:i=n:=by omega
   exact Nat.dvd_lcm_right _ _
theorem aD(n:Nat)(F:Nat->Rat):dl n F*((F n).den / Nat.gcd (dl n F) (F n).den)=dl (n+1) F:=by
 rw[Qk,Nat.lcm,Nat.mul_div_assoc _ (Nat.gcd_dvd_right _ _)]
theorem Wo{F:Nat->Rat}{s:Nat}(h:∀ i,qsz (F i)<=s):∀ n,sz (dl n F)<=1+n*s
 | 0=>by show sz 1<=_;have:sz 1=1:=Ab;omega
 | n+1=>by
  have h1:=Wo h n;have h2:=h n;have h3:sz (dl (n+1) F)<=sz (dl n F*(F n).den):=Bf (by rw[Qk];exact Nat.div_le_self _ _);have h4:=Ca (dl n F) (F n).den;unfold qsz at h2;rw[Nat.succ_mul];omega
def Dp(n:Nat)(F:Nat->Rat):Nat->Rat:=psc ((dl n F:Nat):Rat) F
theorem XW{n:Nat}{F:Nat->Rat}(h:Bq n F)(i:Nat):Dp n F i=(((F i).num*((dl n F:Int) / ((F i).den:Int)):Int):Rat):=by
 rcases Nat.lt_or_ge i n with hi | hi
 ·obtain⟨k,hk⟩:=Tc F n i hi
  have hd:((F i).den:Int)≠0:=by have:=(F i).den_pos;omega
  have e:(dl n F:Int) / ((F i).den:Int)=k:=by rw[hk,Int.natCast_mul,Int.mul_ediv_cancel_left _ hd]
  rw[e];show((dl n F:Nat):Rat)*F i=_;rw[hk];have h1:F i=((F i).num:Rat) / ((F i).den:Rat):=Gn _;have hd':((F i).den:Rat)≠0:=Jp (F i).den_pos;have h2:(((F i).num*(k:Int):Int):Rat)=((F i).num:Rat)*(k:Rat):=by rw[Rat.intCast_mul];rfl
  have h3:(((F i).den*k:Nat):Rat)=((F i).den:Rat)*(k:Rat):=by rw[Rat.natCast_mul]
  rw[h2,h3];generalize ((F i).num:Rat)=a at *;generalize ((F i).den:Rat)=d at *;rw[h1];grind
 ·show((dl n F:Nat):Rat)*F i=_
  rw[h i hi];simp
theorem Fa{n:Nat}{F:Nat->Rat}(h:Bq n F):ZI (Dp n F):=fun i=>⟨_,XW h i⟩
theorem Z6{n:Nat}{F:Nat->Rat}(h:Bq n F)(i:Nat):(Dp n F i).num=(F i).num*((dl n F:Int) / ((F i).den:Int)):=by rw[XW h];rfl
theorem EL{n:Nat}{F:Nat->Rat}(h:Ae F):Ae (Dp n F):=h.psc _
theorem Qx(n:Nat)(F:Nat->Rat):((dl n F:Nat):Rat)≠0:=Jp (MK F n)
theorem Nw{n:Nat}{F:Nat->Rat}(h:Ae F):pl (Dp n F)=pl F:=CK (Qx n F) h
theorem OH{n:Nat}{F:Nat->Rat}(h:Ae F)(h0:F≠pz):Dp n F≠pz:=fun e=>h0 ((BF h).1 (by rw[<-Nw (n:=n) h,e,BJ]))
theorem P9{n:Nat}{F:Nat->Rat}{s:Nat}(h:∀ i,qsz (F i)<=s)(i:Nat):qsz (Dp n F i)<=1+n*s+1+s:=by
 have h1:=Wo h n;have h2:=h i;have h3:=CG ((dl n F:Nat):Rat) (F i);have h4:qsz ((dl n F:Nat):Rat)<=1+n*s+1:=by
  change qsz (((dl n F:Nat):Int):Rat)<=_
  rw[Bz,Int.natAbs_natCast];omega
 show qsz (((dl n F:Nat):Rat)*F i)<=_;omega
noncomputable def LG(n:Nat)(F:Nat->Rat):Rat:=ld F / ld (pp (Dp n F))
theorem JV{a:Rat}(ha:a≠0){F:Nat->Rat}(h:Ae F):ld (psc a F)=a*ld F:=by unfold ld;rw[CK ha h];rfl
theorem aS{F:Nat->Rat}(hz:ZI F)(h:Ae F)(h0:F≠pz):ld (pp F)=ld F / (pcn F:Rat):=by
 have hp':(pcn F:Rat)≠0:=fun e=>Ew hz h h0 (by exact_mod_cast e);unfold pp;rw[JV (KX hp') h];grind
theorem Ta{n:Nat}{F:Nat->Rat}(hs:Bq n F)(h0:F≠pz):LG n F=(pcn (Dp n F):Rat) / ((dl n F:Nat):Rat)/\psc (LG n F) (pp (Dp n F))=F:=by
 have h:Ae F:=⟨n,hs⟩
 have hz:=Fa hs;have hf:=EL (n:=n) h;have hne:=OH (n:=n) h h0;have hp':(pcn (Dp n F):Rat)≠0:=fun e=>Ew hz hf hne (by exact_mod_cast e);have hl:=CW h h0;have hd:=Qx n F;have e1:ld (Dp n F)=((dl n F:Nat):Rat)*ld F:=JV hd h;have e2:LG n F=(pcn (Dp n F):Rat) / ((dl n F:Nat):Rat):=by
  unfold LG;rw[aS hz hf hne,e1];grind
 refine⟨e2,?_⟩;rw[e2];unfold pp Dp;rw[C9,C9];have e3:(pcn (psc ((dl n F:Nat):Rat) F):Rat) / ((dl n F:Nat):Rat)*(1 / (pcn (psc ((dl n F:Nat):Rat) F):Rat))*((dl n F:Nat):Rat)=1:=by
  change (pcn (psc ((dl n F:Nat):Rat) F):Rat)≠0 at hp'
  grind
 rw[e3,Cu]
theorem Qz{F:Nat->Rat}(hz:ZI F)(h:Ae F)(h0:F≠pz):cn (pp F)=1:=by
 have hpf:=Db h;have hp:=Ew hz h h0;have hc:=Jw hz h h0;have key:(pcn F*(cn (pp F):Int))∣(cn F:Int):=Wz fun i=>by
  obtain⟨k,hk⟩:=FP hpf i;obtain⟨j,hj⟩:=J5 h i;have e:=NG hz h h0 i;rw[hj,Int.mul_ediv_cancel_left _ hp]at e;have e2:(pp F i).num=j:=by rw[e];rfl
  rw[hj,<-e2,hk];exact⟨k,by rw[Int.mul_assoc]⟩
 have h1:=Int.natAbs_dvd_natAbs.2 key;rw[Int.natAbs_mul,Fj]at h1;have h2:cn F*cn (pp F)∣cn F*1:=by simpa using h1
 exact Nat.eq_one_of_dvd_one (Nat.dvd_of_mul_dvd_mul_left (Nat.pos_of_ne_zero hc) h2)
theorem LM{F:Nat->Rat}(hz:ZI F)(h:Ae F)(h0:F≠pz):0 < ld (pp F):=by
 rw[aS hz h h0];have hl:=CW h h0;have hc:=Jw hz h h0;have hc':(0:Rat) < (cn F:Rat):=by exact_mod_cast Nat.pos_of_ne_zero hc
 by_cases hn:ld F < 0
 ·have e:pcn F = -(cn F:Int):=by unfold pcn;rw[if_pos hn]
  rw[e];have e2:((-(cn F:Int):Int):Rat) = -(cn F:Rat):=by rw[Rat.intCast_neg];rfl
  rw[e2];have:ld F / -(cn F:Rat)=(-ld F) / (cn F:Rat):=by grind
  rw[this,Rat.div_def];exact Rat.mul_pos Af (Rat.inv_pos.2 hc')
 ·have e:pcn F=(cn F:Int):=by unfold pcn;rw[if_neg hn]
  rw[e];have e2:(((cn F:Nat):Int):Rat)=(cn F:Rat):=rfl;rw[e2,Rat.div_def];exact Rat.mul_pos Af (Rat.inv_pos.2 hc')
theorem Yc{F:Nat->Rat}(hz:ZI F)(h:Ae F):pp (pp F)=pp F:=by
 by_cases h0:F=pz
 ·rw[h0,IR,IR]
 ·have h1:pcn (pp F)=1:=by
   unfold pcn;rw[if_neg (by have:=LM hz h h0;grind),Qz hz h h0];rfl
  show psc (1 / ((pcn (pp F):Int):Rat)) (pp F)=pp F;rw[h1];have:1 / ((1:Int):Rat)=1:=by decide +kernel
  rw[this,Cu]
theorem NL{P:Nat->Prop}(h:∃ i,P i):∃ i,P i/\∀ j,j < i->¬ P j:=Mx h
def kZ(p:Nat):Prop:=1 < p/\∀ k,k∣p->k=1\/k=p
theorem cZ{d:Nat}(h:1 < d):∃ p,kZ p/\p∣d:=by
 obtain⟨p,⟨h1,h2⟩,h3⟩:=NL (P:=fun p=>1 < p/\p∣d) ⟨d,h,Nat.dvd_refl d⟩;refine⟨p,⟨h1,fun k hk=>?_⟩,h2⟩;have hkp:=Nat.le_of_dvd Aa hk;have hk0:k≠0:=fun e=>by subst e;have:=Nat.eq_zero_of_zero_dvd hk;omega
 by_cases e:k=p
 ·exact .inr e
 ·exact .inl (by
   by_cases e1:1 < k
   ·exact absurd ⟨e1,Nat.dvd_trans hk h2⟩ (h3 k Aa)
   ·omega)
theorem kZ.mul{p:Nat}(h:kZ p){a b:Int}(k:(p:Int)∣a*b):(p:Int)∣a\/(p:Int)∣b:=by
 rw[Int.ofNat_dvd_left,Int.natAbs_mul]at k;rw[Int.ofNat_dvd_left,Int.ofNat_dvd_left];rcases h.2 _ (Nat.gcd_dvd_left p a.natAbs)with e | e
 ·exact .inr (Nat.Coprime.dvd_of_dvd_mul_left e k)
 ·exact .inl (by rw[<-e];exact Nat.gcd_dvd_right _ _)
def Dz(p:Nat)(x:Rat):Prop:=∃ z:Int,x=(p:Rat)*(z:Rat)
theorem Dz.add{p:Nat}{x y:Rat}(h:Dz p x)(k:Dz p y):Dz p (x+y):=by
 obtain⟨a,rfl⟩:=h;obtain⟨b,rfl⟩:=k;exact⟨a+b,by rw[Rat.intCast_add];grind⟩
theorem Dz.sub{p:Nat}{x y:Rat}(h:Dz p x)(k:Dz p y):Dz p (x - y):=by
 obtain⟨a,rfl⟩:=h;obtain⟨b,rfl⟩:=k;exact⟨a - b,by rw[Rat.intCast_sub];grind⟩
theorem Dz.zero(p:Nat):Dz p 0:=⟨0,Ac⟩
theorem Dz.mul{p:Nat}{x:Rat}(h:Dz p x)(y:Int):Dz p (x*(y:Rat)):=by
 obtain⟨a,rfl⟩:=h;exact⟨a*y,by rw[Rat.intCast_mul];grind⟩
theorem PW{p:Nat}{n:Int}:Dz p (n:Rat)↔(p:Int)∣n:=by
 constructor
 ·rintro⟨z,h⟩
  refine⟨z,?_⟩;rw[show((p:Nat):Rat)=(((p:Nat):Int):Rat)from rfl,<-Rat.intCast_mul]at h;exact KG h
 ·rintro⟨z,rfl⟩
  exact⟨z,by rw[Rat.intCast_mul];rfl⟩
theorem iP{p n i:Nat}{f:Nat->Rat}(hi:i < n)(h:∀ k,k < n->k≠i->Dz p (f k)):Dz p (sm n f - f i):=by
 induction n with
 | zero=>omega
 | succ n ih =>
  rw[Br];by_cases e:i=n
  ·subst e
   rw[show sm i f+f i - f i=sm i f from by grind];clear ih hi;have:∀ m,m<=i->Dz p (sm m f):=fun m=>by
    induction m with
    | zero=>intro _;exact Dz.zero p
    | succ m ih=>intro hm;rw[Br];exact(ih Aa).add (h m Aa Aa)
   exact this i (Nat.le_refl _)
  ·have h1:=ih Aa fun k hk=>h k Aa
   rw[show sm n f+f n - f i=(sm n f - f i)+f n from by grind];exact h1.add (h n Aa fun q=>e q.symm)
theorem ZI.cv{F G:Nat->Rat}(h:ZI F)(k:ZI G):ZI (cv F G):=fun i=>by
 rw[QA];have:∀ n (f:Nat->Rat),(∀ j,∃ z:Int,f j=(z:Rat))->∃ z:Int,sm n f=(z:Rat):=fun n f hf=>by
  induction n with
  | zero=>exact⟨0,rfl⟩
  | succ n ih =>
   obtain⟨a,ha⟩:=ih;obtain⟨b,hb⟩:=hf n;exact⟨a+b,by rw[Br,ha,hb,Rat.intCast_add]⟩
 refine this _ _ fun j=>?_;obtain⟨a,ha⟩:=h j;obtain⟨b,hb⟩:=k (i - j);exact⟨a*b,by rw[ha,hb,Rat.intCast_mul]⟩
theorem ML{F:Nat->Rat}(h:Ae F){d:Nat}:d∣cn F↔∀ i,(d:Int)∣(F i).num:=
 ⟨fun k i=>Int.dvd_trans (Int.natCast_dvd_natCast.2 k) (FP h i),fun k=>Int.natCast_dvd_natCast.1 (Wz k)⟩
theorem gN{F G:Nat->Rat}(zF:ZI F)(zG:ZI G)(fF:Ae F)(fG:Ae G)(hF:cn F=1)(hG:cn G=1):cn (cv F G)=1:=by
 have nF:F≠pz:=fun e=>by rw[e,OG]at hF;omega
 have nG:G≠pz:=fun e=>by rw[e,OG]at hG;omega
 have h0:cn (cv F G)≠0:=Jw (zF.cv zG) (fF.cv fG) fun e=>by
  have:=Ee fF fG nF nG;have a:=AQ fF nF;have b:=AQ fG nG;rw[e,BJ]at this;omega
 by_cases h1:cn (cv F G)=1
 ·exact h1
 ·obtain⟨p,hp,hd⟩:=cZ (d:=cn (cv F G)) Aa
  have hall:=(ML (fF.cv fG)).1 hd;have ex:∀ {H:Nat->Rat},Ae H->cn H=1->∃ i,¬ (p:Int)∣(H i).num:=fun {H} fH hH=>by
   by_cases k:∃ i,¬ (p:Int)∣(H i).num
   ·exact k
   ·have:=(ML fH (d:=p)).2 fun i=>by
     by_cases q:(p:Int)∣(H i).num
     ·exact q
     ·exact absurd ⟨i,q⟩ k
    rw[hH]at this;have:=Nat.le_of_dvd Aa this;have:=hp.1;omega
  obtain⟨i,hi,hi'⟩:=NL (ex fF hF);obtain⟨j,hj,hj'⟩:=NL (ex fG hG);have hs:=iP (p:=p) (n:=i+j+1) (i:=i) (f:=fun k=>F k*G (i+j - k)) Aa fun k hk hne=>by
   rcases Nat.lt_or_ge k i with a | a
   ·have:Dz p (F k):=by
     rw[zF.num k];refine PW.2 ?_;by_cases q:(p:Int)∣(F k).num
     ·exact q
     ·exact absurd q (hi' k a)
    show Dz p (F k*G (i+j - k));rw[zG.num (i+j - k)];exact this.mul _
   ·have:Dz p (G (i+j - k)):=by
     rw[zG.num];refine PW.2 ?_;by_cases q:(p:Int)∣(G (i+j - k)).num
     ·exact q
     ·exact absurd q (hj' _ Aa)
    show Dz p (F k*G (i+j - k));rw[Rat.mul_comm,zF.num k];exact this.mul _
  rw[<-QA]at hs;simp only[show i+j - i=j from by omega]at hs;have ht:Dz p (cv F G (i+j)):=by rw[(zF.cv zG).num];exact PW.2 (hall _)
  have hu:=ht.sub hs;rw[show cv F G (i+j) - (cv F G (i+j) - F i*G j)=F i*G j from Af,zF.num i,zG.num j,<-Rat.intCast_mul]at hu;rcases hp.mul (PW.1 hu)with q | q
  ·exact absurd q hi
  ·exact absurd q hj
theorem WY(a:Int){F:Nat->Rat}(z:ZI F):∀ n,ct n (psc (a:Rat) F)=a.natAbs*ct n F
 | 0=>by show 0=_*0;omega
 | n+1=>by
  rw[Ha,Ha,WY a z n];have:(psc (a:Rat) F n).num=a*(F n).num:=by show((a:Rat)*F n).num=_;rw[z.num n,num_mul];rfl
  rw[this];show Nat.gcd _ _=_*Nat.gcd _ _;rw[Int.natAbs_mul,Int.natAbs_natCast,Int.natAbs_natCast,Nat.gcd_mul_left]
theorem Iq{a:Int}(h:a≠0){F:Nat->Rat}(z:ZI F)(f:Ae F):cn (psc (a:Rat) F)=a.natAbs*cn F:=by
 unfold cn;rw[CK (fun e=>h (by exact_mod_cast e)) f,WY a z]
theorem Oh{F G:Nat->Rat}(zF:ZI F)(zG:ZI G)(fF:Ae F)(fG:Ae G):cn (cv F G)=cn F*cn G:=by
 by_cases hF:F=pz
 ·rw[hF,Cv,OG];omega
 by_cases hG:G=pz
 ·rw[hG,Jz,OG];omega
 have nF:=Ew zF fF hF;have nG:=Ew zG fG hG;have e:cv F G=psc ((pcn F*pcn G:Int):Rat) (cv (pp F) (pp G)):=by
  have e1:=Ow zF fF hF;have e2:=Ow zG fG hG;have:cv F G=cv (psc (pcn F:Rat) (pp F)) (psc (pcn G:Rat) (pp G)):=by rw[<-e1,<-e2]
  rw[this,Cz,NC,C9,Rat.intCast_mul]
 rw[e,Iq (Int.mul_ne_zero nF nG) ((II zF fF).cv (II zG fG)) ((Db fF).cv (Db fG)),gN (II zF fF) (II zG fG) (Db fF) (Db fG) (Qz zF fF hF) (Qz zG fG hG),Int.natAbs_mul,Fj,Fj];omega
theorem P8{N:Nat}{F G:Nat->Rat}{p:Nat}{x:Int}(h:∀ n,(G n).num=if n=p then x else(F n).num):(DF N F).set p x=DF N G:=by
 apply List.ext_getElem
 ·simp[DF]
 ·intro i h1 h2
  rw[List.getElem_set,Cc,Cc,h];by_cases e:p=i
  ·subst e;simp
  ·rw[if_neg e,if_neg (fun q=>e q.symm)]
theorem UB(N:Nat):DF N pz=List.replicate N 0:=by
 apply List.ext_getElem
 ·simp[DF]
 ·intro i h1 h2;rw[Cc];simp;rfl
def aH(b:Nat)(F G:Nat->Rat)(r:Value)(w:World):Prop:=∃ q m,r = .tuple #[q,m,.int .i64 0]/\AY b w q F/\AY b w m G
theorem Yb{F:Nat->Rat}(h:ZI F):ld F=((ld F).num:Rat):=h.num _
theorem YZ{G:Nat->Rat}(hz:ZI G)(h:Ae G):Ij (zq (DF (pl G) G)):=fun h0=>by
 rw[En,Bb]at h0;have:=EH h h0;have e:(zq (DF (pl G) G)).length - 1=pl G - 1:=by rw[En,Bb]
 simp only[e];rw[Ms (by rw[Bb];omega),Cc,<-hz.num];exact this
theorem Cn.whole{base:Nat}{w:World}{g:Nat}{t:TypeId}{G:Nat->Rat}(h:Cn w g t (DF (pl G) G))(hz:ZI G)(hf:Ae G)(hb:base<=g){c:Nat}(hc:pl G<=c)(hm:c<=9223372036854775807):AY base w (.slice (some ⟨g,0,none⟩) (pl G) c) G:=
 ⟨_,⟨_,c,by rw[Bb],by rw[Bb];exact hc,hm,h.row hb⟩,YZ hz hf,Ia hz (AB hf)⟩
theorem KC(l:List Int):l.take (pl (cz l))=DF (pl (cz l)) (cz l):=by
 have h:=BX (Ct l)
 apply List.ext_getElem
 ·rw[Bb,List.length_take];omega
 ·intro i h1 h2
  have h3:i < l.length:=by rw[List.length_take]at h1;omega
  rw[Cc,List.getElem_take,Cb h3];rfl
theorem Pw{F G:Nat->Rat}(hF:ZI F)(hG:ZI G)(n:Nat):(psc (ld G) F n).num=(F n).num*(ld G).num:=by
 show(ld G*F n).num=_;rw[Yb hG,hF.num n,num_mul,Int.mul_comm];rfl
theorem ZN{F G:Nat->Rat}(hF:ZI F)(hG:ZI G):ZI (psc (ld G) F):=by rw[Yb hG];exact hF.psc _
theorem PO{F G:Nat->Rat}{k i n:Nat}(hi:i=pl F - pl G - k):D6 F G (k+1) n=psc (ld G) (D6 F G k) n - D6 F G k (pl F - 1 - k)*sh i G n:=by subst hi;rfl
theorem XX{F G:Nat->Rat}(hF:ZI F)(hG:ZI G){k i:Nat}(hi:i=pl F - pl G - k)(j:Nat):(D6 F G (k+1) (i+j)).num=(psc (ld G) (D6 F G k) (i+j)).num - (D6 F G k (pl F - 1 - k)).num*(G j).num:=by
 rw[PO hi,show sh i G (i+j)=G j from by unfold sh;rw[if_neg Aa];congr 1;omega];rw[(ZN (EI hF hG k) hG).num (i+j),(EI hF hG k).num (pl F - 1 - k),hG.num j,<-Rat.intCast_mul,num_sub];rfl
theorem YM{F G:Nat->Rat}{k i n:Nat}(hi:i=pl F - pl G - k)(h:n < i):D6 F G (k+1) n=psc (ld G) (D6 F G k) n:=by
 rw[PO hi,show sh i G n=0 from by unfold sh;rw[if_pos h]];grind
theorem Xw{F G:Nat->Rat}(hG:Ae G){k i n:Nat}(hi:i=pl F - pl G - k)(h:i+pl G<=n):D6 F G (k+1) n=psc (ld G) (D6 F G k) n:=by
 rw[PO hi,show sh i G n=0 from by unfold sh;rw[if_neg Aa];exact AB hG _ Aa];grind
theorem Xb{F G:Nat->Rat}{k i:Nat}(hi:i=pl F - pl G - k)(h0:Gr F G k i=0)(n:Nat):(Gr F G (k+1) n).num=if n=i then(D6 F G k (pl F - 1 - k)).num else(psc (ld G) (Gr F G k) n).num:=by
 have e:Gr F G (k+1) n=psc (ld G) (Gr F G k) n+mono i (D6 F G k (pl F - 1 - k)) n:=by subst hi;rfl
 rw[e];by_cases hn:n=i
 ·subst hn
  rw[if_pos rfl,K4,show psc (ld G) (Gr F G k) n=ld G*Gr F G k n from rfl,h0];congr 1;grind
 ·rw[if_neg hn,F3 hn]
  congr 1;grind
def J6(F G:Nat->Rat):Prop:=∃ Q,ZI Q/\Ae Q/\F=cv Q G
theorem ZJ{R G:Nat->Rat}{k:Nat}(hR:Ae R)(hG:Ae G)(h0:G≠pz)(hs:Bq (k+pl G) R)(h:J6 R G):∃ z:Int,R (k+pl G - 1)=(z:Rat)*ld G:=by
 obtain⟨Q,hz,hf,e⟩:=h;have hp:=AQ hG h0;by_cases hQ:Q=pz
 ·refine⟨0,?_⟩
  rw[e,hQ,Cv];show(0:Rat)=((0:Int):Rat)*_;simp
 ·have h1:=Ee hf hG hQ h0
  rw[<-e]at h1;have h2:=BX hs;have h3:=AQ hf hQ;have h4:Bq (k+1) Q:=(AB hf).mono Aa;have h5:Bq (pl G - 1+1) G:=(AB hG).mono Aa;have h6:=TG h4 h5;rw[<-e,show k+(pl G - 1)=k+pl G - 1 from by omega]at h6;rw[h6,hz.num k];exact⟨_,rfl⟩
theorem Xh{F G Q R:Nat->Rat}(hz:ZI Q)(hf:Ae Q)(e:F=pad (cv Q G) R):J6 F G↔J6 R G:=by
 constructor
 ·rintro⟨P,h1,h2,h3⟩
  refine⟨psb P Q,h1.psb hz,h2.psb hf,?_⟩;rw[FR,<-h3,e]
  funext n;simp only[psb,pad];grind
 ·rintro⟨P,h1,h2,h3⟩
  refine⟨pad Q P,hz.pad h1,hf.pad h2,?_⟩;rw[D5,<-h3,e]
theorem cO(G:Nat->Rat):J6 pz G:=⟨pz,ZI.pz,Ae.pz,(Cv G).symm⟩
theorem YI{R G:Nat->Rat}(hR:Ae R)(hG:Ae G)(hs:pl R < pl G):J6 R G↔R=pz:=by
 constructor
 ·rintro⟨Q,h1,h2,h3⟩
  have h0:G≠pz:=fun e=>by rw[e,BJ]at hs;omega
  refine Classical.byContradiction fun hn=>?_;have hQ:Q≠pz:=fun e=>hn (by rw[h3,e,Cv]);have:=Ee h2 hG hQ h0;rw[<-h3]at this;have:=AQ h2 hQ;omega
 ·rintro rfl;exact cO G
def Ff(F G:Nat->Rat)(n s t i:Nat)(Q R:Nat->Rat):Prop:=
 (∀ j,j < i->Q j=0)/\Bq n Q/\Bq (i+pl G - 1) R/\F=pad (cv Q G) R/\ZI Q/\ZI R/\∀ m,qsz (R m)<=s+(n - i)*(t+1)
theorem Ff.start{F G:Nat->Rat}{n s t:Nat}(hF:Bq (n+pl G - 1) F)(hz:ZI F)(hs:∀ m,qsz (F m)<=s):Ff F G n s t n pz F:=
 ⟨fun _ _=>rfl,Bq.pz _,hF,by rw[Cv];funext m;simp only[pad,pz];grind,ZI.pz,hz,fun m=>by have:=hs m;omega⟩
theorem RD{z:Int}{a b:Rat}(hb:b≠0)(hbz:∃ y:Int,b=(y:Rat))(e:a=(z:Rat)*b):qsz (z:Rat)<=qsz a:=by
 obtain⟨y,rfl⟩:=hbz;rw[e,<-Rat.intCast_mul,Bz,Bz];have hy:y≠0:=fun h=>hb (by rw[h];rfl);have:sz z.natAbs<=sz (z*y).natAbs:=by
  refine Bf ?_;rw[Int.natAbs_mul];exact Nat.le_mul_of_pos_right _ Aa
 omega
theorem Ff.step{F G:Nat->Rat}{n s t k:Nat}{Q R:Nat->Rat}(hG:Ae G)(h0:G≠pz)(zG:ZI G)(hcG:∀ m,qsz (G m)<=t)(h:Ff F G n s t (k+1) Q R)(hk:k < n){z:Int}(hc:R (k+pl G - 1)=(z:Rat)*ld G) :
  Ff F G n s t k (pad Q (mono k (z:Rat))) (psb R (cv (mono k (z:Rat)) G)):=by
 obtain⟨h3,h4,h5,h6,h7,h8,h9⟩:=h;have hp:=AQ hG h0;have hl:=CW hG h0;have hz:(z:Rat)=R (k+pl G - 1) / ld G:=by rw[hc];grind
 refine⟨fun j hj=>?_,h4.pad ((ER k _).mono Aa),?_,?_,h7.pad (ZI.mono k z),h8.psb ((ZI.mono k z).cv zG),fun m=>?_⟩
 ·show Q j+mono k (z:Rat) j=0
  rw[h3 j Aa,F3 Aa];grind
 ·rw[hz];exact EW hG h0 (h5.mono Aa)
 ·rw[D5]
  funext m
  have:=congrFun h6 m;simp only[pad,psb]at this ⊢;grind
 ·have q1:qsz (z:Rat)<=qsz (R (k+pl G - 1)):=RD hl (zG _) hc
  have q2:=h9 (k+pl G - 1);have e:n - k=(n - (k+1))+1:=by omega
  have q3:(n - k)*(t+1)=(n - (k+1))*(t+1)+(t+1):=by rw[e,Nat.succ_mul]
  have q4:qsz (cv (mono k (z:Rat)) G m)<=qsz (z:Rat)+t:=by
   rw[Gf];show qsz ((z:Rat)*sh k G m)<=_;have a1:=CG (z:Rat) (sh k G m);have a2:qsz (sh k G m)<=max t 1:=by
    unfold sh
    split
    ·have:qsz (0:Rat)=1:=by decide
     omega
    ·have:=hcG (m - k);omega
   have a3:1<=t:=by have:=hcG 0;have:1<=qsz (G 0):=by { unfold qsz;have:=DU (n:=(G 0).den) (by have:=(G 0).den_pos;omega);omega };omega
   omega
  have q5:=Nq h8 ((ZI.mono k z).cv zG) m m;have q6:=h9 m;show qsz (R m - cv (mono k (z:Rat)) G m)<=_;omega
theorem Ff.end_{F G:Nat->Rat}{n s t:Nat}{Q R:Nat->Rat}(hF:Ae F)(hG:Ae G)(h0:G≠pz)(h:Ff F G n s t 0 Q R):Q=pq F G/\R=pr F G/\Bq n Q/\ZI Q:=by
 obtain⟨h3,h4,h5,h6,h7,h8,h9⟩:=h;have:=IL hF hG h0 ⟨n,h4⟩ h6 (by rwa[Nat.zero_add]at h5);exact⟨this.1,this.2,h4,h7⟩
theorem Ff.zdv{F G:Nat->Rat}{n s t i:Nat}{Q R:Nat->Rat}(h:Ff F G n s t i Q R):J6 F G↔J6 R G:=
 Xh h.2.2.2.2.1 ⟨n,h.2.1⟩ h.2.2.2.1
theorem Ff.fin{F G:Nat->Rat}{n s t i:Nat}{Q R:Nat->Rat}(h:Ff F G n s t i Q R):Ae R:=⟨_,h.2.2.1⟩
theorem Ff.no{F G:Nat->Rat}{n s t k:Nat}{Q R:Nat->Rat}(hG:Ae G)(h0:G≠pz)(zG:ZI G)(h:Ff F G n s t (k+1) Q R)(hd:¬ (ld G).num∣(R (k+pl G - 1)).num):¬ J6 F G:=by
 intro hz;have hp:=AQ hG h0;obtain⟨z,e⟩:=ZJ (k:=k) h.fin hG h0 (h.2.2.1.mono Aa) (h.zdv.1 hz)
 apply hd
 rw[e,show ld G=((ld G).num:Rat)from zG.num _,num_mul];exact⟨z,by rw[Int.mul_comm];rfl⟩
theorem Ff.yes{F G:Nat->Rat}{n s t i m:Nat}{Q R:Nat->Rat}(zG:ZI G)(h:Ff F G n s t i Q R)(hd:(ld G).num∣(R m).num):R m=(((R m).num / (ld G).num:Int):Rat)*ld G:=by
 have e1:ld G=((ld G).num:Rat):=zG.num _;have e2:=h.2.2.2.2.2.1.num m;have e3:=Int.ediv_mul_cancel hd;have e4:(((R m).num / (ld G).num:Int):Rat)*(((ld G).num:Int):Rat)=(((R m).num:Int):Rat):=by rw[<-Rat.intCast_mul,e3]
 rw[e2,e1];exact e4.symm
theorem Ff.out{F G:Nat->Rat}{n s t:Nat}{Q R:Nat->Rat}(hF:Ae F)(hG:Ae G)(h0:G≠pz)(h:Ff F G n s t 0 Q R):J6 F G↔R=pz:=by
 rw[h.zdv,YI h.fin hG];have hp:=AQ hG h0;have:=BX h.2.2.1;omega
theorem UG(k j:Nat)(c:Rat)(R G:Nat->Rat):F9 k j c R G (k+j)=R (k+j):=by
 unfold F9;rw[if_neg Aa];grind
theorem Y5{k j:Nat}{z:Int}{R G:Nat->Rat}(hR:ZI R)(hG:ZI G)(n:Nat):(F9 k (j+1) (z:Rat) R G n).num=if n=k+j then(R (k+j)).num - z*(G j).num else(F9 k j (z:Rat) R G n).num:=by
 rw[Od]
 split
 ·rename_i h;subst h
  rw[UG,hR.num,hG.num j,<-Rat.intCast_mul,num_sub];rfl
 ·rfl
theorem XQ{Q:Nat->Rat}{k:Nat}{z:Int}(hQ:ZI Q)(h:Q k=0)(n:Nat):(pad Q (mono k (z:Rat)) n).num=if n=k then z else(Q n).num:=by
 show(Q n+mono k (z:Rat) n).num=_;by_cases e:n=k
 ·subst e;rw[if_pos rfl,h,K4,Rat.zero_add];rfl
 ·rw[if_neg e,F3 e,Rat.add_zero]
def F5(w:World)(v:Value)(x:Int)(e:Int):Prop:=∃ a,v = .tuple #[a,.int .i64 e]/\AC w a x
theorem F5.ext{w w':World}{v:Value}{x e:Int}(h:F5 w v x e)(k:Ext w w'):F5 w' v x e:=by
 obtain⟨a,h1,h2⟩:=h;exact⟨a,h1,h2.kd k.kd⟩
def aW(base:Nat)(F G:Nat->Rat)(r:Value)(w:World):Prop:=(J6 F G->∃ q,r = .tuple #[q,.int .i64 0]/\AY base w q (pq F G))/\(¬ J6 F G->r = .tuple #[.slice none 0 0,.int .i64 6])
theorem AC.inj{w:World}{v:Value}{x y:Int}(h:AC w v x)(k:AC w v y):x=y:=by
 obtain⟨n,ds,⟨s,rfl,hd⟩,rfl,-⟩:=h;obtain⟨m,es,⟨t,e,he⟩,rfl,-⟩:=k;cases e;rw[hd.uniq he]
theorem BA.inj{w:World}{g:Nat}{t:TypeId}{x y:Int}(h:BA w g t x)(k:BA w g t y):x=y:=by
 obtain⟨b,A,n,c,h1,h2⟩:=h;obtain⟨b',A',n',c',k1,k2⟩:=k;have e:=h1.1.symm.trans k1.1;cases e;exact h2.inj k2
noncomputable def kH(w:World)(g:Nat)(t:TypeId):Nat:=open Classical in if h:∃ x,BA w g t x then(Classical.choose h).natAbs else 0
theorem Qg{w:World}{g:Nat}{t:TypeId}{x:Int}(h:BA w g t x):kH w g t=x.natAbs:=by
 have hx:∃ x,BA w g t x:=⟨x,h⟩
 unfold kH;rw[dif_pos hx,(Classical.choose_spec hx).inj h]
theorem Jj(n:Nat):sz ((2:Int)^n).natAbs<=1+n:=by
 have:=IX 2 1 Ab n;omega
theorem Ra(i:Nat)(hi:i < 9223372036854775808):bits BinOp.and IntKind.i64 (i:Int) 1=((i % 2:Nat):Int):=Go.Proofs.and_one i hi
theorem Pt{x y z:Int}(h:x*y=z)(hy:y≠0:=by decide):sz x.natAbs<=sz z.natAbs:=by
 refine Bf ?_;rw[<-h,Int.natAbs_mul];exact Nat.le_mul_of_pos_right _ Aa
theorem Vy(n j:Nat):(2:Int)^(n / 2^(j+1))*2^(n / 2^(j+1))*(if n / 2^j % 2=1 then 2 else 1)=2^(n / 2^j):=by
 have e:n / 2^(j+1)=n / 2^j / 2:=by rw[Nat.pow_succ,Nat.div_div_eq_div_mul]
 rw[e];generalize n / 2^j=m
 split
 ·rename_i h
  rw[<-Int.pow_add,<-Int.pow_succ];congr 1;omega
 ·rename_i h
  rw[<-Int.pow_add,Int.mul_one];congr 1;omega
theorem BL.ex(n:Nat):∃ b,BL n b:=by
 induction n using Nat.strongRecOn with
 | _ n ih =>
  rcases Nat.eq_zero_or_pos n with h | h
  ·subst h;exact⟨0,BL.zero⟩
  ·obtain⟨b,h1,h2⟩:=ih (n / 2) Aa
   refine⟨b+1,by rw[Nat.pow_succ];omega,fun _=>?_⟩;rw[Nat.add_sub_cancel];rcases b with _ | b
   ·simp;omega
   ·have:=h2 Aa
    rw[Nat.add_sub_cancel]at this;rw[Nat.pow_succ];omega
def kK(w:World)(r:Value):Prop:=∃ (r0:Value) (x:Int) (b:Bool),r = .tuple #[r0,.bool b,.int .i64 0]/\AC w r0 x/\0 < x/\sz x.natAbs<=20000
def dL(t v:Value):Prop:=∃ a e,t = .tuple #[a,v,e]
theorem Te{a x:Int}(ha:0 < a)(hx:0 < x):0 < (x+a / x) / 2:=by
 have h1:0<=a / x:=Int.ediv_nonneg Aa Aa;rcases Int.lt_or_le 1 x with h | h
 ·omega
 ·have:x=1:=by omega
  subst this;rw[Int.ediv_one];omega
def I5(F G D:Nat->Rat):Prop:=Ae D/\ZI D/\(D≠pz->0 < ld D)/\cn D=Nat.gcd (cn F) (cn G)/\Lt F G (mn D)
structure Il(F0 G0:Nat->Rat)(D S:Nat)(A B:Nat->Rat):Prop where
 fA:Ae A
 fB:Ae B
 zA:ZI A
 zB:ZI B
 pA:pp A=A
 pB:pp B=B
 dv:∀ E,Ae E->(Dv E A/\Dv E B↔Dv E F0/\Dv E G0)
 deg:pl A+pl B<=D
 qA:∀ i,qsz (A i)+1<=(S+1)*2^(D - (pl A+pl B))
 qB:∀ i,qsz (B i)+1<=(S+1)*2^(D - (pl A+pl B))
theorem FH{a:Rat}(ha:a≠0){E F:Nat->Rat}:Dv E (psc a F)↔Dv E F:=
 ⟨fun h=>by have:=h.psc (1 / a);rwa[ZZ ha]at this,fun h=>h.psc a⟩
theorem DK{E F:Nat->Rat}(z:ZI F)(f:Ae F):Dv E (pp F)↔Dv E F:=by
 by_cases h0:F=pz
 ·rw[h0,IR]
 ·have hn:(1:Rat) / (pcn F:Rat)≠0:=KX (by have:=Ew z f h0;exact_mod_cast this)
  exact FH hn
theorem Il.start{F G:Nat->Rat}{S:Nat}(fF:Ae F)(fG:Ae G)(zF:ZI F)(zG:ZI G)(qF:∀ i,qsz (F i)<=S)(qG:∀ i,qsz (G i)<=S):Il F G (pl F+pl G) S (pp F) (pp G) where
 fA:=Db fF
 fB:=Db fG
 zA:=II zF fF
 zB:=II zG fG
 pA:=Yc zF fF
 pB:=Yc zG fG
 dv:=fun E _=>by rw[DK zF fF,DK zG fG]
 deg:=by rw[DR zF fF,DR zG fG];exact Nat.le_refl _
 qA:=fun i=>by have:=F6 zF fF qF i;have h:0 < 2^(pl F+pl G - (pl (pp F)+pl (pp G))):=Nat.pow_pos Ab;have:=Nat.le_mul_of_pos_right (S+1) h;omega
 qB:=fun i=>by have:=F6 zG fG qG i;have h:0 < 2^(pl F+pl G - (pl (pp F)+pl (pp G))):=Nat.pow_pos Ab;have:=Nat.le_mul_of_pos_right (S+1) h;omega
theorem Il.room{F0 G0 A B:Nat->Rat}{D S:Nat}(h:Il F0 G0 D S A B){R:Nat->Rat}(hR:R=D6 A B (pl A+1 - pl B)) :
  (∀ i,qsz (A i)<=(S+1)*2^D)/\(∀ i,qsz (B i)<=(S+1)*2^D)/\(∀ i,qsz (R i)+1<=(S+1)*2^(D - (pl A+pl B)+(pl A+1 - pl B))):=by
 have up:∀ a:Nat,a<=D->(S+1)*2^a<=(S+1)*2^D:=fun a ha=>Nat.mul_le_mul_left _ (Nat.pow_le_pow_right Ab ha);have h1:=up (D - (pl A+pl B)) Aa;refine⟨fun i=>by have:=h.qA i;omega,fun i=>by have:=h.qB i;omega,fun i=>?_⟩;obtain⟨M,hM⟩:∃ M,M=(S+1)*2^(D - (pl A+pl B)):=⟨_,rfl⟩
 have hp:0 < M:=by rw[hM];exact Nat.mul_pos Aa (Nat.pow_pos Ab)
 have h2:=FX (s:=M - 1) (t:=M - 1) h.zA h.zB (fun i=>by have:=h.qA i;omega) (fun i=>by have:=h.qB i;omega) (pl A+1 - pl B) i;rw[<-hR]at h2;rw[Nat.pow_add,<-Nat.mul_assoc,<-hM];have h3:=MP (pl A+1 - pl B);have h4:M*(pl A+1 - pl B+1)<=M*2^(pl A+1 - pl B):=Nat.mul_le_mul_left _ h3;rw[Nat.mul_succ,Nat.mul_comm M]at h4;rw[show M - 1+1=M from by omega]at h2;omega
theorem Ps{F G:Nat->Rat}(hF:Ae F)(hG:Ae G)(h0:G≠pz):Ae (D6 F G (pl F+1 - pl G)):=by
 rw[(J4 hF hG h0).2];exact(EE hF hG).psc _
theorem Q3{F G:Nat->Rat}(hF:Ae F)(hG:Ae G)(h0:G≠pz):pl (D6 F G (pl F+1 - pl G)) < pl G:=by
 have hp:=AQ hG h0;have:=BX (((Er hF hG h0).psc (ld G^(pl F+1 - pl G))));rw[<-(J4 hF hG h0).2]at this;omega
theorem Il.step{F0 G0 A B:Nat->Rat}{D S:Nat}(h:Il F0 G0 D S A B)(h0:B≠pz){R:Nat->Rat}(hR:R=D6 A B (pl A+1 - pl B)) :
  Il F0 G0 D S B (pp R)/\pl (pp R) < pl B:=by
 have hfR:Ae R:=by rw[hR];exact Ps h.fA h.fB h0
 have hzR:ZI R:=by rw[hR];exact EI h.zA h.zB _
 have htop:pl R < pl B:=by rw[hR];exact Q3 h.fA h.fB h0
 have hplR:=DR hzR hfR;have hq:∀ i,qsz (R i)+1<=(S+1)*2^(D - (pl B+pl (pp R)))/\pl B+pl (pp R)<=D:=fun i=>by
  rw[hplR];have hd:=h.deg;rcases Nat.lt_or_ge (pl A) (pl B)with a | a
  ·have e:R=A:=by rw[hR,show pl A+1 - pl B=0 from by omega];rfl
   rw[e];have:=h.qA i;rw[Nat.add_comm (pl B)];exact⟨this,hd⟩
  ·have h2:=(h.room hR).2.2 i
   exact⟨Nat.le_trans h2 (Nat.mul_le_mul_left _ (Nat.pow_le_pow_right Ab Aa)),Aa⟩
 refine⟨⟨h.fB,Db hfR,h.zB,II hzR hfR,h.pB,Yc hzR hfR,fun E hE=>?_,(hq 0).2,fun i=>?_,fun i=>?_⟩,Aa⟩
 ·rw[DK hzR hfR,<-h.dv E hE]
  have hl:=OT (CW h.fB h0) (pl A+1 - pl B);rw[hR,(J4 h.fA h.fB h0).2,FH hl,LV]
 ·have h1:=h.qB i
  have:=h.deg;have h2:=(hq 0).2;refine Nat.le_trans h1 (Nat.mul_le_mul_left _ (Nat.pow_le_pow_right Ab ?_));rcases Nat.lt_or_ge (pl A) (pl B)with a | a
  ·have e:R=A:=by rw[hR,show pl A+1 - pl B=0 from by omega];rfl
   rw[hplR,e];omega
  ·omega
 ·have h1:=F6 hzR hfR (s:=(S+1)*2^(D - (pl B+pl (pp R))) - 1) (fun i=>by have:=(hq i).1;omega) i
  have:=(hq i).1;omega
theorem SX{a:Rat}(ha:a≠0){F:Nat->Rat}(h:Ae F):mn (psc a F)=mn F:=by
 by_cases h0:F=pz
 ·rw[h0,EF]
 ·have hl:=CW h h0
  unfold mn;rw[JV ha h,C9];congr 1;grind
theorem QH(F:Nat->Rat):psc 0 F=pz:=by funext n;simp only[psc,pz];grind
theorem R8{F:Nat->Rat}(h:Ae F)(e:mn F=pz):F=pz:=(BF h).1 (by rw[<-QS h,e,BJ])
theorem Il.end_{F0 G0 A B:Nat->Rat}{D S:Nat}(h:Il F0 G0 D S A B)(fF:Ae F0)(fG:Ae G0)(zF:ZI F0)(zG:ZI G0)(h0:B=pz) :
  I5 F0 G0 (psc ((Nat.gcd (cn F0) (cn G0):Nat):Rat) A):=by
 have hg:Lt F0 G0 (mn A):=by
  subst h0;exact(Lt.zero h.fA).of h.dv
 obtain⟨c,hc⟩:∃ c,c=Nat.gcd (cn F0) (cn G0):=⟨_,rfl⟩
 rw[<-hc];by_cases hc0:c=0
 ·have e1:cn F0=0:=Nat.eq_zero_of_gcd_eq_zero_left (hc.symm.trans hc0)
  have e2:cn G0=0:=Nat.eq_zero_of_gcd_eq_zero_right (hc.symm.trans hc0);have z1:F0=pz:=Classical.byContradiction fun hn=>Jw zF fF hn e1;have z2:G0=pz:=Classical.byContradiction fun hn=>Jw zG fG hn e2;rw[hc0];show I5 F0 G0 (psc ((0:Nat):Rat) A);rw[show((0:Nat):Rat)=0 from rfl,QH,z1,z2];refine⟨Ae.pz,ZI.pz,fun hn=>absurd rfl hn,by rw[OG];rfl,?_⟩;exact Lt.zero Ae.pz
 ·have hcr:((c:Nat):Rat)≠0:=by exact_mod_cast hc0
  have hA:A≠pz:=fun e=>by
   rw[e,Lm]at hg;have z1:=Lp hg.2.2.1;have z2:=Lp hg.2.2.2.1;rw[z1,z2,OG]at hc;exact hc0 hc
  have e1:cn A=1:=by rw[<-h.pA];exact Qz h.zA h.fA hA
  have e2:0 < ld A:=by rw[<-h.pA];exact LM h.zA h.fA hA
  have ci:((c:Nat):Rat)=(((c:Nat):Int):Rat):=rfl;refine⟨h.fA.psc _,by rw[ci];exact h.zA.psc _,fun _=>?_,?_,by rw[SX hcr h.fA];exact hg⟩
  ·rw[JV hcr h.fA]
   refine Rat.mul_pos ?_ e2;exact_mod_cast Nat.pos_of_ne_zero hc0
  ·rw[ci,Iq (by exact_mod_cast hc0) h.zA h.fA,e1,<-hc];simp
theorem I5.uniq{F G D E:Nat->Rat}(h:I5 F G D)(k:I5 F G E):D=E:=by
 obtain⟨f1,z1,l1,c1,g1⟩:=h;obtain⟨f2,z2,l2,c2,g2⟩:=k;have e:=g1.uniq g2;by_cases hD:D=pz
 ·have:E=pz:=R8 f2 (by rw[<-e,hD,Lm])
  rw[hD,this]
 have hE:E≠pz:=fun hE=>hD (R8 f1 (by rw[e,hE,Lm]));have hcD:=Jw z1 f1 hD
 -- E=a D with a positive;the contents agree
 have lD:=l1 hD;have lE:=l2 hE;have hDl:=CW f1 hD;have hEl:=CW f2 hE;have e1:psc (ld E) D=psc (ld D) E:=by
  funext n
  have:=congrFun e n;show ld E*D n=ld D*E n;simp only[mn,psc]at this;have h1:ld D*ld E*(1 / ld D*D n)=ld D*ld E*(1 / ld E*E n):=by rw[this]
  grind
 obtain⟨x,hx⟩:∃ x:Int,ld D=(x:Rat):=z1 _;obtain⟨y,hy⟩:∃ y:Int,ld E=(y:Rat):=z2 _;have hx0:0 < x:=by rw[hx]at lD;exact_mod_cast lD
 have hy0:0 < y:=by rw[hy]at lE;exact_mod_cast lE
 have e2:cn (psc (ld E) D)=cn (psc (ld D) E):=by rw[e1]
 rw[hx,hy,Iq Aa z1 f1,Iq Aa z2 f2,c1,c2,<-c1]at e2;have e3:y.natAbs=x.natAbs:=Nat.eq_of_mul_eq_mul_right (Nat.pos_of_ne_zero hcD) e2;have e4:x=y:=by omega
 have:ld D=ld E:=by rw[hx,hy,e4]
 rw[this]at e1
 funext n
 have:=congrFun e1 n;simp only[psc]at this;grind
theorem Uc{F Q D:Nat->Rat}(zF:ZI F)(fF:Ae F)(zD:ZI D)(fD:Ae D)(hD:D≠pz)(fQ:Ae Q)(e:F=cv Q D)(hc:cn D∣cn F):ZI Q:=by
 obtain⟨n,hs⟩:=fQ;have fQ:Ae Q:=⟨n,hs⟩
 have zC:=Fa hs;have fC:=EL (n:=n) fQ;have e1:psc (((dl n Q:Nat):Int):Rat) F=cv (Dp n Q) D:=by
  rw[e];unfold Dp;rw[Cz];rfl
 have hdl:=MK Q n;have e2:cn (psc (((dl n Q:Nat):Int):Rat) F)=cn (cv (Dp n Q) D):=by rw[e1]
 rw[Iq Aa zF fF,Oh zC zD fC fD,Int.natAbs_natCast]at e2;obtain⟨m,hm⟩:=hc;have hcD:=Nat.pos_of_ne_zero (Jw zD fD hD);have e3:dl n Q*m=cn (Dp n Q):=by
  refine Nat.eq_of_mul_eq_mul_right hcD ?_;rw[<-e2,hm,Nat.mul_assoc,Nat.mul_comm m]
 intro i;have h1:=FP fC i;have h2:((dl n Q:Nat):Int)∣(Dp n Q i).num:=Int.dvd_trans ⟨(m:Int),by rw[<-e3];simp⟩ h1;obtain⟨k,hk⟩:=h2;refine⟨k,?_⟩;have h3:=zC.num i;rw[hk,Rat.intCast_mul]at h3;have h4:Dp n Q i=((dl n Q:Nat):Rat)*Q i:=rfl;rw[h4]at h3;have h5:=Qx n Q;have h6:(((dl n Q:Nat):Int):Rat)=((dl n Q:Nat):Rat):=rfl;rw[h6]at h3;grind
theorem I5.zdv{F G D:Nat->Rat}(h:I5 F G D)(zF:ZI F)(fF:Ae F)(hD:D≠pz):J6 F D:=by
 obtain⟨f1,z1,l1,c1,g1⟩:=h;obtain⟨Q,fQ,e⟩:=g1.2.2.1;have e1:F=cv (psc (1 / ld D) Q) D:=by rw[e];unfold mn;rw[NC,Cz]
 exact⟨_,Uc zF fF z1 f1 hD (fQ.psc _) e1 (by rw[c1];exact Nat.gcd_dvd_left _ _),fQ.psc _,e1⟩
theorem Lt.symm_{F G D:Nat->Rat}(h:Lt F G D):Lt G F D:=⟨h.1,h.2.1,h.2.2.2.1,h.2.2.1,fun E hE a b=>h.2.2.2.2 E hE b a⟩
theorem I5.symm_{F G D:Nat->Rat}(h:I5 F G D):I5 G F D:=⟨h.1,h.2.1,h.2.2.1,by rw[Nat.gcd_comm];exact h.2.2.2.1,h.2.2.2.2.symm_⟩
theorem Xu:∀(n:Nat) {F G:Nat->Rat},Ae F->Ae G->pl G<=n->∃ U V D,Ae U/\Ae V/\Lt F G D/\pad (cv U F) (cv V G)=D:=by
 intro n;induction n with
 | zero =>
  intro F G fF fG hn;have:G=pz:=(BF fG).1 Aa;subst this;refine⟨psc (1 / ld F) pone,pz,mn F,Ae.psc _ ⟨1,(Bq.pz 0).cs 1⟩,Ae.pz,Lt.zero fF,?_⟩;rw[Cz,Ck,Cv]
  funext m;simp only[pad,pz,mn];grind
 | succ n ih =>
  intro F G fF fG hn;by_cases h0:G=pz
  ·exact ih fF fG (by rw[h0,BJ];omega)
  ·have hp:=AQ fG h0
   have hr:=BX (Er fF fG h0);obtain⟨U,V,D,fU,fV,hg,e⟩:=ih fG (EE fF fG) Aa;refine⟨V,psb U (cv V (pq F G)),D,fV,fU.psb (fV.cv (Dy F G)),hg.of fun E hE=>LV,?_⟩;rw[<-e];have e1:cv V F=pad (cv V (cv (pq F G) G)) (cv V (pr F G)):=by
    have h2:cv V F=cv V (pad (cv (pq F G) G) (pr F G)):=by rw[<-KL F G]
    rw[h2,F8]
   rw[e1,FR,Ai]
   funext m;simp only[pad,psb];grind
theorem Lt.bez{F G D:Nat->Rat}(fF:Ae F)(fG:Ae G)(h:Lt F G D):∃ U V,Ae U/\Ae V/\pad (cv U F) (cv V G)=D:=by
 obtain⟨U,V,D',fU,fV,hg,e⟩:=Xu (pl G) fF fG (Nat.le_refl _);exact⟨U,V,fU,fV,by rw[h.uniq hg];exact e⟩
theorem Dv.cvr{D F:Nat->Rat}(h:Dv D F)(H:Nat->Rat):Dv (Hp.cv D H) (Hp.cv F H):=by
 obtain⟨Q,fQ,e⟩:=h;exact⟨Q,fQ,by rw[e,Ai]⟩
theorem RZ{F G D H P:Nat->Rat}(fF:Ae F)(fG:Ae G)(fH:Ae H)(h:Lt F G (mn D))(fD:Ae D){a:Rat}(ha:a≠0)(hP:P=psc a (cv D H)):Lt (cv F H) (cv G H) (mn P):=by
 have fP:Ae P:=by rw[hP];exact(fD.cv fH).psc a
 refine⟨Lb fP,fun hn=>Uu fP (fun e=>hn (by rw[e,Lm])),?_,?_,fun E hE k1 k2=>?_⟩
 ·have h1:Dv (cv D H) (cv F H):=((GD D).trans h.2.2.1).cvr H
  have h2:Dv (mn P) (cv D H):=by
   rw[hP,SX ha (fD.cv fH)];exact GA (fD.cv fH)
  exact h2.trans h1
 ·have h1:Dv (cv D H) (cv G H):=((GD D).trans h.2.2.2.1).cvr H
  have h2:Dv (mn P) (cv D H):=by
   rw[hP,SX ha (fD.cv fH)];exact GA (fD.cv fH)
  exact h2.trans h1
 ·obtain⟨U,V,fU,fV,e⟩:=h.bez fF fG
  have h1:Dv E (cv (mn D) H):=by
   rw[<-e,D5,Ai,Ai];exact(k1.mul fU).pad (k2.mul fV)
  have h2:Dv E (cv D H):=by
   obtain⟨Q,fQ,e2⟩:=GA fD;rw[e2,Ai];exact h1.mul fQ
  rw[Oo fP,hP,FH ha];exact h2
theorem I5.common{F G D H E:Nat->Rat}(fF:Ae F)(fG:Ae G)(zF:ZI F)(zG:ZI G)(fH:Ae H)(zH:ZI H)(h:I5 F G D)(k:I5 (cv F H) (cv G H) E):E=cv D H\/E=psc ((-1:Int):Rat) (cv D H):=by
 obtain⟨f1,z1,l1,c1,g1⟩:=h;have hcn:∀ a:Int,a.natAbs=1->cn (psc (a:Rat) (cv D H))=Nat.gcd (cn (cv F H)) (cn (cv G H)):=fun a ha=>by
  rw[Iq Aa (z1.cv zH) (f1.cv fH),ha,Nat.one_mul,Oh z1 zH f1 fH,Oh zF zH fF fH,Oh zG zH fG fH,c1,Nat.gcd_mul_right]
 have key:∀ a:Int,a.natAbs=1->(cv D H≠pz->0 < (a:Rat)*ld (cv D H))->E=psc (a:Rat) (cv D H):=fun a ha hl=>by
  have ha0:(a:Rat)≠0:=by
   have:a≠0:=by omega
   exact_mod_cast this
  refine k.uniq ⟨(f1.cv fH).psc _,(z1.cv zH).psc a,fun hn=>?_,hcn a ha,RZ fF fG fH g1 f1 ha0 rfl⟩;rw[JV ha0 (f1.cv fH)];exact hl fun e=>hn (by rw[e,EF])
 by_cases hp:0 < ld (cv D H)
 ·refine .inl ?_
  have:=key 1 rfl (fun _=>by simpa using hp);rwa[show(((1:Int)):Rat)=1 from rfl,Cu]at this
 ·refine .inr (key (-1) rfl (fun hn=>?_))
  have:=CW (f1.cv fH) hn;have e:(((-1:Int)):Rat) = -1:=rfl;rw[e];have h2:ld (cv D H) < 0:=Rat.lt_of_le_of_ne (Rat.not_lt.1 hp) this;grind
theorem Il.run{F0 G0:Nat->Rat}{D S:Nat}:∀(n:Nat) {A B:Nat->Rat},Il F0 G0 D S A B->pl B<=n->∃ A',Il F0 G0 D S A' pz:=by
 intro n;induction n with
 | zero =>
  intro A B h hn;have:B=pz:=(BF h.fB).1 Aa;subst this;exact⟨A,h⟩
 | succ n ih =>
  intro A B h hn;by_cases h0:B=pz
  ·subst h0;exact⟨A,h⟩
  ·obtain⟨h1,h2⟩:=h.step h0 rfl
   exact ih h1 Aa
open Classical in
/-- The greatest common divisor over the integers. -/
noncomputable def Df(F G:Nat->Rat):Nat->Rat:=if h:∃ D,I5 F G D then h.choose else pz
theorem Yr{F G D:Nat->Rat}(h:I5 F G D):Df F G=D:=by
 have hx:∃ D,I5 F G D:=⟨D,h⟩
 unfold Df;rw[dif_pos hx];exact hx.choose_spec.uniq h
theorem Dw(q:Rat):1<=qsz q:=by
 unfold qsz;have:=DU (n:=q.den) (by have:=q.den_pos;omega);omega
theorem YW{F G:Nat->Rat}{S:Nat}(fF:Ae F)(fG:Ae G)(zF:ZI F)(zG:ZI G)(qF:∀ i,qsz (F i)<=S)(qG:∀ i,qsz (G i)<=S):I5 F G (Df F G)/\∀ i,qsz (Df F G i)<=S+(S+1)*2^(pl F+pl G):=by
 obtain⟨A,h⟩:=(Il.start fF fG zF zG qF qG).run (pl (pp G)) (Nat.le_refl _);have h1:=h.end_ fF fG zF zG rfl;have h2:=Yr h1;rw[h2];refine⟨h1,fun i=>?_⟩;have h3:=CG (((Nat.gcd (cn F) (cn G):Nat)):Rat) (A i);have h4:=(h.room rfl).1 i;have h5:qsz (((Nat.gcd (cn F) (cn G):Nat)):Rat)<=S:=by
  show qsz ((((Nat.gcd (cn F) (cn G):Nat):Int)):Rat)<=S;rw[Bz];have a1:=Dw (F 0);have a2:=qF 0;have b1:=JC qF (pl F);have b2:sz (Nat.gcd (cn F) (cn G))<=S:=by
   by_cases e:cn F=0
   ·have b3:=JC qG (pl G)
    rw[e,Nat.gcd_zero_left];exact b3
   ·exact Nat.le_trans (Bf (Nat.gcd_le_left _ (Nat.pos_of_ne_zero e))) b1
  simp only[Int.natAbs_natCast];omega
 show qsz ((((Nat.gcd (cn F) (cn G):Nat)):Rat)*A i)<=_;omega
structure LH(n:Nat)(E:(Nat->Nat->Rat)->Rat):Prop where
 lin:∀(A:Nat->Nat->Rat) (i:Nat),i < n->∀(a b:Rat) (u v:Nat->Rat),E (Ex A i fun c=>a*u c+b*v c)=a*E (Ex A i u)+b*E (Ex A i v)
 alt:∀(A:Nat->Nat->Rat) (i j:Nat),i < n->j < n->i≠j->A i=A j->E A=0
 cong:∀(A B:Nat->Nat->Rat),(∀ i j,i < n->j < n->A i j=B i j)->E A=E B
 one:E (fun i j=>if i=j then 1 else 0)=0
theorem lK:∀(n:Nat) (s:Nat->Nat),(∀ i,i < n+1->s i < n)->∃ i j,i < j/\j < n+1/\s i=s j
 | 0,s,h=>absurd (h 0 Aa) Aa
 | n+1,s,h=>by
  by_cases e:∃ i,i < n+1/\s i=s (n+1)
  ·obtain⟨i,hi,e⟩:=e
   exact⟨i,n+1,hi,Aa,e⟩
  ·have e':∀ i,i < n+1->s i≠s (n+1):=fun i hi q=>e ⟨i,hi,q⟩
   obtain⟨i,j,hij,hj,q⟩:=lK n (fun i=>if s i < s (n+1)then s i else s i - 1) (fun i hi=>by
    have h1:=h i Aa;have h2:=h (n+1) Aa;have h3:=e' i hi;show(if s i < s (n+1)then s i else s i - 1) < n
    split<;>omega)
   refine⟨i,j,hij,Aa,?_⟩;have h1:=e' i Aa;have h2:=e' j hj;have q':(if s i < s (n+1)then s i else s i - 1)=(if s j < s (n+1)then s j else s j - 1):=q
   split at q'<;>split at q'<;>omega
theorem LH.swap{n:Nat}{E:(Nat->Nat->Rat)->Rat}(h:LH n E)(A:Nat->Nat->Rat){i j:Nat}(hi:i < n)(hj:j < n)(hne:i≠j):E (Ex (Ex A i (A j)) j (A i)) = - E A:=by
 obtain⟨u,hu⟩:∃ u,u=A i:=⟨_,rfl⟩
 obtain⟨v,hv⟩:∃ v,v=A j:=⟨_,rfl⟩
 have comm:∀ x y:Nat->Rat,Ex (Ex A i x) j y=Ex (Ex A j y) i x:=fun x y=>by
  funext r c;unfold Ex
  by_cases a:r=j
  ·subst a;rw[if_pos rfl,if_neg (Ne.symm hne),if_pos rfl]
  ·rw[if_neg a]
   by_cases b:r=i
   ·rw[if_pos b,if_pos b]
   ·rw[if_neg b,if_neg b,if_neg a]
 have z:∀ x:Nat->Rat,E (Ex (Ex A i x) j x)=0:=fun x=>h.alt _ i j hi hj hne (by
  funext c
  show(if i=j then x c else if i=i then x c else A i c)=(if j=j then x c else _);rw[if_neg hne,if_pos rfl,if_pos rfl])
 have l2:∀ x a b (y1 y2:Nat->Rat),E (Ex (Ex A i x) j fun c=>a*y1 c+b*y2 c)=a*E (Ex (Ex A i x) j y1)+b*E (Ex (Ex A i x) j y2):=fun x a b y1 y2=>h.lin _ j hj a b y1 y2;have l1:∀ y a b (x1 x2:Nat->Rat),E (Ex (Ex A i fun c=>a*x1 c+b*x2 c) j y)=a*E (Ex (Ex A i x1) j y)+b*E (Ex (Ex A i x2) j y):=fun y a b x1 x2=>by
  rw[comm,comm,comm];exact h.lin _ i hi a b x1 x2
 have key:=z (fun c=>1*u c+1*v c);rw[l1,l2,l2,z u,z v]at key;have hA:Ex (Ex A i u) j v=A:=by rw[hu,Ku,hv,Ku]
 rw[hA]at key;rw[<-hu,<-hv];grind
theorem LH.sum{n:Nat}{E:(Nat->Nat->Rat)->Rat}(h:LH n E)(A:Nat->Nat->Rat){i:Nat}(hi:i < n)(t:Nat->Rat)(f:Nat->Nat->Rat):∀ N,E (Ex A i fun c=>sm N fun k=>t k*f k c)=sm N fun k=>t k*E (Ex A i (f k))
 | 0=>by
  have:=h.lin A i hi 0 0 (fun _=>0) (fun _=>0);have e:(fun c=>sm 0 fun k=>t k*f k c)=fun c:Nat=>(0:Rat)*(0:Rat)+0*0:=by funext c;rw[EO];grind
  rw[e,this,EO];grind
 | N+1=>by
  have e:(fun c=>sm (N+1) fun k=>t k*f k c)=fun c=>1*(sm N fun k=>t k*f k c)+t N*f N c:=by funext c;rw[Br];grind
  rw[e,h.lin A i hi,LH.sum h A hi t f N,Br];grind
def er(c:Nat):Nat->Rat:=fun k=>if k=c then 1 else 0
theorem LH.perm{n:Nat}{E:(Nat->Nat->Rat)->Rat}(h:LH n E):∀(d:Nat) (A:Nat->Nat->Rat) (s:Nat->Nat) (m:Nat),n=m+d->(∀ i,i < n->s i < n/\A i=er (s i))->(∀ i,i < m->s i=i)->E A=0
 | 0,A,s,m,hd,hA,hs=>by
  rw[<-h.one];refine h.cong _ _ fun i j hi hj=>?_;rw[(hA i hi).2,hs i Aa];show(if j=i then(1:Rat)else 0)=if i=j then 1 else 0;by_cases e:i=j
  ·rw[if_pos e,if_pos e.symm]
  ·rw[if_neg e,if_neg (Ne.symm e)]
 | d+1,A,s,m,hd,hA,hs=>by
  by_cases hinj:∃ i j,i < n/\j < n/\i≠j/\s i=s j
  ·obtain⟨i,j,hi,hj,hne,e⟩:=hinj
   exact h.alt A i j hi hj hne (by rw[(hA i hi).2,(hA j hj).2,e])
  ·have hinj':∀ i j,i < n->j < n->s i=s j->i=j:=fun i j hi hj e=>Classical.byContradiction fun hne=>hinj ⟨i,j,hi,hj,hne,e⟩
   have hex:∃ j,j < n/\s j=m:=by
    refine Classical.byContradiction fun hno=>?_;have hno':∀ j,j < n->s j≠m:=fun j hj e=>hno ⟨j,hj,e⟩;obtain⟨n',rfl⟩:∃ n',n=n'+1:=⟨n - 1,Aa⟩
    obtain⟨i,j,hij,hj,q⟩:=lK n' (fun i=>if s i < m then s i else s i - 1) (fun i hi=>by
     have h1:=(hA i hi).1;have h2:=hno' i hi;show(if s i < m then s i else s i - 1) < n'
     split<;>omega)
    have h1:=hno' i Aa;have h2:=hno' j hj;have:s i=s j:=by
     have q':(if s i < m then s i else s i - 1)=(if s j < m then s j else s j - 1):=q
     split at q'<;>split at q'<;>omega
    have:=hinj' i j Aa hj this;omega
   obtain⟨j,hj,e⟩:=hex;have hjm:m<=j:=by
    rcases Nat.lt_or_ge j m with a | a
    ·have:=hs j a;omega
    ·exact a
   by_cases hjm':j=m
   ·subst hjm'
    refine LH.perm h d A s (j+1) Aa hA fun i hi=>?_;rcases Nat.lt_or_ge i j with a | a
    ·exact hs i a
    ·obtain rfl:i=j:=by omega
     exact e
   ·have h2:=LH.perm h d (Ex (Ex A m (A j)) j (A m)) (fun i=>if i=m then s j else if i=j then s m else s i) (m+1) Aa (fun i hi=>by
     by_cases a:i=m
     ·subst a
      simp only[if_pos];refine⟨by rw[e];exact hi,?_⟩
      funext c
      show(if i=j then A i c else if i=i then A j c else A i c)=_;rw[if_neg (Ne.symm hjm'),if_pos rfl,(hA j hj).2]
     ·by_cases b:i=j
      ·subst b
       rw[if_neg a,if_pos rfl];refine⟨(hA m Aa).1,?_⟩
       funext c
       show(if i=i then A m c else _)=_;rw[if_pos rfl,(hA m Aa).2]
      ·rw[if_neg a,if_neg b]
       refine⟨(hA i hi).1,?_⟩
       funext c
       show(if i=j then A m c else if i=m then A j c else A i c)=_;rw[if_neg b,if_neg a,(hA i hi).2]) (fun i hi=>by
     by_cases a:i=m
     ·simp only[if_pos a];rw[e,a]
     ·simp only[if_neg a]
      rw[if_neg Aa];exact hs i Aa)
    have h3:=h.swap A (i:=m) (j:=j) Aa hj (Ne.symm hjm');rw[h2]at h3;grind
theorem gY(v:Nat->Rat)(n c:Nat)(h:c < n):v c=sm n fun k=>v k*er k c:=by
 rw[Wu (f:=fun k=>v k*er k c) h (fun i _ hne=>by show v i*(if c=i then 1 else 0)=0;rw[if_neg (Ne.symm hne)];grind)];show v c=v c*(if c=c then 1 else 0);rw[if_pos rfl];grind
theorem LH.all{n:Nat}{E:(Nat->Nat->Rat)->Rat}(h:LH n E):∀(m:Nat),m<=n->∀(A:Nat->Nat->Rat),(∀ i,m<=i->i < n->∃ c,c < n/\A i=er c)->E A=0
 | 0,_,A,hA=>by
  have hA':∀ i,∃ c,i < n->c < n/\A i=er c:=fun i=>by
   by_cases hi:i < n
   ·obtain⟨c,hc⟩:=hA i (Nat.zero_le _) hi;exact⟨c,fun _=>hc⟩
   ·exact⟨0,fun h=>absurd h hi⟩
  exact h.perm n A (fun i=>Classical.choose (hA' i)) 0 Aa (fun i hi=>Classical.choose_spec (hA' i) hi) (fun i hi=>Aa)
 | m+1,hm,A,hA=>by
  have e:E A=E (Ex A m fun c=>sm n fun k=>A m k*er k c):=by
   refine h.cong _ _ fun i j hi hj=>?_;unfold Ex
   split
   ·rename_i e;rw[e];exact gY _ _ _ hj
   ·rfl
  rw[e,h.sum A Aa];rw[show sm n (fun k=>A m k*E (Ex A m (er k)))=sm n fun _=>0 from CF fun k hk=>by
   rw[LH.all h m Aa (Ex A m (er k)) fun i hi hin=>?_]
   ·grind
   ·by_cases a:i=m
    ·exact⟨k,hk,by subst a;funext c;show(if i=i then er k c else _)=_;rw[if_pos rfl]⟩
    ·obtain⟨c,hc1,hc2⟩:=hA i Aa hin
     exact⟨c,hc1,by rw[<-hc2];funext x;show(if i=m then er k x else A i x)=_;rw[if_neg a]⟩]
  exact Mv n
theorem XK(f:Nat->Rat):∀ n,sm (n+1) f=sm (n+1) fun i=>f (n - i)
 | 0=>by rw[Br,Br,EO,EO]
 | n+1=>by
  rw[Br,XK f n,Rb (n+1)];rw[show sm (n+1) (fun i=>f (n+1 - (i+1)))=sm (n+1) (fun i=>f (n - i))from CF fun i _=>by congr 1;omega];rw[Nat.sub_zero];grind
theorem conv{N p q j:Nat}{X Y:Nat->Rat}(hp:p < N)(hX:Bq (p+1) X) :
  sm N (fun c=>(if c<=p then X (p - c)else 0)*(if j<=q+c then Y (q+c - j)else 0))=if j<=p+q then cv X Y (p+q - j)else 0:=by
 have h1:sm N (fun c=>(if c<=p then X (p - c)else 0)*(if j<=q+c then Y (q+c - j)else 0))=sm (p+1) (fun c=>(if c<=p then X (p - c)else 0)*(if j<=q+c then Y (q+c - j)else 0)):=
  OJ (fun i hi=>by rw[if_neg Aa];grind) Aa
 rw[h1,XK];by_cases hj:j<=p+q
 ·rw[if_pos hj,WT hX]
  refine CF fun i hi=>?_;rw[if_pos Aa,show p - (p - i)=i from by omega];by_cases a:i<=p+q - j
  ·rw[if_pos Aa,if_pos a];congr 2;omega
  ·rw[if_neg Aa,if_neg a]
 ·rw[if_neg hj]
  rw[show sm (p+1) (fun i=>(if p - i<=p then X (p - (p - i))else 0)*(if j<=q+(p - i)then Y (q+(p - i) - j)else 0))=sm (p+1) fun _=>0 from CF fun i hi=>by
   rw[if_neg (show ¬ j<=q+(p - i) by omega)];grind]
  exact Mv _
def gx(n k m:Nat)(G:Nat->Rat):Nat->Nat->Rat:=fun i c =>
 if i < k then(if c < n+k then(if c<=n+i then G (n+i - c)else 0)else 0)
 else if i < k+m then(if c=n+i then 1 else 0)else(if c+m=i then 1 else 0)
theorem PI:pone≠pz:=fun e=>by have:=congrFun e 0;exact absurd this Ab
def We(s:Nat)(q:Rat):Prop:=∃ z:Int,q=(z:Rat)/\z.natAbs < bp s
theorem We.mul{s t:Nat}{p q:Rat}(h:We s p)(k:We t q):We (s+t) (p*q):=by
 obtain⟨x,rfl,hx⟩:=h;obtain⟨y,rfl,hy⟩:=k;refine⟨x*y,(Rat.intCast_mul x y).symm,?_⟩;rw[Int.natAbs_mul,Io];exact Nat.mul_lt_mul'' hx hy
theorem We.sg{s:Nat}{q:Rat}(h:We s q)(i:Nat):We s (Hp.sg i*q):=by
 obtain⟨x,rfl,hx⟩:=h;unfold Hp.sg
 split
 ·exact⟨x,Af,hx⟩
 ·exact⟨-x,by rw[Rat.intCast_neg];grind,by rw[Int.natAbs_neg];exact hx⟩
theorem We.up{s t:Nat}{q:Rat}(h:We s q)(k:s<=t):We t q:=by
 obtain⟨x,rfl,hx⟩:=h;exact⟨x,rfl,Nat.lt_of_lt_of_le hx (Fx k)⟩
theorem We.zero(s:Nat):We s 0:=⟨0,rfl,Ib s⟩
/-! ### the resultant with the derivative -/
theorem CU{F:Nat->Rat}(h:ZI F):ZI (pd F):=fun i=>by
 obtain⟨n,e⟩:=h (i+1);exact⟨((i+1:Nat):Int)*n,by unfold pd;rw[e,Rat.intCast_mul];rfl⟩
theorem Qi{F:Nat->Rat}{n:Nat}(h:Bq (n+1) F):Bq n (pd F):=fun i hi=>by unfold pd;rw[h (i+1) Aa];exact Rat.mul_zero _
theorem Gz{F:Nat->Rat}(fF:Ae F):pl (pd F)=pl F - 1:=by
 by_cases h:pl F=0
 ·rw[(BF fF).1 h]
  have:pd pz=pz:=by funext i;exact Rat.mul_zero _
  rw[this,BJ]
 ·obtain⟨m,hm⟩:∃ m,pl F=m+1:=⟨pl F - 1,Aa⟩
  have hs:Bq (m+1) F:=hm▸AB fF;have ht:=EH fF Aa;rw[hm]at ht ⊢;refine Jr (Qi hs) fun h0=>?_;obtain⟨k,rfl⟩:∃ k,m=k+1:=⟨m - 1,Aa⟩
  show((k+1:Nat):Rat)*F (k+1)≠0;intro e;rcases Rat.mul_eq_zero.1 e with e | e
  ·have:((k+1:Nat):Rat)=((0:Nat):Rat):=e
   have:=Rat.natCast_inj.1 this;omega
  ·exact ht e
structure Bn(F:Nat->Rat):Prop where
 z:ZI F
 f:Ae F
 n:F≠pz
 l:0 < ld F
 c:cn F=1
theorem Bn.pp{F:Nat->Rat}(hz:ZI F)(h:Ae F)(h0:F≠pz):Bn (Hp.pp F):=⟨II hz h,Db h,Xi hz h h0,LM hz h h0,Qz hz h h0⟩
theorem Bn.pcn{F:Nat->Rat}(h:Bn F):Hp.pcn F=1:=by
 have:=h.l;unfold Hp.pcn;rw[if_neg Af,h.c];rfl
theorem Bn.self{F:Nat->Rat}(h:Bn F):Hp.pp F=F:=by
 have e:=Ow h.z h.f h.n;rw[h.pcn]at e;rw[show(((1:Int)):Rat)=1 from rfl,Cu]at e;exact e.symm
theorem Bn.pos{F:Nat->Rat}(h:Bn F):0 < pl F:=AQ h.f h.n
theorem Dk{F:Nat->Rat}(h:Ae F):∃ S,∀ i,qsz (F i)<=S:=by
 obtain⟨n,h⟩:=h;induction n generalizing F with
 | zero=>exact⟨1,fun i=>by rw[h i (Nat.zero_le _)];decide⟩
 | succ n ih =>
  obtain⟨S,hS⟩:=ih h.tl;refine⟨max S (qsz (F 0)),fun i=>?_⟩
  match i with
  | 0=>exact Nat.le_max_right _ _
  | i+1=>exact Nat.le_trans (hS i) (Nat.le_max_left _ _)
theorem EG{F G:Nat->Rat}(fF:Ae F)(fG:Ae G)(zF:ZI F)(zG:ZI G):I5 F G (Df F G):=by
 obtain⟨S,hS⟩:=Dk fF;obtain⟨T,hT⟩:=Dk fG;exact(YW fF fG zF zG (S:=max S T) (fun i=>Nat.le_trans (hS i) (Nat.le_max_left _ _)) (fun i=>Nat.le_trans (hT i) (Nat.le_max_right _ _))).1
theorem bA{F G:Nat->Rat}(h:Ae F)(k:Ae G)(hF:F≠pz)(hG:G≠pz):ld (cv F G)=ld F*ld G:=by
 have h1:=Ee h k hF hG;have h2:=AQ h hF;have h3:=AQ k hG;unfold ld;rw[h1];have:=TG (n:=pl F - 1) (m:=pl G - 1) (by rw[show pl F - 1+1=pl F by omega];exact AB h) (by rw[show pl G - 1+1=pl G by omega];exact AB k);rw[show pl F+pl G - 1 - 1=pl F - 1+(pl G - 1) by omega];exact this
theorem Bn.mul{F G:Nat->Rat}(h:Bn F)(k:Bn G):Bn (cv F G):=
 ⟨h.z.cv k.z,h.f.cv k.f,fun e=>by rcases JU h.f k.f e with e | e;exact h.n e;exact k.n e,by rw[bA h.f k.f h.n k.n];exact Rat.mul_pos h.l k.l,by rw[Oh h.z k.z h.f k.f,h.c,k.c]⟩
theorem GI:Bn pone:=by
 have e:pl pone=1:=Jr DX fun _=>by show(1:Rat)≠0;decide
 refine⟨fun i=>?_,Di,PI,?_,?_⟩
 ·match i with
  | 0=>exact⟨1,rfl⟩
  | i+1=>exact⟨0,rfl⟩
 ·unfold ld;rw[e];show(0:Rat) < 1;decide
 ·unfold cn;rw[e];rfl
theorem Bn.one{F:Nat->Rat}(h:Bn F)(h1:pl F<=1):F=pone:=by
 have hp:=h.pos;have e1:pl F=1:=by omega
 have hc:=h.c;have hl:=h.l;unfold ld at hl;unfold cn at hc;rw[e1]at hl hc;have hc':Int.gcd ((0:Nat):Int) (F 0).num=1:=hc;obtain⟨z,hz⟩:=h.z 0;rw[hz]at hc' hl;have hn:((z:Int):Rat).num=z:=rfl;rw[hn]at hc';have hz0:0 < z:=by exact_mod_cast hl
 have h2:z.natAbs=1:=by simpa[Int.gcd] using hc'
 have h3:z=1:=by omega
 funext i
 match i with
 | 0=>rw[hz,h3];rfl
 | i+1=>exact(AB h.f) (i+1) Aa
theorem Bn.gcd{F G:Nat->Rat}(h:Bn F)(zG:ZI G)(fG:Ae G):Bn (Df F G)/\J6 F (Df F G)/\J6 G (Df F G)/\Dv (Df F G) F/\Dv (Df F G) G/\∃ U V,Ae U/\Ae V/\pad (cv U F) (cv V G)=Df F G:=by
 have k:=EG h.f fG h.z zG;obtain⟨D,hD⟩:∃ D,D=Df F G:=⟨_,rfl⟩
 rw[<-hD]at k ⊢;obtain⟨f1,z1,l1,c1,g1⟩:=k;have k':I5 F G D:=⟨f1,z1,l1,c1,g1⟩
 have hn:D≠pz:=fun e=>by
  have:=g1.2.2.1;rw[e,Lm]at this;exact h.n (Lp this)
 refine⟨⟨z1,f1,hn,l1 hn,by rw[c1,h.c,Nat.gcd_one_left]⟩,k'.zdv h.z h.f hn,k'.symm_.zdv zG fG hn,(GD D).trans g1.2.2.1,(GD D).trans g1.2.2.2.1,?_⟩;obtain⟨U,V,fU,fV,e⟩:=g1.bez h.f fG;refine⟨psc (ld D) U,psc (ld D) V,fU.psc _,fV.psc _,?_⟩;have e2:psc (ld D) (pad (cv U F) (cv V G))=psc (ld D) (mn D):=by rw[e]
 have e3:psc (ld D) (mn D)=D:=by
  unfold mn;rw[C9];have:=CW f1 hn;rw[show ld D*(1 / ld D)=1 by grind,Cu]
 rw[e3]at e2;rw[Cz,Cz,<-e2]
 funext n;simp only[pad,psc];grind
theorem QL{F D:Nat->Rat}(fD:Ae D)(nD:D≠pz)(h:J6 F D):ZI (pq F D)/\Ae (pq F D)/\F=cv (pq F D) D:=by
 obtain⟨Q,zQ,fQ,e⟩:=h;have:=(Nn fQ fD nD).1;rw[<-e]at this;rw[this];exact⟨zQ,fQ,e⟩
theorem Bn.quot{F D:Nat->Rat}(h:Bn F)(k:Bn D)(hd:J6 F D):Bn (pq F D)/\F=cv (pq F D) D:=by
 obtain⟨zQ,fQ,e⟩:=QL k.f k.n hd;have nQ:pq F D≠pz:=fun e2=>h.n (by rw[e,e2,Cv]);have h1:ld F=ld (pq F D)*ld D:=by rw[<-bA fQ k.f nQ k.n,<-e]
 have h2:cn F=cn (pq F D)*cn D:=by rw[<-Oh zQ k.z fQ k.f,<-e]
 refine⟨⟨zQ,fQ,nQ,?_,?_⟩,e⟩
 ·have a:=h.l;have b:=k.l
  rw[h1]at a;rcases Std.lt_trichotomy 0 (ld (pq F D))with c | c | c
  ·exact c
  ·rw[<-c]at a;rw[Rat.zero_mul]at a;exact absurd a Ab
  ·exfalso
   have:=Rat.mul_neg_iff_of_pos_right b |>.2 c
   grind
 ·rw[h.c,k.c]at h2;omega
def Cx(F G:Nat->Rat):Prop:=∃ U V,Ae U/\Ae V/\pad (cv U F) (cv V G)=pone
theorem Cx.symm{F G:Nat->Rat}(h:Cx F G):Cx G F:=by
 obtain⟨U,V,a,b,e⟩:=h;exact⟨V,U,b,a,by rw[<-e];funext n;simp only[pad];grind⟩
theorem Cx.dv{F G D:Nat->Rat}(h:Cx F G)(k:Dv D F):Cx D G:=by
 obtain⟨U,V,a,b,e⟩:=h;obtain⟨Q,fQ,rfl⟩:=k;exact⟨cv U Q,V,a.cv fQ,b,by rw[Ai];exact e⟩
theorem Cx.euclid{F G H:Nat->Rat}(h:Cx F G)(fH:Ae H)(k:Dv F (cv G H)):Dv F H:=by
 obtain⟨U,V,a,b,e⟩:=h;have h1:Dv F (cv (pad (cv U F) (cv V G)) H):=by
  rw[D5];refine Dv.pad ?_ ?_
  ·rw[Ai,AX F H,<-Ai]
   exact(Dv.refl F).mul (a.cv fH)
  ·rw[Ai];exact k.mul b
 rw[e,Ck]at h1;exact h1
theorem Cx.self{F:Nat->Rat}(fF:Ae F)(h:Cx F F):pl F=1:=by
 obtain⟨U,V,a,b,e⟩:=h;have h1:Dv F pone:=by rw[<-e];exact((Dv.refl F).mul a).pad ((Dv.refl F).mul b)
 have hn:F≠pz:=fun e2=>PI (Lp (by rw[e2]at h1;exact h1));have h2:=Dv.le fF Di PI h1;have h3:pl pone<=1:=BX DX;have:=AQ fF hn;omega
theorem Cx.of_gcd{F G:Nat->Rat}(h:Bn F)(zG:ZI G)(fG:Ae G)(h1:pl (Df F G)<=1):Cx F G:=by
 obtain⟨k,-,-,-,-,U,V,a,b,e⟩:=h.gcd zG fG;rw[k.one h1]at e;exact⟨U,V,a,b,e⟩
theorem Cx.gcd{F G:Nat->Rat}(c:Cx F G)(h:Bn F)(zG:ZI G)(fG:Ae G):Df F G=pone:=by
 obtain⟨k,-,-,d1,d2,-⟩:=h.gcd zG fG;have h1:=Cx.self k.f ((c.dv d1).symm.dv d2);exact k.one Aa
theorem Bw{F:Nat->Rat}(h:Ae F):Ae (pd F):=by
 obtain⟨n,h⟩:=h;exact⟨n,Qi (h.mono (Nat.le_succ n))⟩
theorem iY{F:Nat->Rat}(fF:Ae F)(hn:F≠pz)(h:Dv F (pd F)):pl F=1:=by
 have h1:=Gz fF;have h2:=AQ fF hn;rcases Nat.lt_or_ge 1 (pl F)with h3 | h3
 ·have h4:pd F≠pz:=fun e=>by rw[e,BJ]at h1;omega
  have:=Dv.le fF (Bw fF) h4 h;omega
 ·omega
def pw(F:Nat->Rat):Nat->Nat->Rat
 | 0=>pone
 | n+1=>cv (pw F n) F
theorem Ni{F:Nat->Rat}(h:Ae F):∀ n,Ae (pw F n)
 | 0=>Di
 | n+1=>(Ni h n).cv h
theorem YR(n:Nat):pw pone n=pone:=by
 induction n with
 | zero=>rfl
 | succ n ih=>show cv (pw pone n) pone=pone;rw[ih,I4]
theorem WK(F G:Nat->Rat):∀ n,pw (cv F G) n=cv (pw F n) (pw G n)
 | 0=>(Ck pone).symm
 | n+1=>by
  show cv (pw (cv F G) n) (cv F G)=cv (cv (pw F n) F) (cv (pw G n) G);rw[WK F G n,Ai,Ai,<-Ai (pw G n) F G,AX (pw G n) F,Ai]
theorem Sj{F:Nat->Rat}(h:Bn F):∀ n,Bn (pw F n)
 | 0=>GI
 | n+1=>(Sj h n).mul h
theorem aK{F:Nat->Rat}(h:Bn F):∀ n,pl (pw F n)=n*(pl F - 1)+1
 | 0=>by show pl pone=_;rw[show pl pone=1 from Jr DX fun _=>by show(1:Rat)≠0;decide];omega
 | n+1=>by
  have h1:=Ee (Sj h n).f h.f (Sj h n).n h.n;have h2:=h.pos;show pl (cv (pw F n) F)=_;rw[h1,aK h n,Nat.succ_mul];omega
/-! ### the rounds -/
noncomputable def yw(W C:Nat->Rat):Nat->(Nat->Rat)×(Nat->Rat)
 | 0=>(W,C)
 | k+1=>(Df (yw W C k).1 (yw W C k).2,pq (yw W C k).2 (Df (yw W C k).1 (yw W C k).2))
noncomputable def ya(W C:Nat->Rat)(k:Nat):Nat->Rat:=pq (yw W C k).1 (yw W C (k+1)).1
section
variable{W C:Nat->Rat}
theorem P6(hW:Bn W)(hC:Bn C):∀ k,Bn (yw W C k).1/\Bn (yw W C k).2
 | 0=>⟨hW,hC⟩
 | k+1=>by
  obtain⟨h1,h2⟩:=P6 hW hC k;obtain⟨k1,k2,k3,-⟩:=h1.gcd h2.z h2.f;exact⟨k1,(h2.quot k1 k3).1⟩
theorem j4(hW:Bn W)(hC:Bn C)(k:Nat):Bn (ya W C k)/\(yw W C k).1=cv (ya W C k) (yw W C (k+1)).1/\(yw W C k).2=cv (yw W C (k+1)).2 (yw W C (k+1)).1/\J6 (yw W C k).1 (yw W C (k+1)).1/\J6 (yw W C k).2 (yw W C (k+1)).1:=by
 obtain⟨h1,h2⟩:=P6 hW hC k;obtain⟨k1,k2,k3,-⟩:=h1.gcd h2.z h2.f;have q1:=h1.quot k1 k2;have q2:=h2.quot k1 k3;exact⟨q1.1,q1.2,q2.2,k2,k3⟩
theorem IY{A B D:Nat->Rat}(h:J6 A B)(k:J6 B D):J6 A D:=by
 obtain⟨Q,a,b,rfl⟩:=h;obtain⟨R,c,d,rfl⟩:=k;exact⟨cv Q R,a.cv c,b.cv d,(Ai _ _ _).symm⟩
theorem MH{A B:Nat->Rat}(h:J6 A B):Dv B A:=by
 obtain⟨Q,a,b,rfl⟩:=h;exact⟨Q,b,rfl⟩
theorem Xl(hW:Bn W)(hC:Bn C):∀ k,J6 W (yw W C k).1/\J6 C (yw W C k).2
 | 0=>⟨⟨pone,GI.z,Di,(Ck _).symm⟩,⟨pone,GI.z,Di,(Ck _).symm⟩⟩
 | k+1=>by
  obtain⟨h1,h2⟩:=Xl hW hC k;obtain⟨p,e1,e2,d1,d2⟩:=j4 hW hC k;have q:=(P6 hW hC (k+1)).1;exact⟨IY h1 d1,IY h2 ⟨(yw W C (k+1)).1,q.z,q.f,by rw[AX];exact e2⟩⟩
end
noncomputable def rd(F:Nat->Rat):Nat->Rat:=psc (1 / ((cn F:Nat):Rat)) F
theorem WH:rd pz=pz:=EF _
theorem LD(F:Nat->Rat):rd F=psc (if ld F < 0 then -1 else 1) (pp F):=by
 unfold rd pp pcn
 split
 ·rw[C9]
  congr 1;have:(((-(cn F:Int):Int)):Rat) = -((cn F:Nat):Rat):=by simp;rfl
  rw[this];grind
 ·rw[Cu];rfl
theorem Gm(p:Prop)[Decidable p]:(if p then(-1:Rat)else 1)=1\/(if p then(-1:Rat)else 1) = -1:=by split;exact .inr rfl;exact .inl rfl
theorem EY{e:Rat}(h:e=1\/e = -1):e≠0:=by rcases h with rfl | rfl<;>decide
theorem XN{e:Rat}{F:Nat->Rat}(h:e=1\/e = -1)(z:ZI F):ZI (psc e F):=by
 rcases h with rfl | rfl
 ·rw[Cu];exact z
 ·exact z.psc (-1)
theorem JG{e:Rat}{F:Nat->Rat}(h:e=1\/e = -1)(i:Nat):qsz (psc e F i)=qsz (F i):=by
 rcases h with rfl | rfl
 ·rw[Cu]
 ·have:psc (-1) F i = - F i:=by show -1*F i=_;grind
  rw[this,Gd]
noncomputable def nx(A B:Nat->Rat):Nat->Rat:=
 open Classical in if pr A B=pz then pz else psc (if 0 < ld (pr A B)then -1 else 1) (pp (Dp (pl (pr A B)) (pr A B)))
theorem J3{A B:Nat->Rat}(h:pr A B=pz):nx A B=pz:=by unfold nx;rw[if_pos h]
theorem TH{A B:Nat->Rat}(h:pr A B≠pz):nx A B=psc (if 0 < ld (pr A B)then -1 else 1) (pp (Dp (pl (pr A B)) (pr A B))):=by unfold nx;rw[if_neg h]
section
variable{A B:Nat->Rat}
theorem Uf{R:Nat->Rat}{n:Nat}(hs:Bq n R)(h0:R≠pz):(0 < LG n R↔0 < ld R)/\LG n R≠0:=by
 have fR:Ae R:=⟨n,hs⟩
 obtain⟨-,e⟩:=Ta hs h0;have hp:=LM (Fa hs) (EL (n:=n) fR) (OH (n:=n) fR h0);have hc:LG n R≠0:=fun e0=>h0 (by rw[<-e,e0,QH]);have hl:ld R=LG n R*ld (pp (Dp n R)):=by
  conv=>lhs;rw[<-e]
  exact JV hc (Db (EL (n:=n) fR))
 refine⟨?_,hc⟩;rw[hl];constructor
 ·intro h;exact Rat.mul_pos h hp
 ·intro h
  rcases Std.lt_trichotomy 0 (LG n R)with a | a | a
  ·exact a
  ·exact absurd a.symm hc
  ·exfalso
   have:=(Rat.mul_neg_iff_of_pos_right hp).2 a;grind
theorem L6(fA:Ae A)(fB:Ae B)(h0:B≠pz):ZI (nx A B)/\Ae (nx A B)/\pl (nx A B)=pl (pr A B)/\pl (nx A B) < pl B/\(pr A B≠pz->∃ c:Rat,0 < c/\pr A B=psc (-c) (nx A B)):=by
 have hp:=AQ fB h0;have hs:=Er fA fB h0;have fR:=EE fA fB;have hlt:=BX hs;by_cases hR:pr A B=pz
 ·rw[J3 hR,hR]
  exact⟨ZI.pz,Ae.pz,rfl,by rw[BJ];omega,fun h=>absurd rfl h⟩
 ·obtain⟨R,hRe⟩:∃ R,R=pr A B:=⟨_,rfl⟩
  rw[TH hR];rw[<-hRe]at hR fR hlt ⊢;have hsR:=AB fR;have zc:=Fa hsR;have fc:=EL (n:=pl R) fR;have nc:=OH (n:=pl R) fR hR;have hpm:=Gm (0 < ld R);have hpl:pl (psc (if 0 < ld R then(-1:Rat)else 1) (pp (Dp (pl R) R)))=pl R:=by
   rw[CK (EY hpm) (Db fc),DR zc fc,Nw fR]
  refine⟨XN hpm (II zc fc),(Db fc).psc _,hpl,by rw[hpl];omega,fun _=>?_⟩;obtain⟨-,e⟩:=Ta hsR hR;obtain⟨k1,k2⟩:=Uf hsR hR;by_cases hl:0 < ld R
  ·refine⟨LG (pl R) R,k1.2 hl,?_⟩
   rw[if_pos hl,C9]
   conv=>lhs;rw[<-e]
   congr 1;grind
  ·refine⟨-LG (pl R) R,?_,?_⟩
   ·have:¬ 0 < LG (pl R) R:=fun q=>hl (k1.1 q)
    grind
   ·rw[if_neg hl,C9]
    conv=>lhs;rw[<-e]
    congr 1;grind
end
theorem Pz{P Q:Nat->Rat}{q:Rat}(zP:ZI P)(zQ:ZI Q)(fQ:Ae Q)(nQ:Q≠pz)(hq:q≠0)(e:P=psc q Q):pp P=pp Q:=by
 have fP:Ae P:=by rw[e];exact fQ.psc q
 have nP:P≠pz:=fun h=>nQ ((BF fQ).1 (by rw[<-CK hq fQ,<-e,h,BJ]));have h1:=Bn.pp zP fP nP;have h2:=Bn.pp zQ fQ nQ;have hcP:(pcn P:Rat)≠0:=fun h=>Ew zP fP nP (by exact_mod_cast h);have hcQ:(pcn Q:Rat)≠0:=fun h=>Ew zQ fQ nQ (by exact_mod_cast h);obtain⟨r,hr⟩:∃ r:Rat,r=1 / (pcn P:Rat)*q*(pcn Q:Rat):=⟨_,rfl⟩
 have hr0:r≠0:=by rw[hr];grind
 have e2:pp P=psc r (pp Q):=by
  have e3:=Ow zQ fQ nQ
  conv=>lhs;unfold pp;rw[e,e3]
  rw[C9,C9,hr];congr 1;rw[<-e3,<-e]
 have hrp:0 < r:=by
  have a:=h1.l;rw[e2,JV hr0 h2.f]at a;have b:=h2.l;rcases Std.lt_trichotomy 0 r with c | c | c
  ·exact c
  ·exact absurd c.symm hr0
  ·exfalso
   have:=(Rat.mul_neg_iff_of_pos_right b).2 c;grind
 have e4:psc ((r.den:Int):Rat) (pp P)=psc ((r.num:Int):Rat) (pp Q):=by
  rw[e2,C9];congr 1;have:=Gn r;have hd:((r.den:Nat):Rat)≠0:=Jp r.den_pos;have h5:(((r.den:Int)):Rat)=((r.den:Nat):Rat):=rfl;rw[h5]
  conv=>lhs;rw[this]
  grind
 have hn:r.num≠0:=fun h=>hr0 (Rat.num_eq_zero.1 h);have hdn:(r.den:Int)≠0:=by have:=r.den_pos;omega
 have c1:=Iq hdn h1.z h1.f;have c2:=Iq hn h2.z h2.f;rw[e4,c2,h1.c,h2.c]at c1;have hnp:0<=r.num:=Rat.num_nonneg.2 Af;have hr1:r=1:=by
  have h3:r.num=(r.den:Int):=by omega
  rw[Gn r,h3];have hd:((r.den:Nat):Rat)≠0:=Jp r.den_pos;show((r.den:Nat):Rat) / ((r.den:Nat):Rat)=1;grind
 rw[e2,hr1,Cu]
theorem X6{A B:Nat->Rat}(fA:Ae A)(fB:Ae B)(h0:B≠pz)(e:Rat){d:Rat}(hd:d≠0):pr (psc e A) (psc d B)=psc e (pr A B):=by
 have h1:psc d B≠pz:=fun h=>h0 ((BF fB).1 (by rw[<-CK hd fB,h,BJ]));have h2:=(IL (fA.psc e) (fB.psc d) h1 (Q:=psc (e / d) (pq A B)) (R:=psc e (pr A B)) ((Dy A B).psc _) (by
  rw[Cz,NC,C9,show e / d*d=e by grind]
  funext i
  have:=congrFun (KL A B) i;simp only[psc,pad]at this ⊢;rw[this];grind) (by rw[CK hd fB];exact(Er fA fB h0).psc e)).2
 exact h2.symm
def F7(F0 G0:Nat->Rat)(D S:Nat)(A B:Nat->Rat):Prop:=∃ A' B' e d,Il F0 G0 D S A' B'/\A=psc e A'/\B=psc d B'/\(e=1\/e = -1)/\(d=1\/d = -1)
section
variable{F0 G0 A B:Nat->Rat}{D S:Nat}
theorem F7.start(fF:Ae F0)(fG:Ae G0)(zF:ZI F0)(zG:ZI G0)(qF:∀ i,qsz (F0 i)<=S)(qG:∀ i,qsz (G0 i)<=S):F7 F0 G0 (pl F0+pl G0) S (rd F0) (rd G0):=
 ⟨_,_,_,_,Il.start fF fG zF zG qF qG,LD F0,LD G0,Gm _,Gm _⟩
theorem F7.facts(h:F7 F0 G0 D S A B):Ae A/\Ae B/\ZI A/\ZI B/\pl A+pl B<=D/\(∀ i,qsz (A i)<=(S+1)*2^D)/\(∀ i,qsz (B i)<=(S+1)*2^D):=by
 obtain⟨A',B',e,d,h,rfl,rfl,he,hd⟩:=h;have hr:=h.room rfl;refine⟨h.fA.psc _,h.fB.psc _,XN he h.zA,XN hd h.zB,?_,fun i=>by rw[JG he];exact hr.1 i,fun i=>by rw[JG hd];exact hr.2.1 i⟩;rw[CK (EY he) h.fA,CK (EY hd) h.fB];exact h.deg
theorem F7.step(h:F7 F0 G0 D S A B)(h0:B≠pz):F7 F0 G0 D S B (nx A B):=by
 obtain⟨A',B',e,d,h,rfl,rfl,he,hd⟩:=h;have hB':B'≠pz:=fun q=>h0 (by rw[q,EF]);have hst:=(h.step hB' (R:=D6 A' B' (pl A'+1 - pl B')) rfl).1;have hend:=(J4 h.fA h.fB hB').2;have hl:=OT (CW h.fB hB') (pl A'+1 - pl B');have hpr:=X6 h.fA h.fB hB' e (EY hd);by_cases hR:pr A' B'=pz
 ·have e1:nx (psc e A') (psc d B')=pz:=J3 (by rw[hpr,hR,EF])
  rw[hend,hR,EF,IR]at hst;exact⟨B',pz,d,1,hst,rfl,by rw[e1,EF],hd,.inl rfl⟩
 ·have fR:=EE h.fA h.fB
  have hR2:pr (psc e A') (psc d B')≠pz:=fun q=>hR (by
   rw[hpr]at q;exact(BF fR).1 (by rw[<-CK (EY he) fR,q,BJ]))
  refine⟨B',_,d,_,hst,rfl,?_,hd,Gm (0 < ld (pr (psc e A') (psc d B')))⟩;rw[TH hR2];congr 1;have fR2:Ae (pr (psc e A') (psc d B')):=by rw[hpr];exact fR.psc e
  refine Pz (q:=((dl (pl (pr (psc e A') (psc d B'))) (pr (psc e A') (psc d B')):Nat):Rat)*e*(1 / ld B'^(pl A'+1 - pl B'))) (Fa (AB fR2)) (EI h.zA h.zB _) (Ps h.fA h.fB hB') (fun q=>hR ?_) ?_ ?_
  ·rw[q]at hend
   exact(BF fR).1 (by rw[<-CK hl fR,<-hend,BJ])
  ·have h1:=Qx (pl (pr (psc e A') (psc d B'))) (pr (psc e A') (psc d B'))
   have h2:=EY he;grind
  ·rw[hend,C9]
   unfold Dp
   conv=>lhs;arg 2;rw[hpr]
   rw[C9];congr 1;grind
end
noncomputable def kF(F G:Nat->Rat):Nat->(Nat->Rat)×(Nat->Rat)
 | 0=>(rd F,rd G)
 | k+1=>((kF F G k).2,nx (kF F G k).1 (kF F G k).2)
noncomputable def Ch(F G:Nat->Rat)(k:Nat):Nat->Rat:=(kF F G k).1
theorem JZ(F G:Nat->Rat)(k:Nat):Ch F G (k+2)=nx (Ch F G k) (Ch F G (k+1)):=rfl
noncomputable def Gp(F G:Nat->Rat)(K:Nat):List (Nat->Rat):=(List.range K).map (Ch F G)
theorem Et(F G:Nat->Rat)(K:Nat):(Gp F G K).length=K:=by simp[Gp]
theorem XH(F G:Nat->Rat)(K:Nat):Gp F G (K+1)=Gp F G K ++ [Ch F G K]:=by simp[Gp,List.range_succ]
theorem ZY{F G:Nat->Rat}{K i:Nat}(h:i < (Gp F G K).length):(Gp F G K)[i]=Ch F G i:=by simp[Gp]
def PG(F G:Nat->Rat)(K:Nat):Prop:=1<=K/\Ch F G K=pz/\∀ j,1<=j->j < K->Ch F G j≠pz
theorem PG.uniq{F G:Nat->Rat}{K L:Nat}(h:PG F G K)(k:PG F G L):K=L:=by
 rcases Nat.lt_trichotomy K L with a | a | a
 ·exact absurd h.2.1 (k.2.2 K h.1 a)
 ·exact a
 ·exact absurd k.2.1 (h.2.2 L k.1 a)
theorem IA{F G:Nat->Rat}{S:Nat}(fF:Ae F)(fG:Ae G)(zF:ZI F)(zG:ZI G)(qF:∀ i,qsz (F i)<=S)(qG:∀ i,qsz (G i)<=S):∀ k,(∀ j,1<=j->j<=k->Ch F G j≠pz)->F7 F G (pl F+pl G) S (Ch F G k) (Ch F G (k+1))
 | 0,_=>F7.start fF fG zF zG qF qG
 | k+1,h=>(IA fF fG zF zG qF qG k fun j a b=>h j a Aa).step (h (k+1) Aa Aa)
theorem OQ{F G:Nat->Rat}{S:Nat}(fF:Ae F)(fG:Ae G)(zF:ZI F)(zG:ZI G)(qF:∀ i,qsz (F i)<=S)(qG:∀ i,qsz (G i)<=S)(k:Nat)(h:∀ j,1<=j->j<=k->Ch F G j≠pz):pl (Ch F G (k+1))+k<=pl G:=by
 induction k with
 | zero =>
  show pl (rd G)+0<=_;by_cases h0:G=pz
  ·rw[h0,WH,BJ];omega
  ·rw[LD,CK (EY (Gm _)) (Db fG),DR zG fG];omega
 | succ k ih =>
  have h1:=ih fun j a b=>h j a Aa;obtain⟨f1,f2,-⟩:=(IA fF fG zF zG qF qG k fun j a b=>h j a Aa).facts;have h2:=(L6 f1 f2 (h (k+1) Aa Aa)).2.2.2.1;rw[JZ];omega
theorem GG{F G:Nat->Rat}{S:Nat}(fF:Ae F)(fG:Ae G)(zF:ZI F)(zG:ZI G)(qF:∀ i,qsz (F i)<=S)(qG:∀ i,qsz (G i)<=S):∃ K,PG F G K/\K<=pl G+1:=by
 have hx:∃ k,Ch F G (k+1)=pz:=Classical.byContradiction fun hn=>by
  have h1:=OQ fF fG zF zG qF qG (pl G) fun j a b=>fun e=>hn ⟨j - 1,by rw[show j - 1+1=j by omega];exact e⟩;exact hn ⟨pl G,by
   obtain⟨f1,f2,-⟩:=(IA fF fG zF zG qF qG (pl G) fun j a b=>fun e=>hn ⟨j - 1,by rw[show j - 1+1=j by omega];exact e⟩).facts;exact(BF f2).1 Aa⟩
 obtain⟨k,h1,h2⟩:=Mx hx;have hne:∀ j,1<=j->j < k+1->Ch F G j≠pz:=fun j a b e=>h2 (j - 1) Aa (by rw[show j - 1+1=j by omega];exact e);refine⟨k+1,⟨Aa,h1,hne⟩,?_⟩;have:=OQ fF fG zF zG qF qG k fun j a b=>hne j a Aa;omega
def Sc:Value->Bool
 | .bool _=>true
 | _=>false
def O7(w:World)(v:Value):Prop:=∀ g∈blk v,∀ i c,w.cell? ⟨g,i,none⟩≠some (.bool c)
theorem OP{w:World}{g:Nat}{t:TypeId}{cur:Array Value}{n c:Nat}(hb:w.heap[g]? = some (.cells cur t (0,0)))(h:∀ u∈cur.toList,Sc u=false):O7 w (.slice (some ⟨g,0,none⟩) n c):=by
 intro g' hg i b e;have:g'=g:=by simpa[blk,Value.ownBlock] using hg
 subst this;rw[cell_of_row w g' i cur t (0,0) hb]at e;have:=h (.bool b) (by
  have:=Array.mem_of_getElem? e;simpa using this)
 cases this
theorem Ye{w:World}{g:Nat}{t:TypeId}{cur:Array Value}{n c:Nat}(hb:w.heap[g]? = some (.cells cur t (0,0)))(h:O7 w (.slice (some ⟨g,0,none⟩) n c)):∀ u∈cur.toList,Sc u=false:=by
 intro u hu;obtain⟨i,hi,rfl⟩:=List.getElem_of_mem hu;have h1:=h g (by simp[blk,Value.ownBlock]) i;rw[cell_of_row w g i cur t (0,0) hb]at h1;have hi':i < cur.size:=by simpa using hi
 rw[Array.getElem?_eq_getElem hi']at h1;rw[Array.getElem_toList];cases hc:cur[i]with
 | bool b=>exact absurd (by rw[hc]) (h1 b)
 | _=>rfl
section
variable{P:Program}
theorem Nr(w:World)(k base:Nat)(t ty e:TypeId)(i:TypeInfo)(z:Value)(bytes:Nat)(ht:P.underlying t=some (.slice e))(hi:P.info? e=some i)(hz:i.zero=some z)
  (hsize:i.size=k) (hby:i.bytes=bytes) (hzs:z.cells.size=k) (hzd:nodig z.cells=true) (hsz:0 < k)
  (v:Value) (n:Nat) (xs:List Value) (hown:LK k base e w v n xs)
  (a:Addr) (c:Nat) (news:List Value) (hl:news.length=k) (hnews:∀ j u,news[j]? = some u->w.cell? (a.add j)=some u) (h1:∀ u∈news,u.oneCell'=true) (hnd:∀ u∈news,Ag u=false)
  (h63:n+1<=maxLen) (hbytes:(n+1)*bytes<=140737488355328) (hbase:base<=w.heap.size) (hvb:O7 w v) (hnb:∀ u∈news,Sc u=false) (hzB:∀ u∈z.cells.toList,Sc u=false) :
  ∃ v' w',(Builtin.append_ #[t,t] ty #[v,.slice (some a) 1 c]).run P w = .ok v' w'/\LK k base e w' v' (n+1) (xs ++ news)/\Cj (blk v) w w'/\O7 w' v':=by
 subst hsize;subst hby;have hl':news.length=1*i.size:=by rw[Nat.one_mul];exact hl
 have hlen:(xs ++ news).length=(n+1)*i.size:=by rw[List.length_append,hown.1,hl,Nat.succ_mul]
 have hsmall:n+1<=9223372036854775807:=by simp only[maxLen]at h63;omega
 have hzl:=BZ.1 hzd;have hzc:∀ m,∀ u∈(Builtin.zeroCells z.cells m).toList,Ag u=false:=by
  intro m u hu;simp only[Builtin.zeroCells,Array.toList_map,Array.toList_range,List.mem_map,List.mem_range]at hu;obtain⟨j,hj,rfl⟩:=hu;have:j % z.cells.size < z.cells.size:=Nat.mod_lt _ Aa;rw[getElem!_pos z.cells _ this];exact hzl _ Ac
 have hzb:∀ m,∀ u∈(Builtin.zeroCells z.cells m).toList,Sc u=false:=by
  intro m u hu;simp only[Builtin.zeroCells,Array.toList_map,Array.toList_range,List.mem_map,List.mem_range]at hu;obtain⟨j,hj,rfl⟩:=hu;have:j % z.cells.size < z.cells.size:=Nat.mod_lt _ Aa;rw[getElem!_pos z.cells _ this];exact hzB _ Ac
 have hxb:∀ u∈xs,Sc u=false:=by
  rcases hown.2 with⟨_,h0⟩ | ⟨g,cap,cur,ev,_,hb,_,_,_,htake⟩
  ·intro u hu
   have:xs=[]:=List.eq_nil_of_length_eq_zero (by rw[hown.1,h0,Nat.zero_mul]);rw[this]at hu;cases hu
  ·intro u hu
   rw[<-htake]at hu;exact Ye hb.1 (by rw[ev]at hvb;exact hvb) _ (List.mem_of_mem_take hu)
 have hxd:∀ u∈xs,Ag u=false:=by
  rcases hown.2 with⟨_,h0⟩ | ⟨g,cap,cur,_,_,hb,_,_,_,htake⟩
  ·intro u hu
   have:xs=[]:=List.eq_nil_of_length_eq_zero (by rw[hown.1,h0,Nat.zero_mul]);rw[this]at hu;cases hu
  ·intro u hu
   rw[<-htake]at hu;exact BZ.1 hb.2 _ (List.mem_of_mem_take hu)
 have grown:∀(old:Nat),old < n+1 ->
   LK i.size base e (w.drew.alloc (.cells (xs.toArray ++ news.toArray ++ Builtin.zeroCells z.cells (grownCap w (n+1) old e - (n+1))) e)) (.slice (some ⟨w.heap.size,0,none⟩) (n+1) (grownCap w (n+1) old e)) (n+1) (xs ++ news) /\
   (∀ G,Cj G w (w.drew.alloc (.cells (xs.toArray ++ news.toArray ++ Builtin.zeroCells z.cells (grownCap w (n+1) old e - (n+1))) e))) /\
   O7 (w.drew.alloc (.cells (xs.toArray ++ news.toArray ++ Builtin.zeroCells z.cells (grownCap w (n+1) old e - (n+1))) e)) (.slice (some ⟨w.heap.size,0,none⟩) (n+1) (grownCap w (n+1) old e)):=by
  intro old ho;have hge:=grownCap_ge w (n+1) old e;have hcm:grownCap w (n+1) old e<=maxLen:=grownCap_le_maxLen w (n+1) old e h63;refine⟨⟨hlen,.inr ⟨w.heap.size,_,_,rfl,hbase,⟨heap_alloc_new w.drew _,?_⟩,hge,hcm,?_,?_⟩⟩,fun G=>Cj.of_ext ((Ext.refl w).drew.alloc _),OP (heap_alloc_new w.drew _) ?_⟩
  ·rw[BZ]
   intro u hu;simp only[Array.toList_append,List.mem_append]at hu;rcases hu with(hu | hu) | hu
   ·exact hxd u (by simpa using hu)
   ·exact hnd u (by simpa using hu)
   ·exact hzc _ u hu
  ·simp only[Array.size_append,List.size_toArray,size_zeroCells,hzs,hown.1,hl]
   rw[<-Nat.succ_mul,<-Nat.add_mul];congr 1;omega
  ·simp only[Array.toList_append,List.append_assoc]
   rw[<-List.append_assoc,<-hlen];exact List.take_left
  ·intro u hu
   simp only[Array.toList_append,List.mem_append]at hu;rcases hu with(hu | hu) | hu
   ·exact hxb u (by simpa using hu)
   ·exact hnb u (by simpa using hu)
   ·exact hzb _ u hu
 rcases hown.2 with⟨rfl,rfl⟩ | ⟨g,cap,cur,rfl,hbg,hb,hnc,hcm,hcs,htake⟩
 ·have hx:xs=[]:=List.eq_nil_of_length_eq_zero (by simpa using hown.1)
  subst hx;have hr:=run_append_nil (P:=P) w t ty e i z ht hi hz a 1 c news hl' hnews Aa Aa (by have hb:=hbytes;simp only[Nat.zero_add]at hb;omega);have hgr:=grown 0 Aa;simp only[Nat.zero_add,List.nil_append,Array.empty_append]at hgr ⊢;exact⟨_,_,hr,hgr.1,hgr.2.1 _,hgr.2.2⟩
 ·have hg:=hb.1
  by_cases hroom:n+1<=cap
  ·have hfit:n*i.size+news.length<=cur.size:=by rw[hl,hcs,<-Nat.succ_mul];exact Nat.mul_le_mul_right _ hroom
   have hr:=run_append_room (P:=P) w t ty e i ht hi g n cap cur hg a 1 c news hl' hnews h1 hroom hfit;have hnew:∀ u∈cur.toList.take (n*i.size) ++ news ++ cur.toList.drop (n*i.size+news.length),Ag u=false:=by
    intro u hu;simp only[List.mem_append]at hu;rcases hu with(hu | hu) | hu
    ·exact BZ.1 hb.2 _ (List.mem_of_mem_take hu)
    ·exact hnd u hu
    ·exact BZ.1 hb.2 _ (List.mem_of_mem_drop hu)
   have hbx:Be (w.setRow g (cur.toList.take (n*i.size) ++ news ++ cur.toList.drop (n*i.size+news.length)).toArray) g e _:=⟨setRow_heap w g cur _ e _ hg,BZ.2 (by simpa using hnew)⟩
   refine⟨_,_,hr,⟨hlen,.inr ⟨g,cap,_,rfl,hbg,hbx,hroom,hcm,?_,?_⟩⟩,⟨fun g' o hg' ho=>?_,ND hb fun h hne _=>setRow_other w g h _ hne,fun a' ha hG=>?_⟩,OP hbx.1 ?_⟩
   ·simp only[List.size_toArray,List.length_append,List.length_take,List.length_drop,Array.length_toList]
    omega
   ·rw[htake,<-hlen]
    exact List.take_left
   ·rw[setRow_other w g g' _ (fun e=>hg' (by simp[blk,Value.ownBlock,e]))];exact ho
   ·have hga:a'.heap.size<=g:=hG g (by simp[blk,Value.ownBlock])
    exact ha.grown (row:=some g) ⟨rfl,rfl,rfl,by simp[World.setRow],fun k _ hk=>setRow_other w g k _ (fun e=>hk (by rw[e]))⟩ (fun k hk=>by cases hk;exact hga)
   ·intro u hu
    have hcb:=Ye hb.1 hvb;have hu':u∈cur.toList.take (n*i.size) ++ news ++ cur.toList.drop (n*i.size+news.length):=by simpa using hu
    simp only[List.mem_append]at hu';rcases hu' with(hu | hu) | hu
    ·exact hcb _ (List.mem_of_mem_take hu)
    ·exact hnb u hu
    ·exact hcb _ (List.mem_of_mem_drop hu)
  ·have holds:∀ j u,xs[j]? = some u->w.cell? ((⟨g,0,none⟩:Addr).add j)=some u:=hown.owns.cells (g:=g) rfl
   have hr:=run_append_grow (P:=P) w t ty e i z ht hi hz ⟨g,0,none⟩ n cap xs hown.1 holds a 1 c news hl' hnews Aa Aa (growslice_fits Aa hbytes);have hgr:=grown cap Aa;exact⟨_,_,hr,hgr.1,hgr.2.1 _,hgr.2.2⟩
end
section
variable{α:Type}{k:Nat}{rd:World->Value->α->Prop}{base:Nat}{e:TypeId}{w w':World}{v:Value}{l:List α}
theorem BH.append_blk{P:Program}(h:BH k rd base e w v l)(t ty:TypeId)(i:TypeInfo)(z:Value)(bytes:Nat)(ht:P.underlying t=some (.slice e))(hi:P.info? e=some i)(hz:i.zero=some z)
  (hsize:i.size=k) (hby:i.bytes=bytes) (hzs:z.cells.size=k) (hzd:nodig z.cells=true) (hsz:0 < k) {x:α}
  (a:Addr) (c:Nat) (news:Array Value) (hl:news.size=k) (hx:rd w (.agg news) x) (hnews:∀ j u,news.toList[j]? = some u->w.cell? (a.add j)=some u) (h1:∀ u∈news.toList,u.oneCell'=true) (hnd:nodig news=true)
  (h63:l.length+1<=maxLen) (hbytes:(l.length+1)*bytes<=140737488355328) (hbase:base<=w.heap.size) (hr:∀ w' u y,KD w w'->rd w u y->rd w' u y) (hvb:O7 w v) (hnb:∀ u∈news.toList,Sc u=false) (hzB:∀ u∈z.cells.toList,Sc u=false) :
  ∃ v' w',(Builtin.append_ #[t,t] ty #[v,.slice (some a) 1 c]).run P w = .ok v' w'/\BH k rd base e w' v' (l ++ [x])/\Cj (blk v) w w'/\O7 w' v':=by
 obtain⟨ess,g1,g2,g3,g5⟩:=h;obtain⟨v',w',hrun,hown,hupd,hblk⟩:=Nr (P:=P) w k base t ty e i z bytes ht hi hz hsize hby hzs hzd hsz v l.length _ g3 a c news.toList (by simpa using hl) hnews h1 (BZ.1 hnd) h63 hbytes hbase hvb hnb hzB;refine⟨v',w',hrun,⟨ess ++ [news],by simp[g1],?_,?_,?_⟩,hupd,hblk⟩
 ·intro d hd
  rcases List.mem_append.1 hd with hd | hd
  ·exact g2 d hd
  ·simp at hd;subst hd;exact hl
 ·have e1:(ess ++ [news]).flatMap Array.toList=ess.flatMap Array.toList ++ news.toList:=by simp
  rw[e1,List.length_append];exact hown
 ·intro j hj hj'
  rcases Nat.lt_or_ge j l.length with hlt | hge
  ·rw[List.getElem_append_left hlt,List.getElem_append_left Aa]
   exact hr _ _ _ hupd.kd (g5 j hlt Aa)
  ·have:j=l.length:=by simp at hj;omega
   subst this;rw[List.getElem_append_right Aa,List.getElem_append_right Aa];simpa using hr _ _ _ hupd.kd hx
end
theorem KD.own{A B:World}{row:Option Nat}(hg:A.grownBy B row)(hr:∀ r,row=some r->∃ o:Obj,A.heap[r]? = some o/\o.isCells=false):KD A B:=fun _ _ e=>cell_kept e hg hr
theorem Be.own{A B:World}{row:Option Nat}{g:Nat}{t:TypeId}{cs:Array Value}(h:Be A g t cs)(hg:A.grownBy B row)(hr:∀ r,row=some r->∃ o:Obj,A.heap[r]? = some o/\o.isCells=false):Be B g t cs:=
 ⟨(hg.block g h.lt (fun e=>by obtain⟨o,h1,h2⟩:=hr g e.symm;rw[h.1]at h1;cases h1;cases h2)).trans h.1,h.2⟩
theorem jP{A B C:World}{g:Nat}{u v x y:Value}(B0:Nat)(e:Ext A B)(h:C=(((B.setCell ⟨g,0,none⟩ u).setCell ⟨g,1,none⟩ v).setCell ⟨g,2,none⟩ x).setCell ⟨g,3,none⟩ y):KeepsFrom B0 A C:=by
 subst h;have k1:KeepsFrom B0 A B:=⟨e.size,fun k o _ h0 _=>e.blk h0⟩
 exact k1.trans (((((KeepsOthers.setCell _ _ _).trans (KeepsOthers.setCell _ _ _)).trans (KeepsOthers.setCell _ _ _)).trans (KeepsOthers.setCell _ _ _)).from _)
theorem gK{A B C:World}{g n₀:Nat}{u v x y:Value}(e:Below n₀ A B)(h:C=(((B.setCell ⟨g,0,none⟩ u).setCell ⟨g,1,none⟩ v).setCell ⟨g,2,none⟩ x).setCell ⟨g,3,none⟩ y)(hg:n₀<=g):Below n₀ A C:=by
 subst h;exact(((e.setCell (p:=⟨g,0,none⟩) hg _).setCell (p:=⟨g,1,none⟩) hg _).setCell (p:=⟨g,2,none⟩) hg _).setCell (p:=⟨g,3,none⟩) hg _
theorem NA{A B:World}{G:List Nat}{g i:Nat}{v:Value}(U:Cj G A B)(hg:g∉G)(h:A.cell? ⟨g,i,none⟩=some v):B.cell? ⟨g,i,none⟩=some v:=by
 obtain⟨o,ho,hc⟩:=cells_of_cell h;exact(World.cell?_of_block ((U.1 g o hg ho).trans ho.symm)).trans h
theorem Ea.own{A B:World}{row:Option Nat}{g:Nat}{t:TypeId}{q:Rat}(h:Ea A g t q)(hg:A.grownBy B row)(hr:∀ r,row=some r->∃ o:Obj,A.heap[r]? = some o/\o.isCells=false):Ea B g t q:=by
 obtain⟨b,A1,n,c,b',A1',n',c',h1,h2⟩:=h;exact Ea.mk (h1.own hg hr) (h2.kd (KD.own hg hr))
theorem gX{F:Nat->Rat}(z:ZI F)(x:Int):∀ n,∃ y:Int,CR n F (x:Rat)=(y:Rat):=by
 intro n;induction n generalizing F with
 | zero=>exact⟨0,rfl⟩
 | succ n ih =>
  obtain⟨y,hy⟩:=ih (F:=tl F) fun i=>z (i+1);obtain⟨a,ha⟩:=z 0;exact⟨a+x*y,by rw[DT,hy,ha];simp⟩
theorem Ny{F:Nat->Rat}(z:ZI F)(x:Int):∃ y:Int,ev F (x:Rat)=(y:Rat):=gX z x _
theorem OB{F:Nat->Rat}{n:Nat}(fF:Ae F)(h0:F≠pz)(hn:pl F<=n):∃ X:Nat->Rat,Lv X n/\∀ k,k < n->ev F (X k)≠0/\∃ m:Nat,m < 2*n/\X k=((m:Int):Rat):=by
 classical
 obtain⟨l,hl⟩:∃ l,l=(List.range (2*n)).map (fun k:Nat=>(((k:Nat):Int):Rat)):=⟨_,rfl⟩
 have hnd:l.Nodup:=by
  rw[hl,List.nodup_iff_pairwise_ne,List.pairwise_map];refine List.Pairwise.imp (R:=fun a b=>a < b) ?_ List.pairwise_lt_range;intro a b hab e;have:((a:Nat):Int)=((b:Nat):Int):=by exact_mod_cast e
  omega
 obtain⟨R,hR⟩:∃ R,R=l.filter fun x=>decide (ev F x=0):=⟨_,rfl⟩
 obtain⟨N,hN⟩:∃ N,N=l.filter fun x=>!decide (ev F x=0):=⟨_,rfl⟩
 have hlen:R.length+N.length=2*n:=by
  have h1:R.length+N.length=l.length:=by
   rw[hR,hN];clear hR hN hl hnd;induction l with
   | nil=>rfl
   | cons a l ih =>
    simp only[List.filter_cons];by_cases e:ev F a=0
    ·simp[e];omega
    ·simp[e];omega
  rw[h1,hl];simp
 have hRl:R.length < pl F:=by
  rcases Nat.lt_or_ge R.length (pl F)with a | a
  ·exact a
  ·exact absurd (I7 ((AB fF).mono a) (by rw[hR];exact hnd.sublist (List.filter_sublist)) (fun x hx=>by rw[hR,List.mem_filter]at hx;simpa using hx.2)) h0
 have hNn:N.Nodup:=by rw[hN];exact hnd.sublist (List.filter_sublist)
 have hNg:∀ k (h:k < n),∃ h':k < N.length,N.getD k 0=N[k]:=fun k h=>⟨Aa,by rw[List.getD_eq_getElem?_getD,List.getElem?_eq_getElem Aa];rfl⟩
 refine⟨fun k=>N.getD k 0,fun i k hi hk=>?_,fun k hk=>?_⟩
 ·obtain⟨a1,a2⟩:=hNg i hi
  obtain⟨b1,b2⟩:=hNg k Aa;show N.getD i 0≠N.getD k 0;rw[a2,b2];intro e;rw[List.nodup_iff_pairwise_ne,List.pairwise_iff_getElem]at hNn;exact hNn k i b1 a1 hk e.symm
 ·obtain⟨a1,a2⟩:=hNg k hk
  show ev F (N.getD k 0)≠0/\∃ m:Nat,m < 2*n/\N.getD k 0=_;rw[a2];obtain⟨y,hy⟩:∃ y,y=N[k]:=⟨_,rfl⟩
  have hm:y∈N:=by rw[hy];exact List.getElem_mem a1
  rw[<-hy];clear hy a2;rw[hN,List.mem_filter,hl]at hm;obtain⟨b1,b2⟩:=hm;obtain⟨m,c1,c2⟩:=List.mem_map.1 b1;refine⟨by simpa using b2,m,List.mem_range.1 c1,c2.symm⟩
theorem Ux{F D:Nat->Rat}{n s:Nat}(zF:ZI F)(fF:Ae F)(h0:F≠pz)(zD:ZI D)(fD:Ae D)(hd:J6 F D)(hn:pl F<=n)(hn9:n<=16)(hs:∀ i,qsz (F i)<=s)(hs9:s<=5)(i:Nat):qsz (D i)<=36000:=by
 obtain⟨X,hA,hX⟩:=OB fF h0 hn;have hX1:∀ k,k < n->qsz (X k)<=1:=fun k hk=>by
  obtain⟨-,m,h1,h2⟩:=hX k hk;have h3:bp 1=4294967296:=rfl;have h4:sz ((m:Nat):Int).natAbs<=1:=Cf (by rw[h3];omega);rw[h2,Bz];omega
 have hX2:∀ k,k < n->qsz (X k)<=2:=fun k hk=>Nat.le_trans (hX1 k hk) Aa;obtain⟨Q,zQ,fQ,e⟩:=hd;have hY:∀ k,k < n->qsz (ev D (X k))<=113:=fun k hk=>by
  have h1:=Tj ((AB fF).mono hn) hs (hX1 k hk);have h2:n*(s+1+1)<=16*7:=Nat.mul_le_mul hn9 Aa;obtain⟨h3,m,-,h4⟩:=hX k hk;have h5:ev F (X k)=ev Q (X k)*ev D (X k):=by rw[e,Ei fQ fD]
  rw[h4]at h1 h3 h5 ⊢;obtain⟨a,ha⟩:=Ny zF (m:Int);obtain⟨b,hb⟩:=Ny zQ (m:Int);obtain⟨c,hc⟩:=Ny zD (m:Int);rw[ha]at h1 h3;rw[ha,hb,hc]at h5;rw[hc];have h6:a=b*c:=by exact_mod_cast h5
  have h7:a≠0:=fun e=>h3 (by rw[e];rfl);rw[Bz]at h1 ⊢;have h8:c.natAbs<=a.natAbs:=Nat.le_of_dvd Aa (Int.natAbs_dvd_natAbs.2 ⟨b,by rw[h6,Int.mul_comm]⟩);have:=Bf h8;omega
 have hDn:D≠pz:=fun e2=>h0 (by rw[e,e2,Jz]);have hDl:pl D<=pl F:=Dv.le fD fF h0 ⟨Q,fQ,e⟩;obtain⟨Y,hYe⟩:∃ Y,Y=fun k=>ev D (X k):=⟨_,rfl⟩
 have hD:D=Zq X Y n n:=Kt hA ((AB fD).mono Aa) (OW X Y n n (Nat.le_refl _)) fun k hk=>by
  rw[WI hA hk n (Nat.le_refl _),if_pos hk,hYe]
 have hc:∀ j,j < n->CD 2235 (fZ X Y n j):=fun j hj=>by
  have h1:=gI j n hX2 Aa;have h2:=Tj (Pv X j n).1 (fun j=>h1.elem j) (hX1 j hj);have h3:(n+1)*(3+7*n+1+1)<=17*117:=Nat.mul_le_mul Aa Aa;have h4:=Jc (Y j) (ev (lgp X j n) (X j));have h5:=hY j hj;have h6:qsz (Y j)<=113:=by rw[hYe];exact h5
  exact(h1.psc _).mono Aa
 have hl:∀ m,m<=n->CD (1+m*2236) (Zq X Y n m):=by
  intro m;induction m with
  | zero=>intro _;exact CD.pz
  | succ m ih=>intro h;exact((ih Aa).pad (hc m h)).mono Aa
 rw[hD];have h9:n*2236<=16*2236:=Nat.mul_le_mul_right _ hn9;exact Nat.le_trans ((hl n (Nat.le_refl _)).elem i) Aa
theorem Cx.mul{F G H:Nat->Rat}(fF:Ae F)(fG:Ae G)(fH:Ae H)(h:Cx F G)(k:Cx F H):Cx F (cv G H):=by
 obtain⟨U,V,a,b,e⟩:=h;obtain⟨X,Y,c,d,e'⟩:=k;refine⟨pad (cv (pad (cv U F) (cv V G)) X) (cv U (cv Y H)),cv V Y,(((a.cv fF).pad (b.cv fG)).cv c).pad (a.cv (d.cv fH)),b.cv d,?_⟩;have h1:cv (pad (cv U F) (cv V G)) (pad (cv X F) (cv Y H))=pone:=by rw[e,e',Ck]
 rw[<-h1,F8,D5 (cv U F) (cv V G) (cv Y H),D5 _ _ F];have e1:cv (cv (pad (cv U F) (cv V G)) X) F=cv (pad (cv U F) (cv V G)) (cv X F):=Ai _ _ _;have e2:cv (cv U (cv Y H)) F=cv (cv U F) (cv Y H):=by rw[Ai,AX (cv Y H) F,<-Ai]
 have e3:cv (cv V Y) (cv G H)=cv (cv V G) (cv Y H):=by rw[Ai,Ai,<-Ai Y G H,AX Y G,Ai]
 rw[e1,e2,e3]
 funext n;simp only[pad];grind
theorem Cx.one(F:Nat->Rat):Cx F pone:=⟨pz,pone,Ae.pz,Di,by rw[Cv,Ck];funext n;simp only[pad,pz];grind⟩
theorem Cx.pw{F G:Nat->Rat}(fF:Ae F)(fG:Ae G)(h:Cx F G):∀ n,Cx F (pw G n)
 | 0=>Cx.one F
 | n+1=>Cx.mul fF (Ni fG n) fG (Cx.pw fF fG h n) h
theorem VM{W:Nat->Rat}(hW:Bn W):∀(n:Nat) {C:Nat->Rat},Bn C->pl C<=n->∃ P R N,Bn P/\Bn R/\C=cv P R/\Cx P W/\Dv R (pw W N):=by
 intro n;induction n with
 | zero=>intro C hC hn;have:=hC.pos;omega
 | succ n ih =>
  intro C hC hn;obtain⟨k,z1,-,-,d2,-⟩:=hC.gcd hW.z hW.f;by_cases h1:pl (Df C W)<=1
  ·exact⟨C,pone,0,hC,GI,(I4 C).symm,Cx.of_gcd hC hW.z hW.f h1,Dv.refl _⟩
  ·obtain⟨q1,q2⟩:=hC.quot k z1
   have h2:=Ee q1.f k.f q1.n k.n;rw[<-q2]at h2;obtain⟨P,R,N,a,b,c,d,e⟩:=ih q1 Aa;refine⟨P,cv R (Df C W),N+1,a,b.mul k,by rw[<-Ai,<-c];exact q2,d,?_⟩;obtain⟨X,fX,eX⟩:=e;obtain⟨Y,fY,eY⟩:=d2;refine⟨cv X Y,fX.cv fY,?_⟩;show cv (pw W N) W=_;rw[eX]
   conv=>lhs;rw[eY]
   rw[Ai,Ai X Y,<-Ai R Y,AX R Y,Ai Y R]
theorem O9{D A B:Nat->Rat}(fD:Ae D)(nD:D≠pz)(fA:Ae A)(fB:Ae B)(h:cv D A=cv D B):A=B:=by
 have h1:=(Nn fA fD nD).1;have h2:=(Nn fB fD nD).1;rw[AX]at h1 h2;rw[h]at h1;exact h1.symm.trans h2
noncomputable def yc(g:Nat->Rat):Nat->Rat:=Df g (pd g)
noncomputable def y0(g:Nat->Rat):Nat->Rat:=pq g (yc g)
section
variable{g:Nat->Rat}
theorem Ec(h:Bn g):Bn (yc g)/\Bn (y0 g)/\g=cv (y0 g) (yc g)/\J6 g (yc g)/\J6 (pd g) (yc g):=by
 obtain⟨k,z1,z2,-⟩:=h.gcd (CU h.z) (Bw h.f);obtain⟨q1,q2⟩:=h.quot k z1;exact⟨k,q1,q2,z1,z2⟩
theorem bN(h:Bn g):∃ V,Ae V/\pd g=cv V (yc g)/\Cx (y0 g) V:=by
 obtain⟨k,z1,z2,d1,d2,U,V,a,b,e⟩:=h.gcd (CU h.z) (Bw h.f);obtain⟨q1,q2⟩:=h.quot k z1;obtain⟨zQ,fQ,eQ⟩:=QL k.f k.n z2;refine⟨pq (pd g) (yc g),fQ,eQ,U,V,a,b,?_⟩;refine O9 k.f k.n ((a.cv q1.f).pad (b.cv fQ)) Di ?_;rw[I4];show cv (yc g) (pad (cv U (y0 g)) (cv V (pq (pd g) (yc g))))=yc g
 conv=>rhs;unfold yc;rw[<-e]
 rw[F8];congr 1
 ·rw[AX,Ai];congr 1;exact q2.symm
 ·rw[AX,Ai];congr 1;exact eQ.symm
theorem j5(h:Bn g):Dv (yc g) (cv (y0 g) (pd (yc g))):=by
 obtain⟨k,q1,q2,z1,z2⟩:=Ec h;have h1:=MH z2;rw[q2,Kk,<-q2]at h1;have h2:Dv (yc g) (psb (pad (cv (pd (y0 g)) (yc g)) (cv (y0 g) (pd (yc g)))) (cv (pd (y0 g)) (yc g))):=h1.psb ((Dv.refl _).mul (Bw q1.f));have e:psb (pad (cv (pd (y0 g)) (yc g)) (cv (y0 g) (pd (yc g)))) (cv (pd (y0 g)) (yc g))=cv (y0 g) (pd (yc g)):=by
  funext n;simp only[psb,pad];grind
 rw[e]at h2;exact h2
theorem Uy(h:Bn g):∃ N,Dv (yc g) (pw (y0 g) N):=by
 obtain⟨k,q1,q2,z1,z2⟩:=Ec h;obtain⟨P,R,N,a,b,c,d,e⟩:=VM q1 _ k (Nat.le_refl _);have h1:=j5 h;have hP:Dv P (cv (y0 g) (cv (pd P) R)):=by
  have h2:Dv P (cv (y0 g) (pd (yc g))):=Dv.trans ⟨R,b.f,by rw[AX];exact c⟩ h1;rw[c,Kk,F8]at h2;have h3:Dv P (cv (y0 g) (cv P (pd R))):=by
   rw[AX P,<-Ai];exact(Dv.refl P).mul (q1.f.cv (Bw b.f))
  have h4:=h2.psb h3;have e4:psb (pad (cv (y0 g) (cv (pd P) R)) (cv (y0 g) (cv P (pd R)))) (cv (y0 g) (cv P (pd R)))=cv (y0 g) (cv (pd P) R):=by
   funext n;simp only[psb,pad];grind
  rw[e4]at h4;exact h4
 have h5:=d.euclid ((Bw a.f).cv b.f) hP;have h6:Cx P R:=((Cx.pw a.f q1.f d N).symm.dv e).symm;rw[AX]at h5;have h7:=h6.euclid (Bw a.f) h5;have h8:=a.one (by have:=iY a.f a.n h7;omega);refine⟨N,?_⟩;rw[c,h8,Ck];exact e
theorem aM(E:Nat->Rat)(fE:Ae E):∀ k:Nat,cv E (pd (pw E k))=psc ((k:Nat):Rat) (cv (pw E k) (pd E))
 | 0=>by
  have e:pd (pw E 0)=pz:=by
   funext i;show((i+1:Nat):Rat)*pone (i+1)=0
   show((i+1:Nat):Rat)*0=0;exact Rat.mul_zero _
  rw[e,Jz]
  funext i;simp only[psc,pz];grind
 | k+1=>by
  show cv E (pd (cv (pw E k) E))=psc _ (cv (cv (pw E k) E) (pd E));rw[Kk,F8];have e1:cv E (cv (pd (pw E k)) E)=psc ((k:Nat):Rat) (cv (cv (pw E k) E) (pd E)):=by
   rw[<-Ai,aM E fE k,Cz,Ai,Ai,AX (pd E) E]
  have e2:cv E (cv (pw E k) (pd E))=cv (cv (pw E k) E) (pd E):=by rw[<-Ai,AX E]
  rw[e1,e2]
  funext i;simp only[pad,psc]
  have:(((k+1:Nat)):Rat)=(k:Rat)+1:=by push_cast;rfl
  rw[this];grind
theorem WM{E C:Nat->Rat}(fE:Ae E){k:Nat}(h:Dv (pw E k) C):Dv (pw E k) (cv E (pd C)):=by
 obtain⟨H,fH,rfl⟩:=h;rw[Kk,F8];refine Dv.pad ?_ ?_
 ·rw[<-Ai]
  exact(Dv.refl _).mul (fE.cv (Bw fH))
 ·rw[AX H,<-Ai,aM E fE,Cz]
  refine Dv.psc _ ?_;rw[Ai,AX];exact(Dv.refl _).mul ((Bw fE).cv fH)
theorem Zy(h:Bn g){E:Nat->Rat}(hE:Bn E)(hd:Dv (cv E E) (y0 g)):pl E=1:=by
 obtain⟨k,q1,q2,z1,z2⟩:=Ec h;obtain⟨V,fV,eV,cV⟩:=bN h;have hE0:Dv E (y0 g):=Dv.trans ⟨E,hE.f,rfl⟩ hd;have cE:Cx E V:=cV.dv hE0;have hE1:Dv E (pd (y0 g)):=by
  obtain⟨U,fU,e⟩:=hd;rw[e,Kk];refine Dv.pad ?_ ?_
  ·rw[<-Ai];exact(Dv.refl E).mul ((Bw fU).cv hE.f)
  ·rw[Kk,F8]
   exact((Dv.refl E).mul (Bw hE.f)).mul fU |>.pad ((by rw[AX E];exact(Dv.refl E).mul (Bw hE.f):Dv E (cv E (pd E))).mul fU)
 have key:∀ n,Dv (pw E n) (yc g):=by
  intro n;induction n with
  | zero=>exact⟨yc g,k.f,(I4 _).symm⟩
  | succ n ih =>
   have h1:Dv (pw E (n+1)) (cv V (yc g)):=by
    rw[<-eV,q2,Kk];refine Dv.pad ?_ ?_
    ·obtain⟨X,fX,eX⟩:=hE1
     obtain⟨Y,fY,eY⟩:=ih;refine⟨cv X Y,fX.cv fY,?_⟩;show cv (pd (y0 g)) (yc g)=cv (cv X Y) (cv (pw E n) E);rw[eX]
     conv=>lhs;rw[eY]
     rw[Ai,Ai X Y,<-Ai E Y,AX E Y,Ai Y E,AX E (pw E n)]
    ·obtain⟨X,fX,eX⟩:=hd
     obtain⟨Y,fY,eY⟩:=WM hE.f ih;refine⟨cv X Y,fX.cv fY,?_⟩;show cv (y0 g) (pd (yc g))=cv (cv X Y) (cv (pw E n) E);rw[eX,Ai,Ai,eY,Ai X Y];congr 1;rw[<-Ai,AX E Y,Ai,AX E (pw E n)]
   exact(Cx.pw fV hE.f cE.symm (n+1)).symm.euclid k.f h1
 have h1:=Dv.le (Ni hE.f (pl (yc g))) k.f k.n (key (pl (yc g)));rw[aK hE]at h1;have h2:=hE.pos;rcases Nat.lt_or_ge 1 (pl E)with h3 | h3
 ·have:pl (yc g)*1<=pl (yc g)*(pl E - 1):=Nat.mul_le_mul_left _ Aa
  omega
 ·omega
end
def lT:World->Value->Value×Nat->Prop:=fun _ c u=>c = .agg #[u.1,.int .i64 (u.2:Nat)]/\∃ A n k,u.1 = .slice A n k
theorem AY.updB{b:Nat}{G:List Nat}{w w':World}{v:Value}{F:Nat->Rat}(h:AY b w v F)(U:Cj G w w')(hG:∀ g∈G,∀ i c,w.cell? ⟨g,i,none⟩≠some (.bool c)):AY b w' v F:=by
 obtain⟨l,⟨A,c,h1,h2,h3,h4⟩,h5,rfl⟩:=h;refine⟨l,⟨A,c,h1,h2,h3,fun h0=>?_⟩,h5,rfl⟩;obtain⟨g,o,ha,hb,hc⟩:=h4 h0;have hg:g∉G:=fun hm=>by
  obtain⟨cs,q1,q2,q3⟩:=hc 0 h0;obtain⟨b,A1,n,c1,e⟩:=q3.cells;obtain rfl:=UM e;exact hG g hm _ b (q2 0 Aa)
 refine⟨g,o,ha,hb,fun j hj=>?_⟩;obtain⟨cs,q1,q2,q3⟩:=hc j hj;refine⟨cs,q1,fun i hi=>?_,q3.kd U.kd⟩;have e:cs[i]? = some (cs[i]'(Aa)):=Array.getElem?_eq_getElem Aa;rw[e];exact NA U hg ((q2 i hi).trans e)
structure TA(base:Nat)(t:TypeId)(w:World)(v:Value)(us:List (Value×Nat))(l:List ((Nat->Rat)×Nat)):Prop where
 out:BH 2 lT base t w v us
 len:us.length=l.length
 nb:O7 w v
 el:∀ i (h:i < us.length) (h':i < l.length),us[i].2=l[i].2/\AY 0 w us[i].1 l[i].1
section
variable{base:Nat}{t:TypeId}{w w':World}{v:Value}{us:List (Value×Nat)}{l:List ((Nat->Rat)×Nat)}
theorem O7.nil(w:World):O7 w (.slice none 0 0):=fun g hg=>by simp[blk,Value.ownBlock]at hg
theorem TA.nil(base:Nat)(t:TypeId)(w:World):TA base t w (.slice none 0 0) [] []:=⟨BH.nil _ _ _ _ _,rfl,O7.nil w,fun i h=>by simp at h⟩
theorem O7.ext{k:Nat}{α:Type}{rd:World->Value->α->Prop}{b:Nat}{m:List α}(h:O7 w v)(o:BH k rd b t w v m)(x:Ext w w'):O7 w' v:=fun g hg i c e=>by
 have:=(BH.blk_ge o g hg).2;rw[x.cells g i this]at e;exact h g hg i c e
theorem TA.ext(h:TA base t w v us l)(x:Ext w w'):TA base t w' v us l:=
 ⟨h.out.ext x fun _ _ q=>q,h.len,h.nb.ext h.out x,fun i a b=>⟨(h.el i a b).1,(h.el i a b).2.ext x⟩⟩
theorem TA.base_le{b:Nat}(h:TA base t w v us l)(hb:b<=base):TA b t w v us l:=by
 obtain⟨⟨ess,h1,h2,⟨h3,h4⟩,h5⟩,k2,k3,k4⟩:=h;refine⟨⟨ess,h1,h2,⟨h3,?_⟩,h5⟩,k2,k3,k4⟩;rcases h4 with h4 | ⟨g,cap,cur,a,c,d⟩
 ·exact .inl h4
 ·exact .inr ⟨g,cap,cur,a,Nat.le_trans hb c,d⟩
theorem TA.shape(h:TA base t w v us l):∃ A c,v = .slice A l.length c:=by
 obtain⟨A,c,e⟩:=h.out.len;exact⟨A,c,by rw[e,h.len]⟩
theorem TA.at_{A:Option Addr}{n c:Nat}(h:TA base t w (.slice A n c) us l){i:Nat}(hi:i < l.length) :
  ∃ g o E d,A=some ⟨g,o,none⟩/\w.cell? ⟨g,o+i*2,none⟩=some (.slice E (pl l[i].1) d)/\w.cell? ⟨g,o+i*2+1,none⟩=some (.int .i64 (l[i].2:Nat))/\AY 0 w (.slice E (pl l[i].1) d) l[i].1:=by
 obtain⟨h0,h1,-,h2⟩:=h;have hi':i < us.length:=by omega
 obtain⟨A',c',e,-,-,hA⟩:=BH.row h0;have eA:A'=A:=by injection e with h1;exact h1.symm
 subst eA;obtain⟨g,o,ha,hb,hc⟩:=hA Aa;obtain⟨cs,q1,q2,q3,-⟩:=hc i hi';obtain⟨k1,k2⟩:=h2 i hi' hi;obtain⟨E,d,e2,-⟩:=AY.shape k2;have e3:cs=#[us[i].1,.int .i64 (us[i].2:Nat)]:=by injection q3
 refine⟨g,o,E,d,ha,?_,?_,by rw[<-e2];exact k2⟩
 ·have:=q2 0 Aa
  rw[e3,e2]at this;exact this
 ·have:=q2 1 Aa
  rw[e3,k1]at this;exact this
theorem TA.append{P:Program}{A:Option Addr}{n c:Nat}{F:Nat->Rat}(h:TA base t w v us l)(hu:AY 0 w (.slice A n c) F)(e:Nat)
  (tt ty:TypeId) (i:TypeInfo) (z:Value) (bytes:Nat) (hT:P.underlying tt=some (.slice t)) (hi:P.info? t=some i) (hz:i.zero=some z) (hsize:i.size=2) (hby:i.bytes=bytes) (hzs:z.cells.size=2) (hzd:nodig z.cells=true) (hzB:∀ u∈z.cells.toList,Sc u=false)
  (h63:l.length+1<=maxLen) (hbytes:(l.length+1)*bytes<=140737488355328) (hbase:base<=w.heap.size) :
  ∃ v' w',(Builtin.append_ #[tt,tt] ty #[v,.slice (some ⟨w.heap.size,0,none⟩) 1 1]).run P (w.alloc (.cells #[.slice A n c,.int .i64 (e:Nat)] t)) = .ok v' w'/\TA base t w' v' (us ++ [(.slice A n c,e)]) (l ++ [(F,e)]) /\
   Cj (blk v) (w.alloc (.cells #[.slice A n c,.int .i64 (e:Nat)] t)) w'/\O7 (w.alloc (.cells #[.slice A n c,.int .i64 (e:Nat)] t)) v:=by
 have hb:=Be.new w t #[.slice A n c,.int .i64 (e:Nat)] (by simp[Ag]);have x:=(Ext.refl w).alloc (.cells #[.slice A n c,.int .i64 (e:Nat)] t);have h':=h.ext x;have hu':=hu.ext x;have hl:=h.len;obtain⟨v',w',a,b,U,B⟩:=BH.append_blk (P:=P) (x:=((Value.slice A n c),e)) h'.out tt ty i z bytes hT hi hz hsize hby hzs hzd Ab ⟨w.heap.size,0,none⟩ 1 #[.slice A n c,.int .i64 (e:Nat)] rfl ⟨rfl,_,_,_,rfl⟩ (MZ w t _) (by simp[Value.oneCell']) (by simp[nodig,Ag]) Aa (by rw[hl];exact hbytes) (Nat.le_trans hbase x.size) (fun _ _ _ _ q=>q) h'.nb (by simp[Sc]) hzB
 refine⟨v',w',a,⟨b,by simp[hl],B,fun j a1 a2=>?_⟩,U,h'.nb⟩;by_cases hj:j < us.length
 ·rw[List.getElem_append_left hj,List.getElem_append_left Aa]
  obtain⟨k1,k2⟩:=h'.el j hj Aa;exact⟨k1,k2.updB U h'.nb⟩
 ·rw[List.getElem_append_right Aa,List.getElem_append_right Aa]
  have e0:j - us.length=0:=by simp at a1;omega
  have e1:j - l.length=0:=by omega
  simp only[e0,e1,List.getElem_cons_zero];exact⟨trivial,hu'.updB U h'.nb⟩
end
def lU:World->Value->Value->Prop:=fun _ c u=>c = .agg #[u]/\∃ A n k,u = .slice A n k
structure Js(base eb:Nat)(t:TypeId)(w:World)(v:Value)(us:List Value)(l:List (Nat->Rat)):Prop where
 out:BH 1 lU base t w v us
 len:us.length=l.length
 nb:O7 w v
 el:∀ i (h:i < us.length) (h':i < l.length),AY eb w us[i] l[i]
section
variable{base eb:Nat}{t:TypeId}{w w':World}{v:Value}{us:List Value}{l:List (Nat->Rat)}
theorem Js.nil(base eb:Nat)(t:TypeId)(w:World):Js base eb t w (.slice none 0 0) [] []:=⟨BH.nil _ _ _ _ _,rfl,O7.nil w,fun i h=>by simp at h⟩
theorem Js.ext(h:Js base eb t w v us l)(x:Ext w w'):Js base eb t w' v us l:=
 ⟨h.out.ext x fun _ _ q=>q,h.len,h.nb.ext h.out x,fun i a b=>(h.el i a b).ext x⟩
theorem Js.base_le{b:Nat}(h:Js base eb t w v us l)(hb:b<=base):Js b eb t w v us l:=by
 obtain⟨⟨ess,h1,h2,⟨h3,h4⟩,h5⟩,k2,k3,k4⟩:=h;refine⟨⟨ess,h1,h2,⟨h3,?_⟩,h5⟩,k2,k3,k4⟩;rcases h4 with h4 | ⟨g,cap,cur,a,c,d⟩
 ·exact .inl h4
 ·exact .inr ⟨g,cap,cur,a,Nat.le_trans hb c,d⟩
theorem Js.el_le{b:Nat}(h:Js base eb t w v us l)(hb:b<=eb):Js base b t w v us l:=⟨h.out,h.len,h.nb,fun i h1 h2=>(h.el i h1 h2).base_le hb⟩
theorem Js.shape(h:Js base eb t w v us l):∃ A c,v = .slice A l.length c:=by
 obtain⟨A,c,e⟩:=h.out.len;exact⟨A,c,by rw[e,h.len]⟩
theorem Js.at_{A:Option Addr}{n c:Nat}(h:Js base eb t w (.slice A n c) us l){i:Nat}(hi:i < l.length) :
  ∃ g o E d,A=some ⟨g,o,none⟩/\w.cell? ⟨g,o+i,none⟩=some (.slice E (pl l[i]) d)/\AY 0 w (.slice E (pl l[i]) d) l[i]:=by
 obtain⟨h0,h1,-,h2⟩:=h;have hi':i < us.length:=by omega
 obtain⟨A',c',e,-,-,hA⟩:=BH.row h0;have eA:A'=A:=by injection e with h1;exact h1.symm
 subst eA;obtain⟨g,o,ha,hb,hc⟩:=hA Aa;obtain⟨cs,q1,q2,q3,-⟩:=hc i hi';have k2:=h2 i hi' hi;obtain⟨E,d,e2,-⟩:=AY.shape k2;have e3:cs=#[us[i]]:=by injection q3
 refine⟨g,o,E,d,ha,?_,by rw[<-e2];exact k2.base_le (Nat.zero_le _)⟩;have:=q2 0 Aa;rw[e3,e2,Nat.mul_one]at this;exact this
theorem Js.append{P:Program}{A:Option Addr}{n c:Nat}{F:Nat->Rat}(h:Js base eb t w v us l)(hu:AY eb w (.slice A n c) F)
  (tt ty:TypeId) (i:TypeInfo) (z:Value) (bytes:Nat) (hT:P.underlying tt=some (.slice t)) (hi:P.info? t=some i) (hz:i.zero=some z) (hsize:i.size=1) (hby:i.bytes=bytes) (hzs:z.cells.size=1) (hzd:nodig z.cells=true) (hzB:∀ u∈z.cells.toList,Sc u=false)
  (h63:l.length+1<=maxLen) (hbytes:(l.length+1)*bytes<=140737488355328) (hbase:base<=w.heap.size) :
  ∃ v' w',(Builtin.append_ #[tt,tt] ty #[v,.slice (some ⟨w.heap.size,0,none⟩) 1 1]).run P (w.alloc (.cells #[.slice A n c] t)) = .ok v' w'/\Js base eb t w' v' (us ++ [.slice A n c]) (l ++ [F]) /\
   Cj (blk v) (w.alloc (.cells #[.slice A n c] t)) w'/\O7 (w.alloc (.cells #[.slice A n c] t)) v:=by
 have hb:=Be.new w t #[.slice A n c] (by simp[Ag]);have x:=(Ext.refl w).alloc (.cells #[.slice A n c] t);have h':=h.ext x;have hu':=hu.ext x;have hl:=h.len;obtain⟨v',w',a,b,U,B⟩:=BH.append_blk (P:=P) (x:=Value.slice A n c) h'.out tt ty i z bytes hT hi hz hsize hby hzs hzd Ab ⟨w.heap.size,0,none⟩ 1 #[.slice A n c] rfl ⟨rfl,_,_,_,rfl⟩ (MZ w t _) (by simp[Value.oneCell']) (by simp[nodig,Ag]) Aa (by rw[hl];exact hbytes) (Nat.le_trans hbase x.size) (fun _ _ _ _ q=>q) h'.nb (by simp[Sc]) hzB
 refine⟨v',w',a,⟨b,by simp[hl],B,fun j a1 a2=>?_⟩,U,h'.nb⟩;by_cases hj:j < us.length
 ·rw[List.getElem_append_left hj,List.getElem_append_left Aa]
  exact(h'.el j hj Aa).updB U h'.nb
 ·rw[List.getElem_append_right Aa,List.getElem_append_right Aa]
  have e0:j - us.length=0:=by simp at a1;omega
  have e1:j - l.length=0:=by omega
  simp only[e0,e1,List.getElem_cons_zero];exact hu'.updB U h'.nb
end
theorem CE.updN{α:Type}{k:Nat}{rd:World->Value->α->Prop}{base g o n c:Nat}{w w':World}{l:List α}{G:List Nat}(h:CE k rd base w (.slice (some ⟨g,o,none⟩) n c) l)(U:Cj G w w')(hg:g∉G)(hr:∀ u x,rd w u x->rd w' u x):CE k rd base w' (.slice (some ⟨g,o,none⟩) n c) l:=by
 obtain⟨A,c,h1,h2,h3,h4⟩:=h;refine⟨A,c,h1,h2,h3,fun h0=>?_⟩;obtain⟨g',o',ha,hb,hc⟩:=h4 h0;have e:A=some ⟨g,o,none⟩:=by injection h1 with h5;exact h5.symm
 rw[e]at ha;injection ha with ha;injection ha with ha1 ha2;subst ha1;refine⟨g,o',by rw[e,ha2],hb,fun j hj=>?_⟩;obtain⟨cs,q1,q2,q3⟩:=hc j hj;refine⟨cs,q1,fun i hi=>?_,hr _ _ q3⟩;rw[<-q2 i hi];have hs:cs[i]? = some cs[i]:=Array.getElem?_eq_getElem Aa;have hcell:=(q2 i hi).trans hs;have hlt:=World.block_lt_of_cell? w _ hcell;have hblk:=U.1 g w.heap[g] hg (Array.getElem?_eq_getElem hlt);unfold World.cell?
 simp only[hblk,Array.getElem?_eq_getElem hlt]
def Ml(G:List Nat)(w:World)(v:Value)(F:Nat->Rat):Prop:=AY 0 w v F/\∃ g o c,v = .slice (some ⟨g,o,none⟩) (pl F) c/\c<=9223372036854775807/\g∉G
theorem Ml.ext{G:List Nat}{w w':World}{v:Value}{F:Nat->Rat}(h:Ml G w v F)(e:Ext w w'):Ml G w' v F:=⟨h.1.ext e,h.2⟩
theorem Ml.upd{L G:List Nat}{w w':World}{v:Value}{F:Nat->Rat}(h:Ml G w v F)(U:Cj L w w')(hL:∀ g∈L,g∈G):Ml G w' v F:=by
 obtain⟨⟨l,h1,h2,h3⟩,g,o,c,rfl,hc,hg⟩:=h;exact⟨⟨l,CE.updN h1 U (fun hm=>hg (hL g hm)) fun _ _ q=>q.kd U.kd,h2,h3⟩,g,o,c,rfl,hc,hg⟩
theorem AY.off{base:Nat}{G:List Nat}{w:World}{v:Value}{F:Nat->Rat}(h:AY base w v F)(h0:0 < pl F)(hG:∀ g∈G,base<=g->g < w.heap.size->False):Ml G w v F:=by
 have h':=h.base_le (Nat.zero_le _);obtain⟨A,c,l,rfl,k1,k2,hA,k3,k4,k5⟩:=h.form;obtain⟨g,o,b,A1,n,c1,rfl,hb,q0,q1,hq⟩:=hA.at_ (j:=0) Aa;exact⟨h',g,o,c,rfl,k2,fun hm=>hG g hm hb (World.block_lt_of_cell? w _ q0)⟩
theorem Jm.sizes{F0 G0 F G:Nat->Rat}{D S:Nat}{x y:Int}(h:Jm F0 G0 D S F G x y){M:Nat}(hM:M=(S+1)*2^D)(hB:8+8*((D+1)*((D+1)*M))<=1099511627776) :
  (∀ i,qsz (F i)<=M)/\(∀ i,qsz (G i)<=M)/\sz x.natAbs+2*(D*M)+2<=549755813888/\sz y.natAbs+D*(D*M)+2<=549755813888/\M+(pl F+1)*(M+1)+M<=549755813888/\1+D*(D*M)<=549755813888/\1+D*M<=549755813888/\M<=549755813888/\D*D<=549755813888/\D<=549755813888:=by
 have up:∀ a:Nat,a<=D->(S+1)*2^a<=M:=fun a ha=>by rw[hM];exact Nat.mul_le_mul_left _ (Nat.pow_le_pow_right Ab ha)
 have h1:=up (D - (pl F+pl G)) Aa;have hlen:=h.len;have sx:=h.sx;have sy:=h.sy;rw[<-hM]at sx sy;have e1:(D - (pl F+pl G))*(D*M)<=D*(D*M):=Nat.mul_le_mul_right _ Aa;have e2:(D+1)*((D+1)*M)=D*(D*M)+2*(D*M)+M:=by rw[Nat.succ_mul,Nat.succ_mul,Nat.mul_add];omega
 have e3:(pl F+1)*(M+1)<=(D+1)*(M+1):=Nat.mul_le_mul_right _ Aa;have e4:(D+1)*(M+1)=D*M+M+D+1:=by rw[Nat.succ_mul,Nat.mul_succ];omega
 have hM1:1<=M:=by rw[hM];exact Nat.mul_pos Aa (Nat.pow_pos Ab)
 have e5:D*1<=D*M:=Nat.mul_le_mul_left _ hM1;have e6:D*D<=D*(D*M):=Nat.mul_le_mul_left _ (by rw[Nat.mul_one]at e5;exact e5);refine⟨fun i=>by have:=h.qF i;omega,fun i=>by have:=h.qG i;omega,?_,?_,?_,?_,?_,?_,?_,?_⟩<;>omega
theorem Jm.more{F0 G0 F G:Nat->Rat}{D S:Nat}{x y:Int}(h:Jm F0 G0 D S F G x y){M:Nat}(hM:M=(S+1)*2^D)(hB:8+8*((D+1)*((D+1)*M))<=1099511627776)(h1:1 < pl G)(hl:pl G<=pl F){R:Nat->Rat}(hR:R=D6 F G (pl F+1 - pl G))(h0:R≠pz){b d k n:Nat}(hb:b=pl G - 1)(hd:d=pl F - 1 - (pl R - 1))(hk:k=(pl F+1 - pl G)*(pl G - 1)) :
  (∀ i,qsz (R i)<=M)/\sz (pcn R).natAbs<=M/\sz (ld G).num.natAbs<=M/\(1+b*M<=1099511627776/\b<=1099511627776)/\(1+d*M<=1099511627776/\d<=1099511627776)/\(1+k*M<=1099511627776/\k<=1099511627776)/\sz (Zz n x*pcn R^b).natAbs<=1099511627776/\sz (pcn R^b).natAbs<=1099511627776/\sz ((ld G).num^d).natAbs<=1099511627776/\sz ((ld G).num^k).natAbs<=1099511627776/\sz (Zz n x).natAbs<=1099511627776:=by
 obtain⟨s1,s2,s3,s4,s5,s6,s7,s8,s9,s10⟩:=h.sizes hM hB;obtain⟨-,-,r3⟩:=h.room hl hR;have hlen:=h.len;have up:∀ a:Nat,a<=D->(S+1)*2^a<=M:=fun a ha=>by rw[hM];exact Nat.mul_le_mul_left _ (Nat.pow_le_pow_right Ab ha)
 have hRq:∀ i,qsz (R i)<=M:=fun i=>by have a:=r3 i;have b:=up (D - (pl F+pl G)+(pl F+1 - pl G)) Aa;omega
 have p1:sz (pcn R).natAbs<=M:=by rw[Fj];exact JC hRq _
 have p2:sz (ld G).num.natAbs<=M:=Nat.le_trans (FK _) (s2 (pl G - 1));have c1:b*M<=D*M:=Nat.mul_le_mul_right _ Aa;have c2:d*M<=D*M:=Nat.mul_le_mul_right _ Aa;have c3:k<=D*D:=by rw[hk];exact Nat.mul_le_mul Aa Aa
 have c4:k*M<=D*(D*M):=by rw[<-Nat.mul_assoc];exact Nat.mul_le_mul_right _ c3
 have t1:=IX _ _ p1 b;have t2:=IX _ _ p2 d;have t3:=IX _ _ p2 k;have t4:=Ca (Zz n x).natAbs (pcn R^b).natAbs;rw[<-Int.natAbs_mul]at t4;rw[M5]at t4;refine⟨hRq,p1,p2,⟨Aa,Aa⟩,⟨Aa,Aa⟩,⟨Aa,Aa⟩,Aa,Aa,Aa,Aa,by rw[M5];omega⟩
def YO:Value->Nat
 | .slice _ n _=>n
 | _=>0
theorem Ij.of{l:List Rat}(h:co l (l.length - 1)≠0):Ij l:=fun h0=>by rw[<-Fb];exact h
theorem IJ(b o i:Nat):(⟨b,o,none⟩:Addr).add i=⟨b,o+i,none⟩:=by unfold Addr.add;split<;>simp_all
abbrev Raw:=Bool×List Nat×Bool×List Nat
def EC(w:World)(v:Value)(x:Raw):Prop:=∃ A n c A' n' c',v = .agg #[.bool x.1,.slice A n c,.bool x.2.2.1,.slice A' n' c']/\BC w (.slice A n c) x.2.1/\BC w (.slice A' n' c') x.2.2.2
def FZ(w:World)(v:Value)(l:List Raw):Prop:=CE 4 EC 0 w v l
theorem EC.ext{w w':World}{v:Value}{x:Raw}(h:EC w v x)(e:Ext w w'):EC w' v x:=by
 obtain⟨A,n,c,A',n',c',h1,h2,h3⟩:=h;exact⟨A,n,c,A',n',c',h1,h2.ext e,h3.ext e⟩
theorem FZ.ext{w w':World}{v:Value}{l:List Raw}(h:FZ w v l)(e:Ext w w'):FZ w' v l:=CE.ext h e fun _ _ q=>q.ext e
def TQ(x:Raw):Prop:=x.2.1.length<=2/\x.2.2.2.length<=2
def Ju(x:Raw):Rat:=Rat.divInt (iv x.1 x.2.1) (iv x.2.2.1 x.2.2.2)
theorem Nj(b:Bool)(ds:List Nat):(iv b ds).natAbs=nv ds:=by unfold iv;cases b<;>simp
theorem Ns{w:World}{v:Value}{ds:List Nat}(h:BC w v ds):sz (nv ds)<=ds.length:=by
 obtain⟨_,_,_,_,_,hA⟩:=h;exact XJ hA.1
theorem EC.has{w:World}{v:Value}{x:Raw}(h:EC w v x)(hs:TQ x):BN w v (Ju x)/\qsz (Ju x)<=2:=by
 obtain⟨A,n,c,A',n',c',rfl,h2,h3⟩:=h;have s1:=Ns h2;have s2:=Ns h3;obtain⟨k1,k2⟩:=hs;have e1:=Nj x.1 x.2.1;have e2:=Nj x.2.2.1 x.2.2.2;exact⟨⟨_,A,n,c,_,A',n',c',_,_,rfl,⟨_,_,⟨_,rfl,h2⟩,rfl,Aa⟩,⟨_,_,⟨_,rfl,h3⟩,rfl,Aa⟩,by rw[e1];omega,by rw[e2];omega,rfl⟩,
  Dc (by rw[e1];omega) (by rw[e2];omega) Aa⟩
theorem FZ.has{w:World}{v:Value}{l:List Raw}(h:FZ w v l)(hs:∀ x∈l,TQ x):RI 0 w v (l.map Ju):=by
 obtain⟨A,c,h1,h2,h3,h4⟩:=h;refine⟨A,c,by simpa using h1,by simpa using h2,h3,fun h0=>?_⟩;obtain⟨g,o,q1,q2,q3⟩:=h4 (by simpa using h0);refine⟨g,o,q1,q2,fun j hj=>?_⟩;have hj':j < l.length:=by simpa using hj
 obtain⟨cs,r1,r2,r3⟩:=q3 j hj';refine⟨cs,r1,r2,?_⟩;rw[List.getElem_map];exact(r3.has (hs _ (List.getElem_mem hj'))).1
theorem FZ.len{w:World}{v:Value}{l:List Raw}(h:FZ w v l):∃ A c,v = .slice A l.length c/\l.length<=c/\c<=9223372036854775807:=by
 obtain⟨A,c,h1,h2,h3,h4⟩:=h;exact⟨A,c,h1,h2,h3⟩
theorem FZ.at_{w:World}{A:Option Addr}{n c:Nat}{l:List Raw}(h:FZ w (.slice A n c) l){j:Nat}(hj:j < l.length) :
  ∃ g o A1 n c A1' n' c',A=some ⟨g,o,none⟩/\w.cell? ⟨g,o+j*4,none⟩=some (.bool l[j].1)/\w.cell? ⟨g,o+j*4+1,none⟩=some (.slice A1 n c)/\w.cell? ⟨g,o+j*4+2,none⟩=some (.bool l[j].2.2.1)/\w.cell? ⟨g,o+j*4+3,none⟩=some (.slice A1' n' c')/\n=l[j].2.1.length/\n'=l[j].2.2.2.length:=by
 obtain⟨A',c',e1,h2,h3,h4⟩:=h;have e5:A'=A:=by injection e1 with h1;exact h1.symm
 subst e5;obtain⟨g,o,ha,hb,hc⟩:=h4 Aa;obtain⟨cs,q1,q2,q3⟩:=hc j hj;obtain⟨A1,n1,c1,A2,n2,c2,e,d1,d2⟩:=q3;obtain rfl:=Ru e;obtain⟨_,_,f1,_⟩:=d1;obtain⟨_,_,f2,_⟩:=d2;exact⟨g,o,A1,n1,c1,A2,n2,c2,ha,q2 0 Aa,q2 1 Aa,q2 2 Aa,q2 3 Aa,by injection f1,by injection f2⟩
theorem EC.cells{w:World}{v:Value}{x:Raw}(h:EC w v x):∃ b A n c b' A' n' c',v = .agg #[.bool b,.slice A n c,.bool b',.slice A' n' c']:=by
 obtain⟨A,n,c,A',n',c',e,_⟩:=h;exact⟨_,A,n,c,_,A',n',c',e⟩
def Rp(w:World)(v:Value)(p:Rat×Rat):Prop:=
 ∃ b1 A1 n1 c1 b2 A2 n2 c2 b3 A3 n3 c3 b4 A4 n4 c4,v = .agg #[.bool b1,.slice A1 n1 c1,.bool b2,.slice A2 n2 c2,.bool b3,.slice A3 n3 c3,.bool b4,.slice A4 n4 c4] /\
  BN w (.agg #[.bool b1,.slice A1 n1 c1,.bool b2,.slice A2 n2 c2]) p.1/\BN w (.agg #[.bool b3,.slice A3 n3 c3,.bool b4,.slice A4 n4 c4]) p.2
theorem Rp.ext{w w':World}{v:Value}{p:Rat×Rat}(h:Rp w v p)(e:Ext w w'):Rp w' v p:=by
 obtain⟨b1,A1,n1,c1,b2,A2,n2,c2,b3,A3,n3,c3,b4,A4,n4,c4,h1,h2,h3⟩:=h;exact⟨b1,A1,n1,c1,b2,A2,n2,c2,b3,A3,n3,c3,b4,A4,n4,c4,h1,h2.ext e,h3.ext e⟩
def Vx(w:World)(v:Value)(l:List (Rat×Rat)):Prop:=CE 8 Rp 0 w v l
def Yu(w:World)(A:Option Addr)(l:List (Rat×Rat)):Prop:=Dx 8 Rp 0 w A l
theorem Vx.ext{w w':World}{v:Value}{l:List (Rat×Rat)}(h:Vx w v l)(e:Ext w w'):Vx w' v l:=CE.ext h e fun _ _ q=>q.ext e
theorem Yu.at_{w:World}{A:Option Addr}{l:List (Rat×Rat)}(h:Yu w A l){j:Nat}(hj:j < l.length) :
  ∃ g o b1 A1 n1 c1 b2 A2 n2 c2 b3 A3 n3 c3 b4 A4 n4 c4,A=some ⟨g,o,none⟩/\w.cell? ⟨g,o+j*8,none⟩=some (.bool b1)/\w.cell? ⟨g,o+j*8+1,none⟩=some (.slice A1 n1 c1)/\w.cell? ⟨g,o+j*8+2,none⟩=some (.bool b2)/\w.cell? ⟨g,o+j*8+3,none⟩=some (.slice A2 n2 c2) /\
   w.cell? ⟨g,o+j*8+4,none⟩=some (.bool b3)/\w.cell? ⟨g,o+j*8+5,none⟩=some (.slice A3 n3 c3)/\w.cell? ⟨g,o+j*8+6,none⟩=some (.bool b4)/\w.cell? ⟨g,o+j*8+7,none⟩=some (.slice A4 n4 c4) /\
   BN w (.agg #[.bool b1,.slice A1 n1 c1,.bool b2,.slice A2 n2 c2]) l[j].1/\BN w (.agg #[.bool b3,.slice A3 n3 c3,.bool b4,.slice A4 n4 c4]) l[j].2:=by
 obtain⟨g,o,ha,hb,hc⟩:=h Aa;obtain⟨cs,q1,q2,q3⟩:=hc j hj;obtain⟨b1,A1,n1,c1,b2,A2,n2,c2,b3,A3,n3,c3,b4,A4,n4,c4,e,h1,h2⟩:=q3;obtain rfl:cs=#[.bool b1,.slice A1 n1 c1,.bool b2,.slice A2 n2 c2,.bool b3,.slice A3 n3 c3,.bool b4,.slice A4 n4 c4]:=by injection e
 exact⟨g,o,b1,A1,n1,c1,b2,A2,n2,c2,b3,A3,n3,c3,b4,A4,n4,c4,ha,q2 0 Aa,q2 1 Aa,q2 2 Aa,q2 3 Aa,q2 4 Aa,q2 5 Aa,q2 6 Aa,q2 7 Aa,h1,h2⟩
theorem Vx.len{w:World}{v:Value}{l:List (Rat×Rat)}(h:Vx w v l):∃ A c,v = .slice A l.length c/\l.length<=c/\c<=9223372036854775807/\Yu w A l:=h
def px(l:List (Rat×Rat))(i:Nat):Rat:=(l.getD i (0,0)).1
def py(l:List (Rat×Rat))(i:Nat):Rat:=(l.getD i (0,0)).2
theorem iV{l:List (Rat×Rat)}{i:Nat}(h:i < l.length):px l i=l[i].1:=by unfold px;rw[List.getD_eq_getElem?_getD,List.getElem?_eq_getElem h];rfl
theorem jW{l:List (Rat×Rat)}{i:Nat}(h:i < l.length):py l i=l[i].2:=by unfold py;rw[List.getD_eq_getElem?_getD,List.getElem?_eq_getElem h];rfl
theorem Lv.step{X:Nat->Rat}{n:Nat}(h:Lv X n)(k:∀ j,j < n->X n≠X j):Lv X (n+1):=fun i j hi hj=>by
 rcases Nat.lt_or_ge i n with l | l
 ·exact h i j l hj
 ·obtain rfl:i=n:=by omega
  exact k j hj
abbrev NP:=Bool×List Nat
def RU(w:World)(v:Value)(x:NP):Prop:=PT w v x.1 x.2
theorem RU.ext{w w':World}{v:Value}{x:NP}(h:RU w v x)(e:Ext w w'):RU w' v x:=by
 obtain⟨u,h1,h2⟩:=h;exact⟨u,h1,h2.ext e⟩
def FT(w:World)(v:Value)(l:List NP):Prop:=CE 2 RU 0 w v l
theorem FT.ext{w w':World}{v:Value}{l:List NP}(h:FT w v l)(e:Ext w w'):FT w' v l:=CE.ext h e fun _ _ q=>q.ext e
abbrev Kq:=Raw×Raw
def Qy(w:World)(v:Value)(x:Kq):Prop:=
 ∃ b1 A1 n1 c1 b2 A2 n2 c2 b3 A3 n3 c3 b4 A4 n4 c4,v = .agg #[.bool b1,.slice A1 n1 c1,.bool b2,.slice A2 n2 c2,.bool b3,.slice A3 n3 c3,.bool b4,.slice A4 n4 c4] /\
  EC w (.agg #[.bool b1,.slice A1 n1 c1,.bool b2,.slice A2 n2 c2]) x.1/\EC w (.agg #[.bool b3,.slice A3 n3 c3,.bool b4,.slice A4 n4 c4]) x.2
theorem Qy.ext{w w':World}{v:Value}{x:Kq}(h:Qy w v x)(e:Ext w w'):Qy w' v x:=by
 obtain⟨b1,A1,n1,c1,b2,A2,n2,c2,b3,A3,n3,c3,b4,A4,n4,c4,h1,h2,h3⟩:=h;exact⟨b1,A1,n1,c1,b2,A2,n2,c2,b3,A3,n3,c3,b4,A4,n4,c4,h1,h2.ext e,h3.ext e⟩
def Ko(w:World)(v:Value)(l:List Kq):Prop:=CE 8 Qy 0 w v l
def Qp(w:World)(A:Option Addr)(l:List Kq):Prop:=Dx 8 Qy 0 w A l
theorem Ko.ext{w w':World}{v:Value}{l:List Kq}(h:Ko w v l)(e:Ext w w'):Ko w' v l:=CE.ext h e fun _ _ q=>q.ext e
theorem Qp.at_{w:World}{A:Option Addr}{l:List Kq}(h:Qp w A l){j:Nat}(hj:j < l.length) :
  ∃ g o b1 A1 n1 c1 b2 A2 n2 c2 b3 A3 n3 c3 b4 A4 n4 c4,A=some ⟨g,o,none⟩/\w.cell? ⟨g,o+j*8,none⟩=some (.bool b1)/\w.cell? ⟨g,o+j*8+1,none⟩=some (.slice A1 n1 c1)/\w.cell? ⟨g,o+j*8+2,none⟩=some (.bool b2)/\w.cell? ⟨g,o+j*8+3,none⟩=some (.slice A2 n2 c2) /\
   w.cell? ⟨g,o+j*8+4,none⟩=some (.bool b3)/\w.cell? ⟨g,o+j*8+5,none⟩=some (.slice A3 n3 c3)/\w.cell? ⟨g,o+j*8+6,none⟩=some (.bool b4)/\w.cell? ⟨g,o+j*8+7,none⟩=some (.slice A4 n4 c4) /\
   EC w (.agg #[.bool b1,.slice A1 n1 c1,.bool b2,.slice A2 n2 c2]) l[j].1/\EC w (.agg #[.bool b3,.slice A3 n3 c3,.bool b4,.slice A4 n4 c4]) l[j].2:=by
 obtain⟨g,o,ha,hb,hc⟩:=h Aa;obtain⟨cs,q1,q2,q3⟩:=hc j hj;obtain⟨b1,A1,n1,c1,b2,A2,n2,c2,b3,A3,n3,c3,b4,A4,n4,c4,e,h1,h2⟩:=q3;obtain rfl:cs=#[.bool b1,.slice A1 n1 c1,.bool b2,.slice A2 n2 c2,.bool b3,.slice A3 n3 c3,.bool b4,.slice A4 n4 c4]:=by injection e
 exact⟨g,o,b1,A1,n1,c1,b2,A2,n2,c2,b3,A3,n3,c3,b4,A4,n4,c4,ha,q2 0 Aa,q2 1 Aa,q2 2 Aa,q2 3 Aa,q2 4 Aa,q2 5 Aa,q2 6 Aa,q2 7 Aa,h1,h2⟩
def bU(x:Kq):Prop:=TQ x.1/\TQ x.2
def eF(x:Kq):Rat×Rat:=(Ju x.1,Ju x.2)
theorem Ko.has{w:World}{v:Value}{l:List Kq}(h:Ko w v l)(hs:∀ x∈l,bU x):Vx w v (l.map eF)/\(∀ i,i < l.length->qsz (px (l.map eF) i)<=2/\qsz (py (l.map eF) i)<=2):=by
 obtain⟨A,c,h1,h2,h3,h4⟩:=h;refine⟨⟨A,c,by simpa using h1,by simpa using h2,h3,fun h0=>?_⟩,fun i hi=>?_⟩
 ·obtain⟨g,o,q1,q2,q3⟩:=h4 (by simpa using h0)
  refine⟨g,o,q1,q2,fun j hj=>?_⟩;have hj':j < l.length:=by simpa using hj
  obtain⟨cs,r1,r2,b1,A1,n1,c1,b2,A2,n2,c2,b3,A3,n3,c3,b4,A4,n4,c4,e,k1,k2⟩:=q3 j hj';refine⟨cs,r1,r2,?_⟩;rw[List.getElem_map];have hsm:=hs _ (List.getElem_mem hj');exact⟨b1,A1,n1,c1,b2,A2,n2,c2,b3,A3,n3,c3,b4,A4,n4,c4,e,(k1.has hsm.1).1,(k2.has hsm.2).1⟩
 ·obtain⟨g,o,q1,q2,q3⟩:=h4 Aa
  obtain⟨cs,r1,r2,b1,A1,n1,c1,b2,A2,n2,c2,b3,A3,n3,c3,b4,A4,n4,c4,e,k1,k2⟩:=q3 i hi;have hsm:=hs _ (List.getElem_mem hi);rw[iV (by simpa using hi),jW (by simpa using hi),List.getElem_map];exact⟨(k1.has hsm.1).2,(k2.has hsm.2).2⟩
def iH(x:NP):Int:=iv x.1 x.2
theorem RU.has{w:World}{v:Value}{x:NP}(h:RU w v x)(hs:x.2.length<=1099511627776):Bh w v (iH x)/\sz (iH x).natAbs<=x.2.length:=by
 have h':=h;obtain⟨s,rfl,hd⟩:=h';refine⟨⟨x.1,x.2,h,rfl,hs⟩,?_⟩;have:=Ns hd;unfold iH;rw[Nj];exact this
theorem FT.len{w:World}{v:Value}{l:List NP}(h:FT w v l):∃ A c,v = .slice A l.length c/\l.length<=c/\c<=9223372036854775807:=by
 obtain⟨A,c,h1,h2,h3,h4⟩:=h;exact⟨A,c,h1,h2,h3⟩
theorem FT.at_{w:World}{A:Option Addr}{n c:Nat}{l:List NP}(h:FT w (.slice A n c) l){j:Nat}(hj:j < l.length) :
  ∃ g o A1 c,A=some ⟨g,o,none⟩/\w.cell? ⟨g,o+j*2,none⟩=some (.bool l[j].1)/\w.cell? ⟨g,o+j*2+1,none⟩=some (.slice A1 l[j].2.length c)/\RU w (.agg #[.bool l[j].1,.slice A1 l[j].2.length c]) l[j]:=by
 obtain⟨A',c',e1,h2,h3,h4⟩:=h;have e5:A'=A:=by injection e1 with h1;exact h1.symm
 subst e5;obtain⟨g,o,q1,q2,q3⟩:=h4 Aa;obtain⟨cs,r1,r2,r3⟩:=q3 j hj;have hr:=r3;obtain⟨s,e,A1,c1,e2,k⟩:=r3;subst e2;have e:=UM e;subst e;exact⟨g,o,A1,c1,q1,r2 0 Aa,r2 1 Aa,hr⟩
theorem FT.has{w:World}{v:Value}{l:List NP}{d:Nat}(h:FT w v l)(hs:∀ x∈l,x.2.length<=d)(hd:d<=1099511627776:=by omega):Ey 0 w v (l.map iH)/\∀ x∈l.map iH,sz x.natAbs<=d:=by
 obtain⟨A,c,h1,h2,h3,h4⟩:=h;have key:∀ j (hj:j < l.length),∃ cs:Array Value,cs.size=2/\RU w (.agg cs) l[j]:=fun j hj=>by
  obtain⟨g,o,q1,q2,q3⟩:=h4 Aa;obtain⟨cs,r1,r2,r3⟩:=q3 j hj;exact⟨cs,r1,r3⟩
 refine⟨⟨A,c,by simpa using h1,by simpa using h2,h3,fun h0=>?_⟩,fun x hx=>?_⟩
 ·obtain⟨g,o,q1,q2,q3⟩:=h4 (by simpa using h0)
  refine⟨g,o,q1,q2,fun j hj=>?_⟩;have hj':j < l.length:=by simpa using hj
  obtain⟨cs,r1,r2,r3⟩:=q3 j hj';refine⟨cs,r1,r2,?_⟩;rw[List.getElem_map];exact(r3.has (Nat.le_trans (hs _ (List.getElem_mem hj')) hd)).1
 ·obtain⟨y,hy,rfl⟩:=List.mem_map.1 hx
  obtain⟨j,hj,rfl⟩:=List.getElem_of_mem hy;obtain⟨cs,-,r3⟩:=key j hj;have:=hs _ (List.getElem_mem hj);exact Nat.le_trans (r3.has Aa).2 this
theorem FT.qsz{w:World}{v:Value}{l:List NP}{d:Nat}(h:FT w v l)(hs:∀ x∈l,x.2.length<=d)(hd:d<=1099511627776:=by omega)(h1:1<=d:=by omega)(i:Nat):qsz (cz (l.map iH) i)<=d:=Ql (h.has hs hd).2 h1 i
theorem KE(k:Nat)(F:Nat->Rat):DF (k+1) F=DF k F ++ [(F k).num]:=by simp[DF,List.range_succ]
theorem JF{n:Nat}(h:n<=1099511627776):n+1<=maxLen:=by simp only[maxLen];omega
theorem gJ(l:List Int):DF l.length (cz l)=l:=by
 apply List.ext_getElem
 ·rw[Bb]
 ·intro i h1 h2;rw[Cc,Cb h2];rfl
theorem gD{base:Nat}{w:World}{v:Value}{n:Nat}{F:Nat->Rat}{e:TypeId}(h:Dq base e w v (DF n F))(hs:∀ i,qsz (F i)<=1099511627776):Ey 0 w v (DF n F):=
 LZ.has h.row fun x hx=>by
  obtain⟨i,hi,rfl⟩:=List.getElem_of_mem hx;rw[Cc];have:=hs i;unfold qsz at this;omega
end Go.Hp
namespace Go.Proofs.YtmhgnigpmompmaaGreat
open Go.RowKit Go.Hp
set_option maxRecDepth 20000 in
theorem Xj(v u:Value)(F G:Nat->Rat)(s t:Nat)(w:World)(hv:FV 0 w v F)(hu:FV 0 w u G)(h0:G≠pz)(hF:CD s F)(hG:CD t G)(hb:pl F<=1099511627776)(hK:s+(pl F+2)*(t+1)+2*t+2<=274877906944) :
  Bj 157 #[v,u] w (fun r w'=>∃ a b,r = .tuple #[a,b]/\FV w.heap.size w' a (pq F G)/\FV w.heap.size w' b (pr F G)):=by
 have hFf:=hv.fin;have hGf:=hu.fin;have hpG:=AQ hGf h0;obtain⟨lf,hfv,hfl,hft,hfc⟩:=hv.hs (fun i=>by have:=hF.elem i;have:0 < (pl F+2)*(t+1):=Nat.mul_pos Aa Aa;omega);obtain⟨E,d,lg,rfl,hgd,hd,hE,hgl,hgt,hgc⟩:=hu.form;obtain⟨A,c,hve⟩:=hfv.len;have Hn:=Ad (Mw v lf w hfv Aa);have hft':BR lf=lf:=(Fu lf).uniq hft (GH lf);subst hve;rw[hfl]at Hn ⊢;have HE:=Ad hE;have HX:=Ad (Au hFf (Au hGf (Au h0 (Au hF (Au hG hK)))))
 have HL:=Ad (Au hfl (Au hfc (Au hgl (Au hgc hft'))));clear hv hu h0 hF hG hK hFf hGf hE hgl hgt hgc hfv hfl hft hfc hft'
 go_enter Tryz.func157,Tryz.ntmps157
 go_wp2_with fail
 refine AR Hn.out ?_;rintro r w1 ⟨rfl,er⟩ hx1;rw[HL.out.2.2.2.2,HL.out.1];rw[QZ,HL.out.1,HL.out.2.1]at er;clear Hn;by_cases hlt:pl F < pl G
 ·go_wp2
  go_ret2
  have hdl:=M8 (F:=F) (G:=G) ((AB HX.out.1).mono Aa) HX.out.2.1 HX.out.2.2.1;rw[hdl.1,hdl.2];exact Ah.mk ⟨_,_,rfl,FV.nil _ _,er.isP (AB HX.out.1) (Nat.le_refl _) (Nat.le_refl _) Aa⟩ hx1
 obtain⟨n,hn⟩:∃ n,n=pl F - pl G+1:=⟨_,rfl⟩
 have hnF:n+pl G=pl F+1:=by omega
 have hn1:1<=n:=by omega
 have hn40:n<=1099511627776:=by omega
 obtain⟨W0,hmk,eq,hxq⟩:=KP n ((pl F:Int) - pl G+1) Aa hn40 w1;have HN:=Ad hnF;clear hnF hn;have hg12:=er.lt;replace er:=er.ext hxq;replace hx1:=hx1.trans hxq;clear hxq;go_wp2
 go_loopw [6] (fun iv wr=>∃ (i:Nat) (Q Rm:Nat->Rat) (la:List (Option Rat)),i<=n/\(∃ z:Int,z+1=i/\iv = .int .i64 z)/\CS wr w.heap.size 28 (El (pl F) Rm)/\CS wr w1.heap.size 28 la/\K8 F G n s t i la Q Rm/\Ext w wr) (fun iv _=>(intOf iv+1).toNat)
 case atStart=>exact⟨n,pz,F,_,Nat.le_refl _,⟨_,Aa,rfl⟩,er,eq,K8.start ((AB HX.out.1).mono (by have:=HN.out;omega)) HX.out.2.2.2.1,hx1⟩
 case round =>
  clear er eq hx1;obtain⟨i,Q,Rm,la,hi,⟨z,hz,rfl⟩,er,eq,hst,hx⟩:=hrel;have HR:=Ad hst;clear hst;by_cases hi0:0 < i
  ·obtain⟨k,rfl⟩:∃ k,i=k+1:=⟨i - 1,Aa⟩
   obtain rfl:z=(k:Int):=by omega
   clear hz hi0;have hkn:k < n:=by omega
   have hkp:k+pl G - 1 < pl F:=by have:=HN.out;omega
   have HL2:=HL.out.2.2.1;obtain⟨z1,Z1,zn,zc,z2,Z2,zn',zc',ca0,ca1,ca2,ca3,hza⟩:=er.full_at (j:=k+pl G - 1) hkp;obtain⟨g,o,b,A1,m1,c1,b',A1',m1',c1',rfl,_,q0,q1,q2,q3,hq⟩:=HE.out.at_ (j:=pl G - 1) Aa;replace q0:=hx.cell q0;replace q1:=hx.cell q1;replace q2:=hx.cell q2;replace q3:=hx.cell q3;have hlead:lg[pl G - 1]'(Aa)=ld G:=by rw[<-Fb,HL.out.2.2.2.1];rfl
   rw[hlead]at hq;have Hq:=Ad (Au hza hq);clear hza hq hlead HL2;have HB:=Ad (show qsz (Rm (k+pl G - 1))<=274877906944/\qsz (ld G)<=274877906944/\ld G≠0 by
    have h0:=HN.out;have h1:=HR.out.2.2.2.2.2.2.elem (k+pl G - 1);have h2:qsz (ld G)<=t:=HX.out.2.2.2.2.1.elem _;have h3:=HX.out.2.2.2.2.2;have h4:(n - (k+1))*(t+1)<=(pl F+2)*(t+1):=Nat.mul_le_mul_right _ Aa;exact⟨Aa,Aa,CW HX.out.2.1 HX.out.2.2.1⟩)
   obtain⟨c0,hc0⟩:∃ c0,c0=Rm (k+pl G - 1) / ld G:=⟨_,rfl⟩
   have Hc0:=Ad hc0;clear hc0;have hkla:k < la.length:=by have:=HR.out.1;omega
   have Hkla:=Ad hkla
   go_wp2_with fail
   go_cut [] (fun wx=>CS wx w1.heap.size 28 (la.set k (some c0))/\CS wx w.heap.size 28 (El (pl F) Rm)/\Ext w wx)
   case first =>
    refine Bu 20 [19] (fun x=>22) [32,33,34,35,36,37,38,39,40,41,42,43,44,45,46,47,48,31,49,50] [[],[],[],[],[],[4],[3,4,5],[3,4,5,6],[2,3,4,5,6,7],[2,3,4,5,6,7,8],[],[],[11],[11,12],[10,11,12,13],[10,11,12,13,14],[2,3,4,5,6,7,8,9,10,11,12,13,14,15],[2,3,4,5,6,7,8,9,10,11,12,13,14,15,16],[2,3,4,5,6,7,8,9,10,11,12,13,14,15,16,17],[2,3,4,5,6,7,8,9,10,11,12,13,14,15,16,17],[0,1,2,3,4,5,6,7,8,9,10,11,12,13,14,15,16,17,18],[0,1,2,3,4,5,6,7,8,9,10,11,12,13,14,15,16,17,18,20]] [4,6,5,1] [_,_,_,_] [(kv ?_),(kv ?_),(kv ?_),(kv ?_),(kv ?_),(kv ?_),(kv ?_),(kv ?_),(kv ?_),(kv ?_),(kv ?_),(kv ?_),(kv ?_),(kv ?_),(kv ?_),(kv ?_),(fun γ=>γ 16),(fun γ=>γ 16),(fun γ=>γ 18),(kv ?_)] (fun γ w'=>[True,True,True,True,True,True,True,True,True,True,True,True,True,True,True,True,JL w' (γ 16) c0,True,BQ w' (γ 18) c0,True]) Kg BU BU BU BU BU Nb BU Kw ?m1 ?s1 ?_ ?l1
    case s1 =>
     iterate 20 refine⟨?_,?_⟩
     trivial
     iterate 16 focus
      refine Ba fun _ w' he R hR=>?_;have hc:=he.cells;have cq0:=he.cell ca0;have cq1:=he.cell ca1;have cq2:=he.cell ca2;have cq3:=he.cell ca3;have cq4:=he.cell q0;have cq5:=he.cell q1;have cq6:=he.cell q2;have cq7:=he.cell q3;go_simp;(try go_ints);(try(rw[if_neg Aa]));(try(rw[if_pos Aa]));(try go_simp);(try go_ints)
      exact Bi hR
     ·refine Ba fun _ w' he R hR=>?_
      go_simp;exact Bg (Hc0.out▸Wp _ _ _ _ w' ((Hq.out.1.ext he).has HB.out.1) ((Hq.out.2.ext (hx.trans he)).has HB.out.2.1) HB.out.2.2) hR
     ·refine Ba fun _ w' he R hR=>?_
      have hc:=he.cells;go_simp
      (try go_ints);(try(rw[if_neg Aa]));(try(rw[if_pos Aa]));(try go_simp);(try go_ints)
      exact Bi hR
     ·refine FO fun γ w' he hf R hR=>?_;have f16:JL w' (γ 16) c0:=hf 16 Ab;clear hf
      obtain⟨a,e,ha⟩:=f16;go_simp;exact hR _ _ (Ext.refl _) rfl ha
     ·refine FO fun γ w' he hf R hR=>?_;have f16:JL w' (γ 16) c0:=hf 16 Ab;clear hf
      obtain⟨a,e,ha⟩:=f16;have hc:=he.cells;go_simp
      (try go_ints);(try(rw[if_neg Aa]));(try(rw[if_pos Aa]));(try go_simp);(try go_ints)
      exact Bi hR
    case m1 =>
     exact⟨⟨⟨⟨⟨⟨⟨⟨⟨⟨⟨⟨⟨⟨⟨⟨⟨⟨⟨⟨trivial,(fun γ wA w' e h=>h)⟩,(fun γ wA w' e h=>h)⟩,(fun γ wA w' e h=>h)⟩,(fun γ wA w' e h=>h)⟩,(fun γ wA w' e h=>h)⟩,(fun γ wA w' e h=>h)⟩,(fun γ wA w' e h=>h)⟩,(fun γ wA w' e h=>h)⟩,(fun γ wA w' e h=>h)⟩,(fun γ wA w' e h=>h)⟩,(fun γ wA w' e h=>h)⟩,(fun γ wA w' e h=>h)⟩,(fun γ wA w' e h=>h)⟩,(fun γ wA w' e h=>h)⟩,(fun γ wA w' e h=>h)⟩,(fun γ wA w' e h=>h)⟩,(fun γ wA w' e h=>(show JL wA (γ 16) c0 from h).ext e)⟩,(fun γ wA w' e h=>h)⟩,(fun γ w w' e h=>BQ.ext h e)⟩,(fun γ wA w' e h=>h)⟩
    case l1 =>
     intro Pn hPs hPn;obtain rfl:=Ii hPs hPn;clear hPs hPn
     ·intro γ w2 hx2 hF hA
      clear hA;have p16:JL w2 (γ 16) c0:=(Av.get hF 16 Ab).resolve_left Ab;have p18:BQ w2 (γ 18) c0:=(Av.get hF 18 Ab).resolve_left Ab;clear hF;show AP _ _ _ _ 3 [19] 20 _ _;simp only[Bd,Nat.reduceAdd,Co,Vn];generalize γ 16=g16 at *;generalize γ 18=g18 at *;clear γ;obtain⟨a16,rfl,-⟩:=p16;obtain⟨b5,A5,n5,c5,b6,A6,n6,c6,rfl⟩:=p18.cells;clear ca0 ca1 ca2 ca3 q0 q1 q2 q3;replace er:=er.ext hx2;replace eq:=eq.ext hx2
      replace hx:=hx.trans hx2;clear hx2;obtain⟨_,_,_,_,_,_,_,_,ca0,ca1,ca2,ca3,-⟩:=eq.at_ (j:=k) (by first | omega | (simp;omega));have fa0:=eq.frozen (k*4);have fa1:=eq.frozen (k*4+1);have fa2:=eq.frozen (k*4+2);have fa3:=eq.frozen (k*4+3)
      repeat' first
       | (refine AP.nil ?_;simp only[GM];go_wp2;done)
       | (refine AP.nil ?_;(try simp only[GM]);go_wp2)
       | (refine AP.mk _ ⟨?_,trivial⟩ (fun h=>?_)<;>first | exact absurd h Ab | ((try clear h);simp only[CX,GM];go_wp2;first | show AP _ _ _ _ _ [19] _ _ _ | show AP _ _ _ _ _ [] _ _ _))
      all_goals
       skip;obtain⟨W3,eW,eq',U⟩:=eq.put (k:=k) (by first | omega | (simp;omega)) p18;rw[<-eW];clear eW eq;replace er:=er.upd U Ak;replace hx:=U.from_ hx Ak;have eq:=eq';clear U eq'
       go_meet
       case rel=>exact⟨eq,er,hx⟩
    intro γ w2 hx2 hF hA;clear hA;have p16:JL w2 (γ 16) c0:=Av.get hF 16 Ab;have p18:BQ w2 (γ 18) c0:=Av.get hF 18 Ab;clear hF;simp only[Bd,Nat.reduceAdd];generalize γ 16=g16 at *;generalize γ 18=g18 at *;clear γ;obtain⟨a16,rfl,-⟩:=p16;obtain⟨b5,A5,n5,c5,b6,A6,n6,c6,rfl⟩:=p18.cells;clear ca0 ca1 ca2 ca3 q0 q1 q2 q3;replace er:=er.ext hx2;replace eq:=eq.ext hx2;replace hx:=hx.trans hx2;clear hx2;obtain⟨_,_,_,_,_,_,_,_,ca0,ca1,ca2,ca3,-⟩:=eq.at_ (j:=k) (by first | omega | (simp;omega))
    have fa0:=eq.frozen (k*4);have fa1:=eq.frozen (k*4+1);have fa2:=eq.frozen (k*4+2);have fa3:=eq.frozen (k*4+3);go_wp2;skip;obtain⟨W3,eW,eq',U⟩:=eq.put (k:=k) (by first | omega | (simp;omega)) p18;rw[<-eW];clear eW eq;replace er:=er.upd U Ak;replace hx:=U.from_ hx Ak;have eq:=eq';clear U eq'
    go_meet
    case rel=>exact⟨eq,er,hx⟩
   case rest =>
    clear er eq hx ca0 ca1 ca2 ca3 q0 q1 q2 q3;obtain⟨eq,er,hx⟩:=hcut;have HB2:=Ad (show qsz c0<=274877906944/\(∀ j m,qsz (F9 k j c0 Rm G m)<=274877906944)/\∀ j (hj:j < lg.length),qsz lg[j]<=274877906944/\qsz (c0*lg[j])<=274877906944 by
     have h0:=HN.out;have h1:=fun m=>HR.out.2.2.2.2.2.2.elem m;have h1':=h1 (k+pl G - 1);have h2:qsz (ld G)<=t:=HX.out.2.2.2.2.1.elem _;have h3:=HX.out.2.2.2.2.2;have h4:(n - (k+1))*(t+1)+(t+1)<=(pl F+2)*(t+1):=by rw[<-Nat.succ_mul];exact Nat.mul_le_mul_right _ Aa
     have h5:=fun m=>(HR.out.2.2.2.2.2.2.step (n:=k) HX.out.2.1 HX.out.2.2.1 HX.out.2.2.2.2.1).elem m;rw[<-Hc0.out]at h5;have h6:qsz c0<=s+(n - (k+1))*(t+1)+t:=by rw[Hc0.out];have:=Jc (Rm (k+pl G - 1)) (ld G);omega
     refine⟨Aa,fun j m=>Wq (AB HX.out.2.1) (fun m=>by have:=h1 m;omega) (fun m=>by have:=h5 m;omega) m,fun j hj=>?_⟩;have h7:qsz lg[j]<=t:=by rw[<-Fb hj,HL.out.2.2.2.1];exact HX.out.2.2.2.2.1.elem _
     have:=CG c0 lg[j];exact⟨Aa,Aa⟩)
    have HST:=Ad (HR.out.step HX.out.2.1 HX.out.2.2.1 HX.out.2.2.2.2.1 hkn Hc0.out);obtain⟨y1,Y1,yn,yc,y2,Y2,yn',yc',ca0,ca1,ca2,ca3,hy⟩:=eq.at_ (j:=k) (by rw[List.length_set];exact hkla);rw[List.getElem_set_self]at hy;have Hy:Hid (BQ wc _ c0):=Ad hy;clear hy hkla
    go_wp2_with fail
    refine AR (dR _ c0 _ (Hy.out.has HB2.out.1)) ?_;rintro r w3 rfl hx2;replace er:=er.ext hx2;replace eq:=eq.ext hx2;replace hx:=hx.trans hx2;clear hx2;clear ca0 ca1 ca2 ca3 Hy;by_cases hz:c0=0
    ·have hb:=bV hz
     have Hz:=Ad hz;clear hz;go_wp2;have Hkn:=Ad HST.out;rw[NS Hz.out]at Hkn
     go_roundw
     case rel=>exact⟨k,_,Rm,_,Aa,⟨(k:Int) - 1,Aa,by go_num⟩,er,eq,Hkn.out,hx⟩
     case measure=>simp[intOf]<;>omega
    ·have hb:=dM hz
     clear hz;go_wp2;obtain⟨wq,rfl⟩:∃ wq:World,wq=wr:=⟨_,rfl⟩
     go_loopw [59] (fun jv wx=>∃ (j:Nat),j<=pl G/\jv = .int .i64 j/\CS wx w.heap.size 28 (El (pl F) (F9 k j c0 Rm G))/\CS wx w1.heap.size 28 (la.set k (some c0))/\Ext w wx) (fun jv _=>pl G - (intOf jv).toNat)
     case atStart=>exact⟨0,Nat.zero_le _,rfl,by rw[Og];exact er,eq,hx⟩
     case round =>
      clear er eq hx;obtain⟨j,hj,rfl,er,eq,hx⟩:=hrel;by_cases hjm:j < pl G
      ·have hjl:j < lg.length:=by have:=HL.out.2.2.1;omega
       obtain⟨g',o',bb,B1,nn,cc1,bb',B1',nn',cc1',hE',_,q0,q1,q2,q3,hq⟩:=HE.out.at_ (j:=j) hjl;cases hE';replace q0:=hx.cell q0;replace q1:=hx.cell q1;replace q2:=hx.cell q2;replace q3:=hx.cell q3;have Hq':=Ad hq;clear hq;have hkj:k+j < pl F:=by have:=HN.out;omega
       have hne8:=er.lt;have hne9:=eq.lt
       go_wp2_with fail
       obtain⟨W10,eW10,e10,x10⟩:=Be.made wr 28 #[.bool bb,.slice B1 nn cc1,.bool bb',.slice B1' nn' cc1'] (by simp[Ag]);rw[<-eW10];clear eW10 q0 q1 q2 q3;replace er:=er.ext x10;replace eq:=eq.ext x10;replace hx:=hx.trans x10;clear x10;obtain⟨z1,Z1,zn,zc,z2,Z2,zn',zc',ca0,ca1,ca2,ca3,hza⟩:=er.full_at hkj;obtain⟨y1,Y1,yn,yc,y2,Y2,yn',yc',cb0,cb1,cb2,cb3,hy⟩:=eq.at_ (j:=k) (by rw[List.length_set];exact Hkla.out)
       rw[List.getElem_set_self]at hy;have Hy:Hid (BQ W10 _ c0):=Ad hy;have Hza:=Ad hza;clear hza hy;have ce10:=e10.cells4;have fe10:=e10.frozen;refine CV 17 [64,65,66,67,68,69,70,71,72,73,74,75,76,77,78,79,80] [5,6,7,4,8] [_,_,_,_,_] [(kv ?_),(kv ?_),(kv ?_),(kv ?_),(kv ?_),(kv ?_),(kv ?_),(kv ?_),(kv ?_),(kv ?_),(kv ?_),(kv ?_),(kv ?_),(kv ?_),(kv ?_),(fun γ=>γ 15),(fun γ=>γ 16)] (fun γ w'=>[True,True,True,True,True,True,True,True,True,True,True,True,True,True,True,BQ w' (γ 15) (c0*lg[j]),BQ w' (γ 16) (F9 k j c0 Rm G (k+j) - c0*lg[j])]) ?s2 ?_
       case s2 =>
        iterate 17 refine⟨?_,?_⟩
        trivial
        iterate 15 focus
         refine Ba fun _ w' he R hR=>?_;have hc:=he.cells;have cq0:=he.cell ca0;have cq1:=he.cell ca1;have cq2:=he.cell ca2;have cq3:=he.cell ca3;have cq4:=he.cell cb0;have cq5:=he.cell cb1;have cq6:=he.cell cb2;have cq7:=he.cell cb3;have cq8:=(e10.ext he).cells4;go_simp;(try go_ints);(try(rw[if_neg Aa]));(try(rw[if_pos Aa]));(try go_simp);(try go_ints)
         exact Bi hR
        ·refine Ba fun _ w' he R hR=>?_
         go_simp;exact Bg (Wi _ _ _ _ w' ((Hy.out.ext he).has HB2.out.1) ((Hq'.out.ext (hx.trans he)).has (HB2.out.2.2 j hjl).1)) hR
        ·refine FO fun γ w' he hf R hR=>?_;have f15:BQ w' (γ 15) (c0*lg[j]):=hf 15 Ab;clear hf
         go_simp;exact Bg (aI _ _ _ _ w' ((Hza.out.ext he).has (HB2.out.2.1 _ _)) (f15.has (HB2.out.2.2 j hjl).2)) hR
       intro γ w6 hx6 hF;have p15:BQ w6 (γ 15) (c0*lg[j]):=Av.get hF 15 Ab;have p16:BQ w6 (γ 16) (F9 k j c0 Rm G (k+j) - c0*lg[j]):=Av.get hF 16 Ab;clear hF;simp only[Bd,Nat.reduceAdd];generalize γ 15=g15 at *;generalize γ 16=g16 at *;clear γ;clear ca0 ca1 ca2 ca3 cb0 cb1 cb2 cb3 ce10 fe10 e10 p15 Hza Hy;replace er:=er.ext hx6;replace eq:=eq.ext hx6;replace hx:=hx.trans hx6;clear hx6;obtain⟨b5,A5,n5,c5,b6,A6,n6,c6,rfl⟩:=p16.cells
       have hkf:k+j < (El (pl F) (F9 k j c0 Rm G)).length:=by rw[Ro];exact hkj
       have Hkf:=Ad hkf;obtain⟨_,_,_,_,_,_,_,_,ca0,ca1,ca2,ca3,-⟩:=er.at_ (j:=k+j) (by first | omega | (simp;omega));have fa0:=er.frozen ((k+j)*4);have fa1:=er.frozen ((k+j)*4+1);have fa2:=er.frozen ((k+j)*4+2);have fa3:=er.frozen ((k+j)*4+3);clear hkf;go_wp2;have hkf:=Hkf.out;obtain⟨W7,eW,er',U⟩:=er.put (k:=k+j) (by first | omega | (simp;omega)) p16;rw[<-eW];clear eW er;replace eq:=eq.upd U Ak;replace hx:=U.from_ hx Ak
       have er:=er';clear U er'
       go_roundw
       case rel=>exact⟨j+1,Aa,by go_num,by
        rw[XE (G:=F9 k (j+1) c0 Rm G) (fun n=>by
         have e:lg[j]=G j:=by rw[<-Fb hjl,HL.out.2.2.2.1]
         rw[Od,e];split<;>simp_all)]at er
        exact er,eq,hx⟩
       case measure=>simp[intOf];omega
      ·obtain rfl:j=pl G:=by omega
       rw[Li (AB HX.out.2.1)]at er;have Hkn:=Ad HST.out;go_wp2
       go_roundw
       case rel=>exact⟨k,_,_,_,Aa,⟨(k:Int) - 1,Aa,by go_num⟩,er,eq,Hkn.out,hx⟩
       case measure=>simp[intOf]<;>omega
  ·obtain rfl:i=0:=by omega
   have hz1:z < 0:=by omega
   have HE2:=Ad (HR.out.end_ HX.out.1 HX.out.2.1 HX.out.2.2.1);have hla:=HE2.out.1;rw[hla,HE2.out.2.1]at eq;rw[HE2.out.2.2.1]at er;have Hz:=Ad hz;clear hz hla HR;have hrq:=eq.row (KH n _) (base:=w.heap.size) Aa;have hrr:=er.row (KH (pl F) _) (Nat.le_refl _);have hTq:=fun W (e:wr=W)=>Ht w.heap.size (some ⟨w1.heap.size,0,none⟩) n ((List.range n).map (pq F G)) W (by rw[Fs];omega) Aa (e▸hrq);have hTr:=fun W (e:wr=W)=>Ht w.heap.size (some ⟨w.heap.size,0,none⟩) (pl F) ((List.range (pl F)).map (pr F G)) W (by rw[Fs];omega) Aa (e▸hrr)
   rw[Fs]at hTq hTr;have HT:=Ad (Au hTq hTr);have HS2:=Ad (show Bq (pl F) (pr F G)from(Er HX.out.1 HX.out.2.1 HX.out.2.2.1).mono (by have:=HN.out;omega));have HP:=Ad (Au (eq.isP (base:=w.heap.size) (HE2.out.2.1▸HE2.out.2.2.2) Aa (Nat.le_refl _) Aa) (er.isP (base:=w.heap.size) (N:=pl F) HS2.out (Nat.le_refl _) (Nat.le_refl _) Aa));clear hTq hTr hrq hrr er eq
   go_wp2_with fail
   refine Calls.mono (HT.out.1 _ rfl) ?_;rintro e w4 ⟨rfl,rfl⟩
   go_wp2_with fail
   refine Calls.mono (HT.out.2 _ rfl) ?_;rintro e w5 ⟨rfl,rfl⟩;go_wp2
   go_ret2
   rw[Iu,Iu,Qh (HE2.out.2.1▸HE2.out.2.2.2),Qh HS2.out];exact Ah.mk ⟨_,_,rfl,HP.out.1,HP.out.2⟩ hx
theorem Vu(W:World)(base ty g:Nat)(v:Value)(l:List Rat)(q:Rat){b b':Bool}{A A':Option Addr}{n c n' c':Nat}(h:DL base 28 W v l)(hq:BQ W (.agg #[.bool b,.slice A n c,.bool b',.slice A' n' c']) q)(hn:l.length<=1099511627776)(hb:base<=W.heap.size)(hg:g=W.heap.size) :
  ∃ v' w',(Builtin.append_ #[43,43] ty #[v,.slice (some ⟨g,0,none⟩) 1 1]).run Tryz.prog (W.alloc (.cells #[.bool b,.slice A n c,.bool b',.slice A' n' c'] 28)) = .ok v' w'/\(DL base 28 w' v' (l ++ [q])/\Cj (blk v) (W.alloc (.cells #[.bool b,.slice A n c,.bool b',.slice A' n' c'] 28)) w'):=by
 subst hg;obtain⟨g,cs,e1,h1,h2,h3,h4⟩:=Qw.mk hq (base:=W.heap.size) (Nat.le_refl _) 28;cases e1;obtain⟨i0,hi,hz0,hz1,hz2⟩:=info_parts QM;have ho:=BQ.one h4;have hx:=(Ext.refl W).alloc (.cells #[.bool b,.slice A n c,.bool b',.slice A' n' c'] 28);obtain⟨v',w',a,b,c⟩:=BH.append (P:=Tryz.prog) (h.ext hx) 43 ty i0 _ 64 Tryz.underlying43 hi hz0 hz1 hz2 rfl (by simp[nodig,Ag,Value.cells]) Ab ⟨W.heap.size,0,none⟩ 1 cs h3 h4 h2.news ho.1 ho.2.1 (V9 hn) Aa (Nat.le_trans hb hx.size) (fun _ _ _ k hq=>BQ.kd hq k)
 exact⟨v',w',a,b,c⟩
/-! ### over polynomials -/
theorem KI(v:Value)(l:List Rat)(w:World)(hv:RI 0 w v l)(hn:l.length<=1099511627776):Bj 156 #[v] w (fun r w'=>FV w.heap.size w' r (co l)):=
 Ah.imp (UZ v l w hv hn) fun _ _ h=>FV.of_trim h rfl
theorem XO(v u:Value)(l m:List Rat)(s t:Nat)(w:World)(hv:RI 0 w v l)(hu:RI 0 w u m)(h0:co m≠pz)(hF:CD s (co l))(hG:CD t (co m))(hn:l.length<=274877906944)(hm:m.length<=274877906944)(hK:s+(pl (co l)+2)*(t+1)+2*t+2<=274877906944) :
  Bj 114 #[v,u] w (fun r w'=>∃ a b,r = .tuple #[a,b,.int .i64 0]/\FV w.heap.size w' a (pq (co l) (co m))/\FV w.heap.size w' b (pr (co l) (co m))):=by
 have HV:=Ad hv;have HU:=Ad hu;obtain⟨A,c,rfl⟩:=hv.len;obtain⟨E,d,rfl⟩:=hu.len;clear hv hu;have hp0:=BX (KS l);have HX:=Ad (Au h0 (Au hF (Au hG (Au hK (AQ (Ae.co m) h0)))));clear h0 hF hG hK
 go_enter Tryz.func114,Tryz.ntmps114
 go_wp2_with fail
 refine AR (KI _ m _ HU.out Aa) ?_;rintro r1 w1 hr1 hx1;have Hr1:=Ad hr1;obtain⟨A1,c1,l1,rfl,k1,k2,-⟩:=hr1.form;have b0:((pl (co m):Int)==0)=false:=by have:=HX.out.2.2.2.2;simp;omega
 clear hr1
 go_wp2_with fail
 refine AR (KI _ l _ (HV.out.ext hx1) Aa) ?_;rintro r2 w2 hr2 hx2;have Hr2:=Ad hr2;clear hr2
 go_wp2_with fail
 refine AR (Xj _ _ (co l) (co m) s t _ (Hr2.out.base_le (Nat.zero_le _)) ((Hr1.out.ext hx2).base_le (Nat.zero_le _)) HX.out.1 HX.out.2.1 HX.out.2.2.1 Aa HX.out.2.2.2.1) ?_;rintro r3 w3 ⟨a,b,rfl,ha,hb⟩ hx3;have Hab:=Ad (Au ha hb);clear ha hb;have s1:=hx1.size;have s2:=hx2.size;go_wp2
 go_ret3
 exact Ah.mk ⟨_,_,rfl,Hab.out.1.base_le Aa,Hab.out.2.base_le Aa⟩ ((hx1.trans hx2).trans hx3)
theorem kY(n:Int)(w:World)(h1 : -4294967296 < n)(h2:n < 4294967296):Bj 58 #[.int .i64 n] w (fun r w'=>AC w' r n):=by
 go_enter Tryz.func58,Tryz.ntmps58
 by_cases hneg:n < 0
 ·have hb:decide (n < 0)=true:=by simpa using hneg
  have Hw:=Ad (NB (x:=n) Aa hneg);obtain⟨N,hN⟩:∃ N,N=n.natAbs:=⟨_,rfl⟩
  have HN:=Ad hN;have hNb:N < 4294967296:=by omega
  clear hN;go_wp2;obtain⟨W9,eW9,e9,x9⟩:=Be.made (w.alloc (.cells #[.bool false,.slice none 0 0] 26)) 26 #[.bool true,.slice none 0 0] (by simp[Ag]);rw[<-eW9];clear eW9;rw[World.size_alloc]at e9
  go_loopw [3] (fun uv wx=>∃ m:Nat,uv = .int .u64 m/\m < 4294967296/\((m=N/\Be wx (w.heap.size+1) 26 #[.bool true,.slice none 0 0])\/(m=0/\N≠0/\∃ A c,Be wx (w.heap.size+1) 26 #[.bool true,.slice A 1 c]/\BC wx (.slice A 1 c) [N]))/\Ext (w.alloc (.cells #[.bool false,.slice none 0 0] 26)) wx) (fun uv _=>(intOf uv).toNat)
  case atStart=>exact⟨N,by rw[Hw.out,HN.out],hNb,.inl ⟨rfl,e9⟩,x9⟩
  case round =>
   clear e9 x9;obtain⟨m,rfl,hm,hst,hx⟩:=hrel;by_cases h0:m=0
   ·have hr:∃ A k c,Be wr (w.heap.size+1) 26 #[.bool true,.slice A k c]/\AC wr (.agg #[.bool true,.slice A k c]) n:=by
     rcases hst with⟨e,hb⟩ | ⟨_,hne,A,c,hb,hd⟩
     ·exact⟨_,_,_,hb,by have h3:=HN.out;omega⟩
     ·exact⟨_,_,_,hb,AC.of_one hd hne (by have h3:=HN.out;(simp;omega))⟩
    obtain⟨A5,n5,c5,ez,hr⟩:=hr;have H0:=Ad h0;clear h0;have Hr:=Ad hr;clear hr hst;have hm0:¬ (0 < (m:Int)):=by have:=H0.out;omega
    have cez:=ez.cells2;have fez:=ez.frozen;have hx1:=hx;clear hx;have hc1:=hx1.cells;have hf1:=hx1.frozens;have Hfin:=Ad (Cr Hr.out hx1.a1 (AJ.at_ hx1 (g:=w.heap.size+0) Ac (by simp[Ag])) Aa);go_wp2;refine bodyPost_ret (v := .agg #[.bool true,.slice A5 n5 c5]) (by simp[results,Tryz.results58,go_sem,hc1]) rfl ?_;exact Hfin.out
   ·obtain⟨rfl,ez⟩:m=N/\Be wr (w.heap.size+1) 26 #[.bool true,.slice none 0 0]:=by
     rcases hst with⟨e,hb⟩ | ⟨e,_⟩
     ·exact⟨e,hb⟩
     ·exact absurd e h0
    have hm0:0 < m:=by omega
    have hsz:w.heap.size<=wr.heap.size:=hx.a1.size;clear hst;have cez:=ez.cells2;have fez:=ez.frozen
    go_wp2_with (at_builtin;refine AO rfl _ _ 24 rfl (.slice none 0 0) (.slice (some ⟨wr.heap.size,0,none⟩) 1 1) rfl rfl (Dh wr w.heap.size _ _ [] m _ _ (FE.nil _ _) (by first | rfl | omega) Ac hsz rfl) ?_)
    rintro v' w5 hown hg;have xa:Ext wr w5:=((Ext.refl wr).alloc _).grown hg (fun k hk=>by simp[Value.ownBlock]at hk);have hd:=hown.digv (AV.cons hm AV.nil);have hd2:=hd;obtain⟨A5,c5,rfl,-,-,-⟩:=hd2;clear hown hg;have ez5:=ez.ext xa;replace hx:=hx.trans xa;clear ez xa cez fez;have cez5:=ez5.cells2;have fez5:=ez5.frozen;have Hd:=Ad hd;clear hd;have H0:=Ad h0;clear h0;go_wp2;have eb:=ez5.set_ 1 (u := .slice A5 1 c5) rfl
    have U:=Cj.set_ ez5.nodig 1 (.slice A5 1 c5);replace hx:=U.from_ hx Ac;have Hdd:=Ad (show BC _ _ _ from BC.kd Hd.out U.kd)
    go_roundw
    case rel=>exact⟨0,by go_num,Aa,.inr ⟨rfl,H0.out,A5,c5,eb,Hdd.out⟩,hx⟩
    case measure=>simp[intOf]<;>omega
 ·have hb:decide (n < 0)=false:=by simpa using hneg
  have Hw:=Ad (Wm (x:=n) Aa Aa);obtain⟨N,hN⟩:∃ N,N=n.natAbs:=⟨_,rfl⟩
  have HN:=Ad hN;have hNb:N < 4294967296:=by omega
  clear hN;go_wp2;obtain⟨W9,eW9,e9,x9⟩:=Be.made (w.alloc (.cells #[.bool false,.slice none 0 0] 26)) 26 #[.bool false,.slice none 0 0] (by simp[Ag]);rw[<-eW9];clear eW9;rw[World.size_alloc]at e9
  go_loopw [3] (fun uv wx=>∃ m:Nat,uv = .int .u64 m/\m < 4294967296/\((m=N/\Be wx (w.heap.size+1) 26 #[.bool false,.slice none 0 0])\/(m=0/\N≠0/\∃ A c,Be wx (w.heap.size+1) 26 #[.bool false,.slice A 1 c]/\BC wx (.slice A 1 c) [N]))/\Ext (w.alloc (.cells #[.bool false,.slice none 0 0] 26)) wx) (fun uv _=>(intOf uv).toNat)
  case atStart=>exact⟨N,by(congr 1;have h3:=HN.out;omega),hNb,.inl ⟨rfl,e9⟩,x9⟩
  case round =>
   clear e9 x9;obtain⟨m,rfl,hm,hst,hx⟩:=hrel;by_cases h0:m=0
   ·have hr:∃ A k c,Be wr (w.heap.size+1) 26 #[.bool false,.slice A k c]/\AC wr (.agg #[.bool false,.slice A k c]) n:=by
     rcases hst with⟨e,hb⟩ | ⟨_,hne,A,c,hb,hd⟩
     ·exact⟨_,_,_,hb,by have h3:=HN.out;(have e5:n=0:=by omega) ; rw[e5];exact AC.of_nil⟩
     ·exact⟨_,_,_,hb,AC.of_one hd hne (by have h3:=HN.out;(simp;omega))⟩
    obtain⟨A5,n5,c5,ez,hr⟩:=hr;have H0:=Ad h0;clear h0;have Hr:=Ad hr;clear hr hst;have hm0:¬ (0 < (m:Int)):=by have:=H0.out;omega
    have cez:=ez.cells2;have fez:=ez.frozen;have hx1:=hx;clear hx;have hc1:=hx1.cells;have hf1:=hx1.frozens;have Hfin:=Ad (Cr Hr.out hx1.a1 (AJ.at_ hx1 (g:=w.heap.size+0) Ac (by simp[Ag])) Aa);go_wp2;refine bodyPost_ret (v := .agg #[.bool false,.slice A5 n5 c5]) (by simp[results,Tryz.results58,go_sem,hc1]) rfl ?_;exact Hfin.out
   ·obtain⟨rfl,ez⟩:m=N/\Be wr (w.heap.size+1) 26 #[.bool false,.slice none 0 0]:=by
     rcases hst with⟨e,hb⟩ | ⟨e,_⟩
     ·exact⟨e,hb⟩
     ·exact absurd e h0
    have hm0:0 < m:=by omega
    have hsz:w.heap.size<=wr.heap.size:=hx.a1.size;clear hst;have cez:=ez.cells2;have fez:=ez.frozen
    go_wp2_with (at_builtin;refine AO rfl _ _ 24 rfl (.slice none 0 0) (.slice (some ⟨wr.heap.size,0,none⟩) 1 1) rfl rfl (Dh wr w.heap.size _ _ [] m _ _ (FE.nil _ _) (by first | rfl | omega) Ac hsz rfl) ?_)
    rintro v' w5 hown hg;have xa:Ext wr w5:=((Ext.refl wr).alloc _).grown hg (fun k hk=>by simp[Value.ownBlock]at hk);have hd:=hown.digv (AV.cons hm AV.nil);have hd2:=hd;obtain⟨A5,c5,rfl,-,-,-⟩:=hd2;clear hown hg;have ez5:=ez.ext xa;replace hx:=hx.trans xa;clear ez xa cez fez;have cez5:=ez5.cells2;have fez5:=ez5.frozen;have Hd:=Ad hd;clear hd;have H0:=Ad h0;clear h0;go_wp2;have eb:=ez5.set_ 1 (u := .slice A5 1 c5) rfl
    have U:=Cj.set_ ez5.nodig 1 (.slice A5 1 c5);replace hx:=U.from_ hx Ac;have Hdd:=Ad (show BC _ _ _ from BC.kd Hd.out U.kd)
    go_roundw
    case rel=>exact⟨0,by go_num,Aa,.inr ⟨rfl,H0.out,A5,c5,eb,Hdd.out⟩,hx⟩
    case measure=>simp[intOf]<;>omega
theorem lC(n:Int)(w:World)(h1 : -4294967296 < n)(h2:n < 4294967296):Bj 38 #[.int .i64 n] w (fun r w'=>BQ w' r (n:Rat)):=by
 go_enter Tryz.func38,Tryz.ntmps38
 go_wp2_with fail
 refine AR (kY n _ h1 h2) ?_;rintro r w1 hn hx1
 go_wp2_with fail
 refine AR (kY 1 _ Aa Aa) ?_;rintro r w2 h1' hx2;replace hn:=hn.ext hx2;replace hx1:=hx1.trans hx2;clear hx2;obtain⟨b5,A5,n5,c5,rfl⟩:=hn.cells;obtain⟨b6,A6,n6,c6,rfl⟩:=h1'.cells;have hr:=BQ.mk_ hn h1' (q:=(n:Rat)) rfl rfl;clear hn h1';have hc1:=hx1.cells;have hf1:=hx1.frozens;have Hfin:=Ad (Dm hr hx1.a1 (AJ.at_ hx1 (g:=w.heap.size+0) Ac (by simp[Ag])) Aa);clear hr;go_wp2;refine bodyPost_ret (v := .agg #[.bool b5,.slice A5 n5 c5,.bool b6,.slice A6 n6 c6]) (by simp[results,Tryz.results38,go_sem,hc1]) rfl ?_
 exact Hfin.out
theorem Sl(v:Value)(x:Int)(w:World)(hv:Bh w v x):Bj 174 #[v] w (fun r _=>∃ b:Nat,r = .int .i64 b/\BL x.natAbs b):=by
 obtain⟨neg,A,n,c,N,rfl,h1,h2,h3,hN,hx⟩:=hv.form;have HN:=Ad hN;clear hN hv;have Hx:=Ad (show x.natAbs=N by rw[hx];cases neg<;>simp);clear hx
 go_enter Tryz.func174,Tryz.ntmps174
 go_wp2_with fail
 refine AR (BD _ N n _ (HN.out.ext ((Ext.refl w).alloc _))) ?_;rintro r w1 hr hx1;obtain⟨ds,hd,hnv,ht,hl⟩:=hr.len;obtain⟨E,p1,rfl,hl1,hc1,hE⟩:=hd;have HX:=Ad (show x.natAbs=nv ds by rw[Hx.out,<-hnv]);have hx:=hx1.a1;have hm:ds.length<=1099511627776:=by rw[hl];exact Nat.le_trans HN.out.sz h3
 clear hx1 hr hl HN Hx hnv h1 h2 h3;rcases Nat.eq_zero_or_pos ds.length with h0 | h0
 ·have hb:(((ds.length:Nat):Int)==0)=true:=by rw[h0];rfl
  have:ds=[]:=List.eq_nil_of_length_eq_zero h0;clear h0;have Hd:=Ad this;clear this;go_wp2
  go_ret
  exact Ah.mk ⟨0,rfl,by rw[HX.out,Hd.out];exact BL.zero⟩ hx
 ·have hb:(((ds.length:Nat):Int)==0)=false:=beq_eq_false_iff_ne.2 Aa
  obtain⟨a,ha,hca⟩:=BI hE (k:=ds.length - 1) Aa;have x1:=AU hE.1 (ds.length - 1);have hd0:dg ds (ds.length - 1)≠0:=by
   rw[Dj Aa];have:=ht (List.ne_nil_of_length_pos h0);rwa[List.getLast_eq_getElem]at this
  obtain⟨d,hdd⟩:∃ d,d=dg ds (ds.length - 1):=⟨_,rfl⟩
  rw[<-hdd]at hca x1 hd0;obtain⟨q1,q2⟩:=Gl d d (Nat.le_refl _) Aa;have q3:=Wv hd0 x1 q1 (q2 hd0);have Hd:=Ad (Au hdd (Au ht (Au q1 q3)));clear hdd ht q1 q2 q3;have hbl:=Lib.bitLen_le d 32 Ab Aa;obtain⟨m,hmm⟩:∃ m,ds.length=m+1:=⟨ds.length - 1,Aa⟩
  rw[hmm]at hca hb hl1 hm ⊢;clear h0;have Hm:=Ad hmm;clear hmm;subst ha;rw[Nat.add_sub_cancel]at hca;clear hd0
  go_wp2_with (go_at_call 188;refine(O4 _ _ Aa Aa).mono ?_;rintro e w' ⟨rfl,rfl⟩;rw[Int.toNat_natCast])
  go_ret
  refine Ah.mk ⟨32*m+Lib.bitLen d,by congr 1,?_⟩ hx;have:=BL.top (ds:=ds) (j:=Lib.bitLen d) hE.1 (by have:=Hm.out;omega) (by rw[<-Hd.out.1];exact Hd.out.2.2.1) Hd.out.2.2.2.1 (by rw[<-Hd.out.1];exact Hd.out.2.2.2.2);rw[Hm.out,Nat.add_sub_cancel]at this;rw[HX.out];exact this
theorem bB(v u:Value)(x y:Int)(w:World)(hv:Bh w v x)(hu:Bh w u y):Bj 189 #[v,u] w (fun r _=>r = .int .i64 (x - y).sign):=by
 have HV:=Ad hv;have HU:=Ad hu;obtain⟨neg,A,n,c,N,rfl,h1,h2,h3,hN,hx⟩:=hv.form;obtain⟨neg',A',n',c',M,rfl,k1,k2,k3,kN,hy⟩:=hu.form;have HN:=Ad hN;have HM:=Ad kN;clear hN hv hu kN;have Hx:=Ad (show x.natAbs=N/\y.natAbs=M by rw[hx,hy];cases neg<;>cases neg'<;>simp);clear hx hy;have r1:=JK x;have r2:=JK y
 go_enter Tryz.func189,Tryz.ntmps189
 go_wp2;refine CV 4 [7,8,9,10] [2,3] [_,_] [(kv ?_),(kv (.int .i64 x.sign)),(kv ?_),(kv (.int .i64 y.sign))] (fun γ w'=>[True,True,True,True]) ?s1 ?_
 case s1 =>
  iterate 4 refine⟨?_,?_⟩
  trivial
  iterate 1 focus
   refine Ba fun _ w' he R hR=>?_;have hc:=he.cells;go_simp;exact Bi hR
  ·refine Ba fun _ w' he R hR=>?_
   go_simp;exact Jq (IQ _ x w' (HV.out.ext he.a2)) hR
  iterate 1 focus
   refine Ba fun _ w' he R hR=>?_;have hc:=he.cells;go_simp;exact Bi hR
  ·refine Ba fun _ w' he R hR=>?_
   go_simp;exact Jq (IQ _ y w' (HU.out.ext he.a2)) hR
 intro γ w1 hx1 hF;clear hF;simp only[Bd,Nat.reduceAdd];clear γ;by_cases hs:x.sign=y.sign
 ·have hb:(x.sign != y.sign)=false:=by simp[hs]
  have Hs:=Ad (Rz hs);clear hs;have ea:=((Be.new w 26 #[.bool neg,.slice A n c] (by simp[Ag])).alloc (.cells #[.bool neg',.slice A' n' c'] 26)).ext hx1;have eb:=(Be.new (w.alloc (.cells #[.bool neg,.slice A n c] 26)) 26 #[.bool neg',.slice A' n' c'] (by simp[Ag])).ext hx1;rw[World.size_alloc]at eb;have cea:=ea.cells2;have fea:=ea.frozen;have ceb:=eb.cells2;have feb:=eb.frozen
  go_wp2_with fail
  refine CV 8 [18,19,20,21,22,23,24,25] [5,2,3] [_,_,_] [(kv ?_),(kv ?_),(kv ?_),(fun γ=>γ 3),(kv ?_),(kv ?_),(fun γ=>γ 6),(kv (.int .i64 (cmp N M)))] (fun γ w'=>[True,True,True,Bl w' (γ 3) N,True,True,Bl w' (γ 6) M,True]) ?s2 ?_
  case s2 =>
   iterate 8 refine⟨?_,?_⟩
   trivial
   iterate 3 focus
    refine Ba fun _ w' he R hR=>?_;have hc:=he.cells;have cq0:=(ea.ext he).cells2;have cq1:=(eb.ext he).cells2;go_simp;exact Bi hR
   ·refine Ba fun _ w' he R hR=>?_
    go_simp;exact Bg (BD _ N n w' (HN.out.ext (hx1.a2.trans he))) hR
   iterate 2 focus
    refine Ba fun _ w' he R hR=>?_;have hc:=he.cells;have cq0:=(ea.ext he).cells2;have cq1:=(eb.ext he).cells2;go_simp;exact Bi hR
   ·refine Ba fun _ w' he R hR=>?_
    go_simp;exact Bg (BD _ M n' w' (HM.out.ext (hx1.a2.trans he))) hR
   ·refine FO fun γ w' he hf R hR=>?_;have f3:Bl w' (γ 3) N:=hf 3 Ab;have f6:Bl w' (γ 6) M:=hf 6 Ab;clear hf
    go_simp;exact Jq (LC _ _ N M w' f3 f6 (Nat.le_trans HN.out.sz Aa) (Nat.le_trans HM.out.sz Aa)) hR
  intro γ w2 hx2 hF;have p3:Bl w2 (γ 3) N:=Av.get hF 3 Ab;have p6:Bl w2 (γ 6) M:=Av.get hF 6 Ab;clear hF;simp only[Bd,Nat.reduceAdd];generalize γ 3=g3 at *;generalize γ 6=g6 at *;clear γ;have:=Hs.out;rw[Hx.out.1,Hx.out.2]at this;go_wp2
  go_ret
  have hr:=JK (x - y);have hw:wrap64 (x.sign*cmp N M)=(x - y).sign:=by
   rw[show x.sign*cmp N M=(x - y).sign from this];exact IntWalk.wrap64_in _ ⟨Aa,Aa⟩
  exact Ah.mk (by show Value.int .i64 (wrap64 (x.sign*cmp N M))=_;rw[hw]) (hx1.a2.trans hx2)
 ·have hb:(x.sign != y.sign)=true:=by simp[hs]
  have Hs:=Ad (Ty hs);clear hs
  go_wp2_with fail
  refine Calls.mono (Rk _ _ Aa Aa) ?_;rintro e w' ⟨rfl,rfl⟩;go_wp2
  go_ret
  exact Ah.mk (by rw[Hs.out];rfl) hx1.a2
set_option maxRecDepth 100000 in
theorem VY(x:Int)(w:World)(h0:0<=x)(h1:x < 65536) :
  Calls Tryz.prog 194 #[.int .u64 x] w fun e w'=>e = .returned (.int .i64 (Lib.bitLen x.toNat))/\w'=w:=by
 have ts:=Tryz.underlying9;by_cases c2:x < 256
 ·have c3:x<=255:=by omega
  go_enter Tryz.func194,Tryz.ntmps194
  go_wp2
  go_ret
  refine⟨Eu ?_,rfl⟩;have e:=Eg x h0 c3;show wrap64 (wrap64 (Lib.len8 x))=_;rw[e];have:=Lib.bitLen_le8' x h0 c3;exact IntWalk.wrap64_in _ ⟨Aa,Aa⟩
 ·have c3:x / 256<=255:=by omega
  have c4:0<=x / 256:=by omega
  go_enter Tryz.func194,Tryz.ntmps194
  go_wp2
  go_ret
  refine⟨Eu ?_,rfl⟩;show wrap64 (8+wrap64 (Lib.len8 (x / 256)))=_;have l:=Lib.bitLen_le8' (x / 256) c4 c3;have s:=Lib.bitLen_shift8 x.toNat Aa Aa;rw[Eg _ c4 c3,IntWalk.wrap64_in _ ⟨Aa,Aa⟩,s,show(x / 256).toNat=x.toNat / 256 from by omega];omega
theorem VZ(x:Nat)(w:World)(h:x < 65536) :
  Calls Tryz.prog 190 #[.int .u64 (x:Nat)] w fun e w'=>e = .returned (.int .i64 (Lib.bitLen x:Nat))/\w'=w:=by
 have hb:=Lib.bitLen_le x 16 Ab Aa
 go_enter Tryz.func190,Tryz.ntmps190
 go_wp2_with (go_at_call 194;refine(VY _ _ Aa Aa).mono ?_;rintro e w' ⟨rfl,rfl⟩;rw[Int.toNat_natCast])
 go_ret
 exact⟨rfl,rfl⟩
/-- zpoly.trimmed: without the zeros at the end,in place. -/
theorem Ed(base:Nat)(A:Option Addr)(c:Nat)(l:List Int)(w:World)(hl:l.length<=c)(hc:c<=9223372036854775807)(hA:LJ base w A l) :
  Calls Tryz.prog 119 #[.slice A l.length c] w fun e w'=>e = .returned (.slice A (BR (zq l)).length c)/\w=w':=by
 go_enter Tryz.func119,Tryz.ntmps119
 go_wp2
 go_loop [0] (fun v=>∃ m:Nat,m<=l.length/\v = .slice A m c/\∀ j,m<=j->(h:j < l.length)->l[j]=0) (fun v=>match v with | .slice _ m _=>m | _=>0)
 case atStart=>exact⟨l.length,Nat.le_refl _,rfl,fun j h1 h2=>Aa⟩
 case round =>
  obtain⟨m,hm,rfl,hz⟩:=hrel;by_cases h0:0 < m
  ·obtain⟨m,rfl⟩:∃ k,m=k+1:=⟨m - 1,Aa⟩
   obtain⟨g,o,b,A1,n,c1,rfl,hb,q0,q1,hq⟩:=hA.at_ (j:=m) Aa;have hn:=hq.two.1;by_cases hd0:l[m]'(Aa)=0
   ·have hb:(((n:Nat):Int)==0)=true:=by rw[hn,hd0];rfl
    clear hA hn;go_wp2
    go_round
    case rel=>exact⟨m,Aa,rfl,fun j h1 h2=>by
     rcases Nat.eq_or_lt_of_le h1 with e | e
     ·subst e;exact hd0
     ·exact hz j Aa h2⟩
    case measure=>simp
   ·have hb:(((n:Nat):Int)==0)=false:=by
     have:=DU (n:=l[m].natAbs) Aa;rw[<-hn]at this;simp;omega
    clear hA hn;go_wp2
    go_ret
    have hlen:=GQ hm hz (fun h _=>by simpa using hd0);exact⟨by rw[hlen];rfl,rfl⟩
  ·obtain rfl:m=0:=by omega
   go_wp2
   go_ret
   have hlen:=GQ hm hz (fun h hh=>Aa);exact⟨by rw[hlen];rfl,rfl⟩
theorem Ki:(Tryz.prog.info? 26).map (fun i=>(i.zero,i.size,i.bytes))=some (some (.agg #[.bool false,.slice none 0 0]),2,32):=by kernel_rfl
theorem Jg(n:Nat)(x:Int)(hx:x=n)(hn:n<=1099511627776)(w:World):∃ W,(Instr.makeSlice 23 (.int .i64 x) (.int .i64 x)).run Tryz.prog w = .ok (.slice (some ⟨w.heap.size,0,none⟩) n n) W/\Cn W w.heap.size 26 (List.replicate n 0)/\Ext w W:=by
 subst hx;obtain⟨i0,hi,hz0,hz1,hz2⟩:=info_parts Ki;have h:=run_make (P:=Tryz.prog) w 23 26 i0 (.agg #[.bool false,.slice none 0 0]) Tryz.underlying23 hi hz0 .i64 .i64 (n:Int) (n:Int) Aa Aa (by rw[hz2];omega) Aa;rw[h,hz1,Int.toNat_natCast];exact⟨_,rfl,Cn.new w _ n,(Ext.refl w).alloc _⟩
theorem Xq{la m:List Int}{k n:Nat}(h:la=m.take k ++ List.replicate (n - k) 0)(hk:k < n)(hm:m.length=n){q:Int}(hq:q=m[k]'(by omega)):la.set k q=m.take (k+1) ++ List.replicate (n - (k+1)) 0:=by
 subst h;have h1:(m.take k).length=k:=by simp;omega
 rw[List.set_append,if_neg (by rw[h1];omega),h1,Nat.sub_self,show n - k=(n - (k+1))+1 from Aa,List.replicate_succ,List.set_cons_zero,List.take_succ_eq_append_getElem Aa,hq,List.append_assoc];rfl
theorem EQ(v:Value)(l:List Int)(w:World)(hv:Ey 0 w v l)(hn:l.length<=1099511627776):Bj 84 #[v] w (fun r w'=>r = .slice (some ⟨w.heap.size,0,none⟩) (BR (zq l)).length l.length/\Cn w' w.heap.size 26 l):=by
 obtain⟨A,c,rfl,hl,hc,hA⟩:=hv;obtain⟨W0,hmk,ea,hx⟩:=Jg l.length (l.length:Int) rfl hn w;have HA:Hid (Lj 0 w A l):=Ad hA;clear hA
 go_enter Tryz.func84,Tryz.ntmps84
 go_wp2
 go_loopw [11] (fun iv wr=>∃ (k:Nat) (la:List Int),k<=l.length/\iv = .int .i64 k/\Cn wr w.heap.size 26 la/\la.length=l.length/\la=l.take k ++ List.replicate (l.length - k) 0/\Ext w wr) (fun iv _=>l.length - (intOf iv).toNat)
 case atStart=>exact⟨0,_,Nat.zero_le _,rfl,ea,Ac,Ac,hx⟩
 case round =>
  obtain⟨k,la,hk,rfl,ea,hlen,hla,hx⟩:=hrel;have Hla:=Ad hla;clear hla;have Hlen:=Ad hlen;clear hlen;by_cases hkl:k < l.length
  ·obtain⟨g,o,b,A1,n,c1,rfl,_,q0,q1,hq⟩:=HA.out.at_ (j:=k) hkl
   replace q0:=hx.cell q0;replace q1:=hx.cell q1;have Hq:=Ad hq;clear hq
   go_wp2_with fail
   refine AR (Iz _ _ _ (Hq.out.kd (hx.alloc _).kd)) ?_;rintro r w2 hr hx2;replace ea:=ea.ext hx2.a1;replace hx:=hx.trans hx2.a1;clear hx2 q0 q1;obtain⟨b5,A5,n5,c5,rfl⟩:=hr.cells;have hkla:k < la.length:=by have:=Hlen.out;omega
   obtain⟨_,_,_,_,ca0,ca1,-⟩:=ea.at_ (j:=k) (by first | omega | (simp;omega));have fa0:=ea.frozen (k*2);have fa1:=ea.frozen (k*2+1);go_wp2;obtain⟨W3,eW,ea',U⟩:=ea.put (k:=k) (by first | omega | (simp;omega)) hr;rw[<-eW];clear eW ea;replace hx:=U.from_ hx Ak;have ea:=ea';clear U ea'
   go_roundw
   case rel=>exact⟨k+1,_,Aa,by go_num,ea,by simpa using Hlen.out,Xq Hla.out hkl rfl rfl,hx⟩
   case measure=>simp[intOf];omega
  ·obtain rfl:k=l.length:=by omega
   replace ea:Cn wr w.heap.size 26 l:=by
    have:=Hla.out;rw[Nat.sub_self,List.replicate_zero,List.append_nil,List.take_of_length_le (Nat.le_refl _)]at this;rw[<-this];exact ea
   have hrow:=ea.row (Nat.le_refl _)
   go_wp2_with fail
   refine Calls.mono (Ed w.heap.size _ _ l _ (Nat.le_refl _) Aa hrow) ?_;rintro e w2 ⟨rfl,rfl⟩;go_wp2
   go_ret
   exact Ah.mk ⟨rfl,ea⟩ hx
theorem Ld(v:Value)(l:List Int)(w:World)(hv:Ey 0 w v l)(hn:l.length<=1099511627776):Bj 84 #[v] w (fun r w'=>AY w.heap.size w' r (cz l)):=
 Ah.imp (EQ v l w hv hn) fun _ _ ⟨e,h⟩=>by subst e;exact h.isZP rfl (Nat.le_refl _) (Nat.le_refl _) Aa
theorem aG(v u:Value)(x y:Int)(w:World)(hv:Bh w v x)(hu:Bh w u y):Bj 137 #[v,u] w (fun r w'=>AC w' r (x - y)):=by
 have Hv:=Ad hv;obtain⟨neg,A,n,c,N,rfl,h1,h2,h3,hN,hx⟩:=hv.form;obtain⟨neg',A',n',c',M,rfl,k1,k2,k3,kN,hy⟩:=hu.form;have HN:=Ad kN;clear hN hv hu kN hx;have hs:sz M<=n':=HN.out.sz;have Hy:=Ad (show x+(if (!neg')=true then -(M:Int)else M)=x - y by rw[hy];cases neg'<;>simp<;>omega);clear hy
 go_enter Tryz.func137,Tryz.ntmps137
 go_wp2_with fail
 refine CV 7 [5,6,7,8,9,10,11] [2,3] [_,_] [(kv ?_),(kv ?_),(kv ?_),(kv ?_),(kv ?_),(kv ?_),(fun γ=>γ 6)] (fun γ w'=>[True,True,True,True,True,True,Bl w' (γ 6) M]) ?s1 ?_
 case s1 =>
  iterate 7 refine⟨?_,?_⟩
  trivial
  iterate 6 focus
   refine Ba fun _ w' he R hR=>?_;have hc:=he.cells;go_simp;(try go_ints);(try(rw[if_neg Aa]));(try(rw[if_pos Aa]));(try go_simp);(try go_ints)
   exact Bi hR
  ·refine Ba fun _ w' he R hR=>?_
   go_simp;exact Bg (BD _ M n' w' (HN.out.ext he.a3)) hR
 intro γ w1 hx1 hF;have p6:Bl w1 (γ 6) M:=Av.get hF 6 Ab;clear hF;simp only[Bd,Nat.reduceAdd];generalize γ 6=g6 at *;clear γ
 go_wp2_with fail
 refine AR (YA _ _ (!neg') x M w1 (Hv.out.ext hx1.a3) p6 Aa) ?_;rintro r w2 hr hx2;rw[Hy.out]at hr;obtain⟨b,A2,n2,c2,rfl⟩:=hr.cells;replace hx1:=hx1.trans hx2;have hc1:=hx1.cells;have hf1:=hx1.frozens;have Hfin:=Ad (Cr hr hx1.a3 (AJ.at_ hx1 (g:=w.heap.size+2) Ac (by simp[Ag])) Aa);clear hr p6;go_wp2;refine bodyPost_ret (v := .agg #[.bool b,.slice A2 n2 c2]) (by simp[results,Tryz.results137,go_sem,hc1]) rfl ?_
 exact Hfin.out
theorem Wy(v u:Value)(x a:Int)(gb:Nat)(b:Bool)(A:Option Addr)(n c:Nat)(w:World)(hv:Bh w v x)(hu:Bh w u 0)(h0:w.cell? ⟨gb,0,none⟩=some (.bool b))(h1:w.cell? ⟨gb,1,none⟩=some (.slice A n c))(ha:Bh w (.agg #[.bool b,.slice A n c]) a) :
  Bj 146 #[v,u,.pointer (some ⟨gb,0,none⟩)] w (fun r w'=>AC w' r (x*a)):=by
 have HV:=Ad hv;have HA:=Ad ha;obtain⟨b1,A1,n1,c1,rfl⟩:=hv.cells;obtain⟨b2,A2,n2,c2,rfl⟩:=hu.cells;clear hv hu ha;have k0:=fun o o' o''=>((((Ext.refl w).alloc o).alloc o').alloc o'').cell h0;have k1:=fun o o' o''=>((((Ext.refl w).alloc o).alloc o').alloc o'').cell h1;clear h0 h1
 go_enter Tryz.func146,Tryz.ntmps146
 go_wp2_with fail
 refine AR (Dr _ _ x a _ (HV.out.ext ((((Ext.refl w).alloc _).alloc _).alloc _)) (HA.out.ext ((((Ext.refl w).alloc _).alloc _).alloc _))) ?_;rintro r w1 hr hx1;obtain⟨b5,A5,n5,c5,rfl⟩:=hr.cells;have hc1:=hx1.cells;have hf1:=hx1.frozens;have Hfin:=Ad (Cr hr hx1.a3 (AJ.at_ hx1 (g:=w.heap.size+2) Ac (by simp[Ag])) Aa);clear hr;go_wp2;refine bodyPost_ret (v := .agg #[.bool b5,.slice A5 n5 c5]) (by simp[results,Tryz.results146,go_sem,hc1]) rfl ?_
 exact Hfin.out
set_option maxRecDepth 20000 in
theorem Qd(v:Value)(l:List Int)(a:Int)(gb:Nat)(bb0:Bool)(B0:Option Addr)(m0 d0:Nat)(w:World)(hv:Ey 0 w v l)(k0:w.cell? ⟨gb,0,none⟩=some (.bool bb0))(k1:w.cell? ⟨gb,1,none⟩=some (.slice B0 m0 d0))(ha:Bh w (.agg #[.bool bb0,.slice B0 m0 d0]) a)(hn:l.length<=1099511627776) :
  Bj 145 #[v,.slice none 0 0,.func (.func 146) #[] #[.pointer (some ⟨gb,0,none⟩)]] w (fun r w'=>AY w.heap.size w' r (psc (a:Rat) (cz l))):=by
 obtain⟨A,c,rfl,hl,hc,hA⟩:=hv;obtain⟨N,hN⟩:∃ N,N=l.length:=⟨_,rfl⟩
 obtain⟨W0,hmk,ea,hx⟩:=Jg N (l.length:Int) Aa Aa w;have hlN:l.length<=N:=by omega
 have hN40:N<=1099511627776:=by omega
 have HN:=Ad hN;clear hN;have HA:Hid (Lj 0 w A l):=Ad hA;clear hA;have HC:=Ad (Au k0 (Au k1 ha));clear k0 k1 ha;obtain⟨F,hF⟩:∃ F:Nat->Rat,F=psc (a:Rat) (cz l):=⟨_,rfl⟩
 rw[<-hF];have HZ:=Ad (show ZI F/\Bq N F from⟨by rw[hF];exact(ZI.cz l).psc a,by rw[hF];exact((Ct l).mono hlN).psc _⟩);have HF:=Ad hF;clear hF;have HL:=Ad (Bb N F)
 go_enter Tryz.func145,Tryz.ntmps145
 go_wp2
 go_loopw [19] (fun iv wr=>∃ (k:Nat) (la:List Int),k<=N/\iv = .int .i64 k/\Cn wr w.heap.size 26 la/\la.length=N/\la=(DF N F).take k ++ List.replicate (N - k) 0/\Ext w wr) (fun iv _=>N - (intOf iv).toNat)
 case atStart=>exact⟨0,_,Nat.zero_le _,rfl,ea,Ac,Ac,hx⟩
 case round =>
  obtain⟨k,la,hk,rfl,ea,hlen,hla,hx⟩:=hrel;have Hla:=Ad hla;clear hla;have Hlen:=Ad hlen;clear hlen;have hbk:k < N\/k=N:=by omega
  rcases hbk with hkl | hkl
  ·have hk1:k < l.length:=by have:=HN.out;omega
   have hk2:¬ (k:Int) < 0:=by omega
   obtain⟨g,o,b,A1,n,c1,rfl,_,q0,q1,hq⟩:=HA.out.at_ (j:=k) hk1;replace q0:=fun o o'=>(((Ext.refl wr).alloc o).alloc o').cell (hx.cell q0);replace q1:=fun o o'=>(((Ext.refl wr).alloc o).alloc o').cell (hx.cell q1);have Hq:=Ad hq;clear hq
   go_wp2_with fail
   refine AR (Wy _ _ l[k] a gb bb0 B0 m0 d0 _ (Hq.out.ext ((hx.alloc _).alloc _)) (Bh.zero _) (((hx.alloc _).alloc _).cell HC.out.1) (((hx.alloc _).alloc _).cell HC.out.2.1) (HC.out.2.2.ext ((hx.alloc _).alloc _))) ?_;rintro r w2 hr hx2;replace ea:=ea.ext hx2.a2;replace hx:=hx.trans hx2.a2;clear hx2;obtain⟨b5,A5,n5,c5,rfl⟩:=hr.cells;have hkla:k < la.length:=by have:=Hlen.out;omega
   obtain⟨_,_,_,_,ca0,ca1,-⟩:=ea.at_ (j:=k) (by first | omega | (simp;omega));have fa0:=ea.frozen (k*2);have fa1:=ea.frozen (k*2+1);go_wp2;obtain⟨W3,eW,ea',U⟩:=ea.put (k:=k) (by first | omega | (simp;omega)) hr;rw[<-eW];clear eW ea;replace hx:=U.from_ hx Ak;have ea:=ea';clear U ea'
   go_roundw
   case rel=>exact⟨k+1,_,Aa,by go_num,ea,by simpa using Hlen.out,Xq Hla.out hkl HL.out (by rw[Cc,HF.out];show _=((a:Rat)*cz l k).num;rw[Cb hk1,num_mul,Int.mul_comm]),hx⟩
   case measure=>simp[intOf];omega
  ·obtain rfl:N=k:=hkl.symm
   replace ea:Cn wr w.heap.size 26 (DF N F):=by
    have:=Hla.out;rw[Nat.sub_self,List.replicate_zero,List.append_nil,List.take_of_length_le (by rw[HL.out];omega)]at this;rw[<-this];exact ea
   have hrow:=ea.row (Nat.le_refl _);have hT:=Ed w.heap.size (some ⟨w.heap.size,0,none⟩) N (DF N F) wr (by rw[HL.out];omega) Aa hrow;rw[HL.out]at hT;have Hrow:=Ad hrow;clear hrow
   go_wp2_with fail
   refine Calls.mono hT ?_;rintro e w2 ⟨rfl,rfl⟩;go_wp2
   go_ret
   exact Ah.mk (AY.of_trim (LZ.trim Hrow.out (by rw[HL.out];omega)) (Ia HZ.out.1 HZ.out.2)) hx
theorem QP(v u:Value)(l:List Int)(a:Int)(w:World)(hv:Ey 0 w v l)(hu:Bh w u a)(hn:l.length<=1099511627776) :
  Bj 96 #[v,u] w (fun r w'=>AY w.heap.size w' r (psc (a:Rat) (cz l))):=by
 have HV:=Ad hv;have HU:=Ad hu;obtain⟨A,c,rfl⟩:=hv.len;obtain⟨b1,A1,n1,c1,rfl⟩:=hu.cells;clear hv hu;have hb:=Be.new w 26 #[.bool b1,.slice A1 n1 c1] (by simp[Ag]);have HB:=Ad hb.cells2;clear hb
 go_enter Tryz.func96,Tryz.ntmps96
 go_wp2_with fail
 refine AR (Qd _ l a w.heap.size b1 A1 n1 c1 _ (HV.out.ext ((Ext.refl w).alloc _)) HB.out.1 HB.out.2 (HU.out.ext ((Ext.refl w).alloc _)) hn) ?_;rintro r w1 hr hx1;go_wp2
 go_ret
 exact Ah.mk (hr.base_le Ac) hx1.a1
theorem Qm(v:Value)(base:Nat)(F:Nat->Rat)(w:World)(hv:AY base w v F)(h0:F≠pz):Bj 87 #[v] w (fun r w'=>AC w' r (ld F).num):=by
 have hp:=AQ hv.fin h0;obtain⟨A,c,l,rfl,k1,k2,hA,k3,k4,k5⟩:=hv.form;obtain⟨g,o,b,A1,n,c1,rfl,_,q0,q1,hq⟩:=hA.at_ (j:=pl F - 1) Aa;have hl:l[pl F - 1]'(by omega)=(ld F).num:=by
  have h1:=congrFun k5 (pl F - 1);rw[Cb (show pl F - 1 < l.length by omega)]at h1;show _=(F (pl F - 1)).num;rw[<-h1];rfl
 rw[hl]at hq;have Hq:=Ad hq;clear hq hA hl k4 k5 hv;have x0:=(Ext.refl w).alloc (.cells #[.bool false,.slice none 0 0] 26);replace q0:=x0.cell q0;replace q1:=x0.cell q1
 go_enter Tryz.func87,Tryz.ntmps87
 go_wp2;have ez:=Be.new w 26 #[.bool b,.slice A1 n c1] (by simp[Ag]);have x1:=(Ext.refl w).alloc (.cells #[.bool b,.slice A1 n c1] 26);have hz:=Hq.out.kd x1.kd;have cez:=ez.cells2;have fez:=ez.frozen;refine bodyPost_ret (v := .agg #[.bool b,.slice A1 n c1]) (by simp[results,Tryz.results87,go_sem,cez]) rfl ?_;exact Ah.mk hz x1
theorem JP(v:Value)(l:List Int)(w:World)(hv:Ey 0 w v l)(hn:l.length<=1099511627776):Bj 94 #[v] w (fun r w'=>AC w' r (cn (cz l):Nat)):=by
 have hsz:=fun i=>Ql hv.sz Aa i;obtain⟨A,c,rfl,hl,hc,hA⟩:=hv;have HA:Hid (Lj 0 w A l):=Ad hA;clear hA;have HS:=Ad hsz;clear hsz;rw[iK (Ct l)]
 go_enter Tryz.func94,Tryz.ntmps94
 go_wp2
 go_loopw [8] (fun iv wr=>∃ k:Nat,k<=l.length/\iv = .int .i64 k/\Be wr w.heap.size 26 #[.bool false,.slice none 0 0]/\BA wr (w.heap.size+1) 26 (ct k (cz l):Nat)/\Ext w wr) (fun iv _=>l.length - (intOf iv).toNat)
 case atStart=>exact⟨0,Nat.zero_le _,rfl,(Be.new w _ _ (by simp[Ag])).alloc _,BA.zero (by have:=Be.new (w.alloc (.cells #[.bool false,.slice none 0 0] 26)) 26 #[.bool false,.slice none 0 0] (by simp[Ag]);rw[World.size_alloc]at this;exact this),((Ext.refl w).alloc _).alloc _⟩
 case round =>
  obtain⟨k,hk,rfl,ea,⟨b,B,bn,bc,eb,hb⟩,hx⟩:=hrel;have Hb:=Ad hb;clear hb;by_cases hkl:k < l.length
  ·obtain⟨g,o,b1,A1,n,c1,rfl,_,q0,q1,hq⟩:=HA.out.at_ (j:=k) hkl
   replace q0:=hx.cell q0;replace q1:=hx.cell q1;have Hq:=Ad (hq.kd hx.kd);clear hq;have hsk:=JC HS.out k;have HK:=Ad hsk;clear hsk;have xa:=fun o=>(Ext.refl wr).alloc o;have ceb:=eb.cells2;obtain⟨r0,r1⟩:=ceb;replace r0:=fun o=>(xa o).cell r0;replace r1:=fun o=>(xa o).cell r1;clear xa
   go_wp2_with fail
   refine AR (Un _ _ (ct k (cz l):Nat) l[k] _ ((Hb.out.kd ((Ext.refl _).alloc _).kd).has (by have:=HK.out;simp;omega)) (Hq.out.kd ((Ext.refl _).alloc _).kd)) ?_;rintro r w2 hr hx2;have e1:Int.gcd (ct k (cz l):Nat) l[k]=ct (k+1) (cz l):=by rw[Ha,Cb hkl];rfl
   rw[e1]at hr;obtain⟨b5,A5,n5,c5,rfl⟩:=hr.cells;replace ea:=ea.ext hx2.a1;replace eb:=eb.ext hx2.a1;replace hx:=hx.trans hx2.a1;clear hx2 q0 q1 r0 r1 e1 HK Hb Hq;obtain⟨ceb0,ceb1⟩:=eb.cells2;have feb:=eb.frozen;go_wp2;obtain⟨W3,eW,eb',U⟩:=eb.put2 (.bool b5) (.slice A5 n5 c5);rw[<-eW];clear eW eb;replace hr:=hr.kd U.kd;replace ea:=ea.upd U Ak;replace hx:=U.from_ hx Ak;have eb:=eb';clear U eb'
   go_roundw
   case rel=>exact⟨k+1,Aa,by go_num,ea,BA.mk eb hr,hx⟩
   case measure=>simp[intOf];omega
  ·obtain rfl:k=l.length:=by omega
   have cea:=ea.cells2;have fea:=ea.frozen;obtain⟨ceb0,ceb1⟩:=eb.cells2;have feb:=eb.frozen;go_wp2;have hr:=Hb.out;obtain⟨W3,eW,ea',U⟩:=ea.put2 (.bool b) (.slice B bn bc);rw[<-eW];clear eW ea;replace hr:=hr.kd U.kd;replace hx:=U.from_ hx Ak;have ea:=ea';clear U ea';clear cea;have cea:=ea.cells2;have fea:=ea.frozen;refine bodyPost_ret (v := .agg #[.bool b,.slice B bn bc]) (by simp[results,Tryz.results94,go_sem,cea]) rfl ?_
   exact Ah.mk hr hx
set_option maxRecDepth 20000 in
theorem Fp(v:Value)(l:List Int)(w:World)(hv:Ey 0 w v l)(hn:l.length<=1099511627776):Bj 85 #[v] w (fun r w'=>AY w.heap.size w' r (pp (cz l))):=by
 have hsz:=fun i=>Ql hv.sz Aa i;have HV:=Ad hv;obtain⟨A0,c0,rfl⟩:=hv.len;have hfin:=Ae.cz l;have hzi:=ZI.cz l;have hpl:=BX (Ct l);obtain⟨F,hF⟩:∃ F,F=cz l:=⟨_,rfl⟩
 have hNorm:=Ld _ l w HV.out hn;rw[<-hF]at hsz hfin hzi hNorm hpl;rw[<-hF];have HX:=Ad (Au hsz (Au hfin hzi));clear hsz hfin hzi HV hv hF;have HN:=Ad hNorm;clear hNorm
 go_enter Tryz.func85,Tryz.ntmps85
 go_wp2_with fail
 refine AR HN.out ?_;rintro r1 w1 hr1 hx1;have Hr1:=Ad hr1;obtain⟨A,c,l1,rfl,k1,k2,hA,k3,k4,k5⟩:=hr1.form;obtain⟨l2,h21,h22,-,h24⟩:=hr1.hz HX.out.1;have H2:=Ad (Au h21 (Au h22 h24));clear h21 h22 h24;have HA:=Ad (Au hA (Au k3 k5));clear hr1 hA k3 k4 k5 HN;have hpl40:pl F<=1099511627776:=by omega
 go_wp2_with fail
 refine AR (JP _ l2 _ H2.out.1 (by have:=H2.out.2.1;omega)) ?_;rintro r2 w2 hr2 hx2;rw[H2.out.2.2]at hr2;obtain⟨b5,A5,n5,c5,rfl⟩:=hr2.cells;have hs1:=hx1.size;have hs2:=hx2.size;obtain⟨W0,eW,eb,x0⟩:=Be.made w2 26 #[.bool b5,.slice A5 n5 c5] (by simp[Ag]);replace hr2:=hr2.kd x0.kd;replace hx2:=hx2.trans x0;by_cases hp:0 < pl F
 ·obtain⟨g,o,b,A1,n,c1,rfl,_,q0,q1,hq⟩:=HA.out.1.at_ (j:=pl F - 1) (by have:=HA.out.2.1;omega)
  have hbb:=hq.two.2;have hld:ld F=(l1[pl F - 1]'(by have:=HA.out.2.1;omega):Rat):=by rw[<-Cb,HA.out.2.2];rfl
  have hpc:pcn F=if b=true then -(cn F:Int)else cn F:=by
   unfold pcn;rw[hld,hbb];by_cases hneg:l1[pl F - 1]'(by have:=HA.out.2.1;omega) < 0
   ·rw[if_pos (by exact_mod_cast hneg),if_pos (by simpa using hneg)]
   ·rw[if_neg (fun h=>hneg (by exact_mod_cast h)),if_neg (by simpa using hneg)]
  have Hpc:=Ad hpc;clear hpc hld hbb hq q1;replace q0:=hx2.cell q0;subst eW;clear x0
  go_upto_if 22 with(fail)
  generalize w2.alloc (.cells #[.bool b5,.slice A5 n5 c5] 26)=W0 at *;generalize w2.heap.size=gb at *
  go_cut [] (fun wx=>BA wx gb 26 (pcn F)/\Ext w1 wx)
  case first =>
   have ceb:=eb.cells2;have feb:=eb.frozen;cases b with
   | true =>
    have hcz:sz ((cn F:Nat):Int).natAbs<=1099511627776:=by have:=JC HX.out.1 (pl F);simpa[cn] using this
    have Hr2:=Ad (hr2.has hcz);clear hcz hr2
    go_wp2_with fail
    refine AR (TW _ (cn F:Nat) _ Hr2.out) ?_;rintro r3 w3 hr3 hx3;obtain⟨b6,A6,n6,c6,rfl⟩:=hr3.cells;replace eb:=eb.ext hx3;replace hx2:=hx2.trans hx3;clear ceb feb hx3 q0;have ceb:=eb.cells2;have feb:=eb.frozen;go_wp2;obtain⟨W3,eW,eb',U⟩:=eb.put2 (.bool b6) (.slice A6 n6 c6);rw[<-eW];clear eW eb;replace hr3:=hr3.kd U.kd;replace hx2:=U.from_ hx2 Ak;have eb:=eb';clear U eb'
    go_meet
    case rel=>exact⟨by have:=Hpc.out;simp at this;rw[this];exact BA.mk eb hr3,hx2⟩
   | false =>
    have Hr2:=Ad hr2;clear hr2;go_wp2
    go_meet
    case rel=>exact⟨by have:=Hpc.out;simp at this;rw[this];exact BA.mk eb Hr2.out,hx2⟩
  case rest =>
   clear q0 eb hr2 hx2;obtain⟨⟨b,B,bn,bc,eb,hb⟩,hx2⟩:=hcut;have hbc:=eb.lt;have hsc:=hx2.size;have hf0:F≠pz:=fun e=>by rw[e,BJ]at hp;omega
   have hppl:=DR HX.out.2.2 HX.out.2.1;have HB:=Ad (Au hb (Au hf0 hppl));clear hb hf0 hppl;obtain⟨m,hm⟩:∃ m,m=DF (pl F) (pp F):=⟨_,rfl⟩
   have hml:m.length=pl F:=by rw[hm,Bb]
   have HM:=Ad (Au hm hml);clear hm hml;obtain⟨W0,hmk,ea,hxa⟩:=Jg (pl F) (pl F:Int) rfl hpl40 wc;replace eb:=eb.ext hxa;replace hx2:=hx2.trans hxa;have HB':=Ad (HB.out.1.kd hxa.kd);generalize wc.heap.size=ga at *;go_wp2;clear hmk hxa
   go_loopw [30] (fun iv wr=>∃ (k:Nat) (la:List Int),k<=pl F/\iv = .int .i64 k/\Cn wr ga 26 la/\la.length=pl F/\la=m.take k ++ List.replicate (pl F - k) 0/\Be wr gb 26 #[.bool b,.slice B bn bc]/\AC wr (.agg #[.bool b,.slice B bn bc]) (pcn F)/\Ext w1 wr) (fun iv _=>pl F - (intOf iv).toNat)
   case atStart=>exact⟨0,_,Nat.zero_le _,rfl,ea,Ac,Ac,eb,HB'.out,hx2⟩
   case round =>
    clear hx2 ea eb HB';obtain⟨k,la,hk,rfl,ea,hlen,hla,eb,hb,hx2⟩:=hrel;have Hla:=Ad hla;clear hla;have Hlen:=Ad hlen;clear hlen;by_cases hkl:k < pl F
    ·have hkl1:k < l1.length:=by have:=HA.out.2.1;omega
     obtain⟨g',o',b1,B1,n1,d1,hgo,_,q0,q1,hq⟩:=HA.out.1.at_ (j:=k) hkl1;simp only[Option.some.injEq,Addr.mk.injEq,and_true]at hgo;obtain⟨rfl,rfl⟩:=hgo;replace q0:=hx2.cell q0;replace q1:=hx2.cell q1;have hFk:F k=(l1[k]:Rat):=by rw[<-HA.out.2.2,Cb hkl1]
     have hqz:sz l1[k].natAbs<=1099511627776:=by have:=HX.out.1 k;rw[hFk,Bz]at this;omega
     have hdv:pcn F∣l1[k]:=by have:=J5 HX.out.2.1 k;rw[hFk]at this;exact this
     have hpz:=Ew HX.out.2.2 HX.out.2.1 HB.out.2.1;have hps:sz (pcn F).natAbs<=1099511627776:=by rw[Fj];exact JC HX.out.1 (pl F)
     have hval:m[k]'(by rw[HM.out.2];exact hkl)=l1[k] / pcn F:=by
      simp only[HM.out.1,Cc];rw[NG HX.out.2.2 HX.out.2.1 HB.out.2.1,hFk];rfl
     have Hq:=Ad (Au ((hq.has hqz).kd hx2.kd) (Au (hb.has hps) (Au hdv (Au hpz hval))));clear hq hqz hdv hpz hps hval hFk;have xa:=fun o=>(Ext.refl wr).alloc o;obtain⟨r0,r1⟩:=eb.cells2;replace r0:=fun o=>(xa o).cell r0;replace r1:=fun o=>(xa o).cell r1;have Hb:=Ad hb;clear xa hb
     go_wp2_with fail
     refine AR (I8 _ _ l1[k] (pcn F) _ (Hq.out.1.kd ((Ext.refl _).alloc _).kd) (Hq.out.2.1.kd ((Ext.refl _).alloc _).kd) Hq.out.2.2.2.1 Hq.out.2.2.1) ?_;rintro r w3 ⟨a,rfl,hr⟩ hx3;obtain⟨b6,A6,n6,c6,rfl⟩:=hr.cells;replace ea:=ea.ext hx3.a1;replace eb:=eb.ext hx3.a1;have Hb':=Ad (Hb.out.kd hx3.a1.kd);replace hx2:=hx2.trans hx3.a1;clear hx3 q0 q1 r0 r1 Hb;have hkla:k < la.length:=by have:=Hlen.out;omega
     obtain⟨_,_,_,_,ca0,ca1,-⟩:=ea.at_ (j:=k) (by first | omega | (simp;omega));have fa0:=ea.frozen (k*2);have fa1:=ea.frozen (k*2+1);go_wp2;have hb:=Hb'.out;obtain⟨W3,eW,ea',U⟩:=ea.put (k:=k) (by first | omega | (simp;omega)) hr;rw[<-eW];clear eW ea;replace hb:=hb.kd U.kd;replace eb:=eb.upd U Ak;replace hx2:=U.from_ hx2 Ak;have ea:=ea';clear U ea'
     go_roundw
     case rel=>exact⟨k+1,_,Aa,by go_num,ea,by simpa using Hlen.out,Xq Hla.out hkl HM.out.2 Hq.out.2.2.2.2.symm,eb,hb,hx2⟩
     case measure=>simp[intOf];omega
    ·obtain rfl:k=pl F:=by omega
     have hla:=Hla.out;rw[Nat.sub_self,List.replicate_zero,List.append_nil,List.take_of_length_le (by rw[HM.out.2];exact Nat.le_refl _),HM.out.1]at hla;have hw:AY w.heap.size wr (.slice (some ⟨ga,0,none⟩) (pl F) (pl F)) (pp F):=by
      have h1:=Cn.whole (base:=w.heap.size) (G:=pp F) (c:=pl F) (by rw[HB.out.2.2,<-hla];exact ea) (II HX.out.2.2 HX.out.2.1) (Db HX.out.2.1) Aa (by rw[HB.out.2.2];exact Nat.le_refl _) Aa;rw[HB.out.2.2]at h1;exact h1
     have Hw:=Ad hw;clear hw hla;go_wp2
     go_ret
     exact Ah.mk Hw.out (hx1.trans hx2)
 ·have hp0:pl F=0:=by omega
  have hpz:=(BF HX.out.2.1).1 hp0;have Hz:=Ad (Au hpz hp0);clear hpz;have hb:decide ((0:Int) < (pl F:Int))=false:=by simp;omega
  obtain⟨W1,hmk,ea,hxa⟩:=Jg (pl F) (pl F:Int) rfl hpl40 W0;subst eW;clear x0 hp0;go_wp2;clear hmk
  go_loopw [30] (fun iv wr=>iv = .int .i64 0/\Ext w1 wr) (fun iv _=>0)
  case atStart=>exact⟨rfl,hx2.trans hxa⟩
  case round =>
   clear hx2;obtain⟨rfl,hx2⟩:=hrel;have hb2:¬ (0:Int) < (pl F:Int):=by omega
   go_wp2
   go_ret
   rw[Hz.out.1,IR,BJ];exact Ah.mk (AY.empty _ _ _ _ Aa) (hx1.trans hx2)
set_option maxRecDepth 40000 in
theorem eT(v u:Value)(l m:List Int)(s t:Nat)(w:World)(hv:Ey 0 w v l)(hu:Ey 0 w u m)(hs:∀ i,qsz (cz l i)<=s)(ht:∀ i,qsz (cz m i)<=t)(hn:l.length<=549755813888)(hm:m.length<=549755813888)(h0:cz m≠pz)(hst:s+(l.length+1)*(t+1)+t<=1099511627776) :
  Bj 95 #[v,u] w ((aH w.heap.size (Gr (cz l) (cz m) (pl (cz l)+1 - pl (cz m))) (D6 (cz l) (cz m) (pl (cz l)+1 - pl (cz m))))):=by
 have HV:=Ad hv;have HU:=Ad hu;obtain⟨A0,c0,rfl⟩:=hv.len;obtain⟨A1,c1,rfl⟩:=hu.len;clear hv hu;have hN1:=EQ _ l w HV.out Aa;rw[Gt]at hN1;have hN2:=fun W (x:Ext w W)=>EQ _ m W (HU.out.ext x) Aa;simp only[Gt]at hN2;have hc1:=BX (Ct l);have hc2:=BX (Ct m);have hfF:=Ae.cz l;have hzF:=ZI.cz l;have hfG:=Ae.cz m;have hzG:=ZI.cz m;have hL:=AQ hfG h0;have ht1:=KC l;have ht2:=KC m;obtain⟨F,hF⟩:∃ F,F=cz l:=⟨_,rfl⟩
 obtain⟨G,hG⟩:∃ G,G=cz m:=⟨_,rfl⟩
 rw[<-hF]at hN1 hs hc1 hfF hzF ht1;rw[<-hG]at hc2 hfG hzG hL ht h0 ht2;simp only[<-hG]at hN2;rw[<-hF,<-hG];obtain⟨P,hP⟩:∃ P,P=pl F:=⟨_,rfl⟩
 obtain⟨L,hLe⟩:∃ L,L=pl G:=⟨_,rfl⟩
 obtain⟨K,hK⟩:∃ K,K=pl F+1 - pl G:=⟨_,rfl⟩
 have HB:=Ad (show(∀ k i,k<=K->sz (D6 F G k i).num.natAbs<=1099511627776)/\(∀ k i,k<=K->sz (psc (ld G) (D6 F G k) i).num.natAbs<=1099511627776)/\(∀ k i j,k<=K->sz ((D6 F G k i).num*(G j).num).natAbs<=1099511627776)/\(∀ k i,k<=K->pl G<=pl F->sz (Gr F G k i).num.natAbs<=1099511627776)/\sz (ld G).num.natAbs<=1099511627776/\(∀ j,sz (G j).num.natAbs<=1099511627776) by
  have key:∀ k,k<=K->k*(t+1)<=(l.length+1)*(t+1):=fun k hk=>Nat.mul_le_mul_right _ Aa;have g1:∀ j,sz (G j).num.natAbs<=t:=fun j=>Nat.le_trans (FK _) (ht j);have g2:sz (ld G).num.natAbs<=t:=g1 _;refine⟨fun k i hk=>?_,fun k i hk=>?_,fun k i j hk=>?_,fun k i hk hle=>?_,Aa,fun j=>by have:=g1 j;omega⟩
  ·have a1:=FX hzF hzG hs ht k i;have a2:=FK (D6 F G k i);have a3:=key k hk;omega
  ·have a1:=FX hzF hzG hs ht k i;have a2:=FK (D6 F G k i);have a3:=key k hk
   rw[Pw (EI hzF hzG k) hzG];have a4:=Ji a2 g2;omega
  ·have a1:=FX hzF hzG hs ht k i;have a2:=FK (D6 F G k i);have a3:=key k hk
   have a4:=Ji a2 (g1 j);omega
  ·have a1:=TZ hzF hzG hs ht hle k Aa i;have a2:=FK (Gr F G k i);have a3:=key k hk;omega)
 have HX:=Ad (Au hfF (Au hzF (Au hfG (Au hzG (Au h0 (Au hF hG))))));have HP:=Ad (Au hP (Au hLe hK));rw[<-hP]at hc1 hN1 ht1;rw[<-hLe]at hc2 hL ht2;simp only[<-hLe]at hN2;have HN1:=Ad hN1;have HN2:=Ad hN2;have HT:=Ad (Au ht1 ht2);have hKe:K=P+1 - L:=by rw[hP,hLe];exact hK
 clear hs ht hst hfF hzF hfG hzG h0 hF hG hP hLe hK ht1 ht2 hN1 hN2;rw[<-HP.out.2.2];have hb1:((L:Int)==0)=false:=by simpa using(show L≠0 by omega)
 go_enter Tryz.func95,Tryz.ntmps95
 go_wp2_with fail
 refine AR HN1.out ?_;rintro r1 w1 ⟨rfl,er⟩ hx;have hg1:=er.lt
 go_wp2_with fail
 refine AR (HN2.out w1 hx) ?_;rintro r2 w2 ⟨rfl,eg⟩ hx2;have hg2:=eg.lt;replace er:=er.ext hx2;replace hx:=hx.trans hx2;clear hx2;by_cases hlt:P < L
 ·have hK0:K=0:=by omega
  have Hr:=Ad (show AY w.heap.size w2 (.slice (some ⟨w.heap.size,0,none⟩) P l.length) F by
   have h1:=er.isZP (F:=F) HX.out.2.2.2.2.2.1.symm (Nat.le_refl _) (c:=l.length) (Nat.le_refl _) Aa;rw[Gt,<-HX.out.2.2.2.2.2.1,<-HP.out.1]at h1;exact h1)
  have hb2:decide ((P:Int) < L)=true:=by simpa using hlt
  clear er eg hKe;go_wp2
  go_ret3
  rw[hK0];exact Ah.mk ⟨_,_,rfl,AY.nil _ _,Hr.out⟩ hx
 ·have hb2:decide ((P:Int) < L)=false:=by simpa using hlt
  have hK1:P+1=K+L:=by omega
  have hKp:0 < K:=by omega
  have HK:=Ad hK1;replace er:=er.pre P;rw[HT.out.1]at er;replace eg:=eg.pre L;rw[HT.out.2]at eg;obtain⟨W0,hmk,eq,hxq⟩:=Jg K ((P:Int) - L+1) Aa Aa w2;replace er:=er.ext hxq;replace eg:=eg.ext hxq;replace hx:=hx.trans hxq;have hg3:=eq.lt;rw[<-UB]at eq;have hK40:K<=1099511627776:=by omega
  clear hK1 hKe;generalize hgG:w1.heap.size=gG at *;generalize hgq:w2.heap.size=gq at *;go_wp2;clear hmk hxq
  go_loopw [7] (fun iv wr=>∃ k:Nat,k<=K/\iv = .int .i64 ((K:Int) - 1 - k)/\Cn wr w.heap.size 26 (DF P (D6 F G k))/\Cn wr gq 26 (DF K (Gr F G k))/\Cn wr gG 26 (DF L G)/\Ext w wr) (fun iv _=>(intOf iv+1).toNat)
  case atStart=>exact⟨0,Nat.zero_le _,by go_num,er,eq,eg,hx⟩
  case round =>
   clear er eq eg hx;obtain⟨k,hk,rfl,er,eq,eg,hx⟩:=hrel;by_cases hkl:k < K
   ·obtain⟨i,hi⟩:∃ i,i=K - 1 - k:=⟨_,rfl⟩
    have hii:(K:Int) - 1 - k=(i:Int):=by omega
    rw[hii];have hik:i < K:=by omega
    have HI:=Ad (show i=pl F - pl G - k/\i+L - 1=pl F - 1 - k/\(i:Int) - 1=(K:Int) - 1 - (k+1:Nat)/\i+L<=P/\i+k < pl F+1 - pl G/\pl G<=pl F by
     have h1:=HK.out;have h2:=HP.out.1;have h3:=HP.out.2.1;refine⟨?_,?_,?_,?_,?_,?_⟩<;>omega)
    clear hi hii;have hiL:i+L - 1 < P:=by have:=HI.out.2.2.2.1;omega
    obtain⟨z0,Z0,zn0,zc0,cr0,cr1,hzc⟩:=er.at_ (j:=i+L - 1) (by rw[Bb];exact hiL);rw[Cc]at hzc;have hgc:=eq.lt;have hLP:((i:Int)+L - 1).toNat=i+L - 1:=by omega
    go_wp2_with fail
    obtain⟨W8,eW8,e8,x8⟩:=Be.made wr 26 #[.bool z0,.slice Z0 zn0 zc0] (by simp[Ag]);rw[<-eW8];clear eW8 cr0 cr1 hLP;have ec:=BA.mk e8 (hzc.kd x8.kd);replace er:=er.ext x8;replace eq:=eq.ext x8;replace eg:=eg.ext x8;replace hx:=hx.trans x8;clear x8;clear hzc e8;generalize wr.heap.size=gc at *;generalize hcv:(D6 F G k (i+L - 1)).num=cv at *;have HC:=Ad (show cv=(D6 F G k (pl F - 1 - k)).num/\sz cv.natAbs<=1099511627776/\∀ j,sz (cv*(G j).num).natAbs<=1099511627776 by
     subst hcv;exact⟨by rw[HI.out.2.1],HB.out.1 _ _ hk,fun j=>HB.out.2.2.1 _ _ j hk⟩)
    clear hcv hiL
    go_loopw [50] (fun jv wx=>∃ j:Nat,j<=P/\jv = .int .i64 j/\Cn wx w.heap.size 26 (DF P (mx j (psc (ld G) (D6 F G k)) (D6 F G k)))/\Cn wx gq 26 (DF K (Gr F G k))/\Cn wx gG 26 (DF L G)/\BA wx gc 26 cv/\Ext w wx) (fun jv _=>P - (intOf jv).toNat)
    case atStart=>exact⟨0,Nat.zero_le _,rfl,by rw[Ui];exact er,eq,eg,ec,hx⟩
    case round =>
     clear er eq eg ec hx;obtain⟨j,hj,rfl,er,eq,eg,ec,hx⟩:=hrel;by_cases hjl:j < P
     ·obtain⟨z1,Z1,zn1,zc1,ca0,ca1,hz⟩:=er.at_ (j:=j) (by rw[Bb];exact hjl)
      rw[Cc,Xo]at hz;have Hz:=Ad (Au hz (show AY w.heap.size _ (.slice (some ⟨gG,0,none⟩) L m.length) G by
       have h1:=eg;have h2:=HP.out.2.1;rw[h2]at h1;rw[h2];exact h1.whole HX.out.2.2.2.1 HX.out.2.2.1 Aa Aa Aa))
      clear hz
      go_wp2_with fail
      refine CV 9 [53,54,55,56,57,58,59,60,61] [5,9,1] [_,_,_] [(kv ?_),(kv ?_),(kv ?_),(kv ?_),(kv ?_),(kv ?_),(kv ?_),(fun γ=>γ 7),(fun γ=>γ 8)] (fun γ w'=>[True,True,True,True,True,True,True,AC w' (γ 7) (ld G).num,AC w' (γ 8) ((D6 F G k j).num*(ld G).num)]) ?s1 ?_
      case s1 =>
       iterate 9 refine⟨?_,?_⟩
       trivial
       iterate 7 focus
        refine Ba fun _ w' he R hR=>?_;have hc:=he.cells;have cq0:=he.cell ca0;have cq1:=he.cell ca1;go_simp;(try go_ints);(try(rw[if_neg Aa]));(try(rw[if_pos Aa]));(try go_simp);(try go_ints)
        exact Bi hR
       ·refine Ba fun _ w' he R hR=>?_
        go_simp;exact Bg (Qm _ w.heap.size G w' (Hz.out.2.ext he) HX.out.2.2.2.2.1) hR
       ·refine FO fun γ w' he hf R hR=>?_;have f7:AC w' (γ 7) (ld G).num:=hf 7 Ab;clear hf
        go_simp;exact Bg (Dr _ _ _ _ w' ((Hz.out.1.kd he.kd).has (HB.out.1 _ _ hk)) (f7.has HB.out.2.2.2.2.1)) hR
      intro γ w6 hx6 hF;have p7:AC w6 (γ 7) (ld G).num:=Av.get hF 7 Ab;have p8:AC w6 (γ 8) ((D6 F G k j).num*(ld G).num):=Av.get hF 8 Ab;clear hF;simp only[Bd,Nat.reduceAdd];generalize γ 7=g7 at *;generalize γ 8=g8 at *;clear γ;clear p7 Hz ca0 ca1;replace er:=er.ext hx6;replace eq:=eq.ext hx6;replace eg:=eg.ext hx6;replace ec:=ec.ext hx6;replace hx:=hx.trans hx6;clear hx6;obtain⟨b5,A5,n5,c5,rfl⟩:=p8.cells
      have hkf:j < (DF P (mx j (psc (ld G) (D6 F G k)) (D6 F G k))).length:=by rw[Bb];exact hjl
      have Hkf:=Ad hkf;obtain⟨_,_,_,_,ca0,ca1,-⟩:=er.at_ (j:=j) (by first | omega | (simp;omega));have fa0:=er.frozen (j*2);have fa1:=er.frozen (j*2+1);clear hkf;go_wp2;have hkf:=Hkf.out;obtain⟨W7,eW,er',U⟩:=er.put (k:=j) (by first | omega | (simp;omega)) p8;rw[<-eW];clear eW er;replace eq:=eq.upd U Ak;replace eg:=eg.upd U Ak;replace ec:=ec.upd U Ak;replace hx:=U.from_ hx Ak;have er:=er';clear U er'
      go_roundw
      case rel=>exact⟨j+1,Aa,by go_num,by
       rw[<-Pw (EI HX.out.2.1 HX.out.2.2.2.1 k) HX.out.2.2.2.1,S9]at er;exact er,eq,eg,ec,hx⟩
      case measure=>simp[intOf];omega
     ·obtain rfl:P=j:=by omega
      rw[Wt (Nat.le_refl _)]at er;go_wp2
      go_loopw [66] (fun jv wx=>∃ j:Nat,j<=K/\jv = .int .i64 j/\Cn wx w.heap.size 26 (DF P (psc (ld G) (D6 F G k)))/\Cn wx gq 26 (DF K (mx j (psc (ld G) (Gr F G k)) (Gr F G k)))/\Cn wx gG 26 (DF L G)/\BA wx gc 26 cv/\Ext w wx) (fun jv _=>K - (intOf jv).toNat)
      case atStart=>exact⟨0,Nat.zero_le _,rfl,er,by rw[Ui];exact eq,eg,ec,hx⟩
      case round =>
       clear er eq eg ec hx hjl hj;obtain⟨j,hj,rfl,er,eq,eg,ec,hx⟩:=hrel;by_cases hjl:j < K
       ·obtain⟨z1,Z1,zn1,zc1,ca0,ca1,hz⟩:=eq.at_ (j:=j) (by rw[Bb];exact hjl)
        rw[Cc,Xo]at hz;have Hz:=Ad (Au hz (show AY w.heap.size _ (.slice (some ⟨gG,0,none⟩) L m.length) G by
         have h1:=eg;have h2:=HP.out.2.1;rw[h2]at h1;rw[h2];exact h1.whole HX.out.2.2.2.1 HX.out.2.2.1 Aa Aa Aa))
        clear hz
        go_wp2_with fail
        refine CV 9 [69,70,71,72,73,74,75,76,77] [4,10,1] [_,_,_] [(kv ?_),(kv ?_),(kv ?_),(kv ?_),(kv ?_),(kv ?_),(kv ?_),(fun γ=>γ 7),(fun γ=>γ 8)] (fun γ w'=>[True,True,True,True,True,True,True,AC w' (γ 7) (ld G).num,AC w' (γ 8) ((Gr F G k j).num*(ld G).num)]) ?s2 ?_
        case s2 =>
         iterate 9 refine⟨?_,?_⟩
         trivial
         iterate 7 focus
          refine Ba fun _ w' he R hR=>?_;have hc:=he.cells;have cq0:=he.cell ca0;have cq1:=he.cell ca1;go_simp;(try go_ints);(try(rw[if_neg Aa]));(try(rw[if_pos Aa]));(try go_simp);(try go_ints)
          exact Bi hR
         ·refine Ba fun _ w' he R hR=>?_
          go_simp;exact Bg (Qm _ w.heap.size G w' (Hz.out.2.ext he) HX.out.2.2.2.2.1) hR
         ·refine FO fun γ w' he hf R hR=>?_;have f7:AC w' (γ 7) (ld G).num:=hf 7 Ab;clear hf
          go_simp;exact Bg (Dr _ _ _ _ w' ((Hz.out.1.kd he.kd).has (HB.out.2.2.2.1 _ _ hk HI.out.2.2.2.2.2)) (f7.has HB.out.2.2.2.2.1)) hR
        intro γ w6 hx6 hF;have p7:AC w6 (γ 7) (ld G).num:=Av.get hF 7 Ab;have p8:AC w6 (γ 8) ((Gr F G k j).num*(ld G).num):=Av.get hF 8 Ab;clear hF;simp only[Bd,Nat.reduceAdd];generalize γ 7=g7 at *;generalize γ 8=g8 at *;clear γ;clear p7 Hz ca0 ca1;replace er:=er.ext hx6;replace eq:=eq.ext hx6;replace eg:=eg.ext hx6;replace ec:=ec.ext hx6;replace hx:=hx.trans hx6;clear hx6;obtain⟨b5,A5,n5,c5,rfl⟩:=p8.cells
        have hkf:j < (DF K (mx j (psc (ld G) (Gr F G k)) (Gr F G k))).length:=by rw[Bb];exact hjl
        have Hkf:=Ad hkf;obtain⟨_,_,_,_,ca0,ca1,-⟩:=eq.at_ (j:=j) (by first | omega | (simp;omega));have fa0:=eq.frozen (j*2);have fa1:=eq.frozen (j*2+1);clear hkf;go_wp2;have hkf:=Hkf.out;obtain⟨W7,eW,eq',U⟩:=eq.put (k:=j) (by first | omega | (simp;omega)) p8;rw[<-eW];clear eW eq;replace er:=er.upd U Ak;replace eg:=eg.upd U Ak;replace ec:=ec.upd U Ak;replace hx:=U.from_ hx Ak;have eq:=eq';clear U eq'
        go_roundw
        case rel=>exact⟨j+1,Aa,by go_num,er,by
         rw[<-Pw (Sr HX.out.2.1 HX.out.2.2.2.1 k) HX.out.2.2.2.1,S9]at eq;exact eq,eg,ec,hx⟩
        case measure=>simp[intOf];omega
       ·obtain rfl:K=j:=by omega
        rw[Wt (Nat.le_refl _)]at eq;obtain⟨b,B,bn,bc,e8,hb⟩:=ec;have Hb:=Ad hb;clear hb;have ce8:=e8.cells2;have fe8:=e8.frozen
        go_wp2_with fail
        refine AR (Iz _ _ _ (Hb.out.has HC.out.2.1)) ?_;rintro r w3 hr hx3;have hb:=Hb.out.kd hx3.kd;clear ce8 fe8 Hb;replace er:=er.ext hx3;replace eq:=eq.ext hx3;replace eg:=eg.ext hx3;replace e8:=e8.ext hx3;replace hx:=hx.trans hx3;clear hx3;obtain⟨b5,A5,n5,c5,rfl⟩:=hr.cells;have hkf:i < (DF K (psc (ld G) (Gr F G k))).length:=by rw[Bb];exact hik
        have Hkf:=Ad hkf;have Hb:=Ad hb;clear hb;obtain⟨_,_,_,_,ca0,ca1,-⟩:=eq.at_ (j:=i) (by first | omega | (simp;omega));have fa0:=eq.frozen (i*2);have fa1:=eq.frozen (i*2+1);clear hkf;go_wp2;have hkf:=Hkf.out;have hb:=Hb.out;obtain⟨W7,eW,eq',U⟩:=eq.put (k:=i) (by first | omega | (simp;omega)) hr;rw[<-eW];clear eW eq;replace hb:=hb.kd U.kd;replace er:=er.upd U Ak;replace eg:=eg.upd U Ak;replace e8:=e8.upd U Ak
        replace hx:=U.from_ hx Ak;have eq:=eq';clear U eq';rw[P8 (G:=Gr F G (k+1)) (fun n=>by rw[Xb HI.out.1 ((Je HI.out.2.2.2.2.2 k (by have:=HI.out.2.2.2.2.1;omega)).2 i HI.out.2.2.2.2.1),HC.out.1])]at eq;have ec:=BA.mk e8 hb;clear e8 hb Hb Hkf hkf
        go_loopw [87] (fun jv wx=>∃ j:Nat,j<=L/\jv = .int .i64 j/\Cn wx w.heap.size 26 (DF P (mx (i+j) (D6 F G (k+1)) (psc (ld G) (D6 F G k))))/\Cn wx gq 26 (DF K (Gr F G (k+1)))/\Cn wx gG 26 (DF L G)/\BA wx gc 26 cv/\Ext w wx) (fun jv _=>L - (intOf jv).toNat)
        case atStart=>exact⟨0,Nat.zero_le _,rfl,by rw[Nat.add_zero,ZQ (fun n hn=>YM HI.out.1 hn)];exact er,eq,eg,ec,hx⟩
        case round =>
         clear er eq eg ec hx hj hjl;obtain⟨j,hj,rfl,er,eq,eg,ec,hx⟩:=hrel;by_cases hjl:j < L
         ·obtain⟨y1,Y1,yn1,yc1,q0,q1,hy⟩:=eg.at_ (j:=j) (by rw[Bb];exact hjl)
          rw[Cc]at hy;have Hy:=Ad hy;clear hy;have hne:=ec.lt;have hne2:=eq.lt
          go_wp2_with fail
          obtain⟨W10,eW10,e10,x10⟩:=Be.made wr 26 #[.bool y1,.slice Y1 yn1 yc1] (by simp[Ag]);rw[<-eW10];clear eW10 q0 q1;have hy:=Hy.out.kd x10.kd;replace er:=er.ext x10;replace eq:=eq.ext x10;replace eg:=eg.ext x10;replace ec:=ec.ext x10;replace hx:=hx.trans x10;clear x10;obtain⟨b,B,bn,bc,e8,hb⟩:=ec;have hij:i+j < P:=by have:=HI.out.2.2.2.1;omega
          obtain⟨z1,Z1,zn1,zc1,ca0,ca1,hz⟩:=er.at_ (j:=i+j) (by rw[Bb];exact hij);rw[Cc,Xo]at hz;have Hz:=Ad (Au hz (Au hb hy));clear hz hb hy Hy;have ce8:=e8.cells2;have fe8:=e8.frozen;have ce10:=e10.cells2;have fe10:=e10.frozen
          go_wp2_with fail
          refine CV 14 [92,93,94,95,96,97,98,99,100,101,102,103,104,105] [5,7,11,8,12] [_,_,_,_,_] [(kv ?_),(kv ?_),(kv ?_),(kv ?_),(kv ?_),(kv ?_),(kv ?_),(kv ?_),(kv ?_),(kv ?_),(kv ?_),(kv ?_),(fun γ=>γ 12),(fun γ=>γ 13)] (fun γ w'=>[True,True,True,True,True,True,True,True,True,True,True,True,AC w' (γ 12) (cv*(G j).num),AC w' (γ 13) ((psc (ld G) (D6 F G k) (i+j)).num - cv*(G j).num)]) ?s3 ?_
          case s3 =>
           iterate 14 refine⟨?_,?_⟩
           trivial
           iterate 12 focus
            refine Ba fun _ w' he R hR=>?_;have hc:=he.cells;have cq0:=he.cell ca0;have cq1:=he.cell ca1;have cq2:=(e8.ext he).cells2;have cq3:=(e10.ext he).cells2;go_simp;(try go_ints);(try(rw[if_neg Aa]));(try(rw[if_pos Aa]));(try go_simp);(try go_ints)
            exact Bi hR
           ·refine Ba fun _ w' he R hR=>?_
            go_simp;exact Bg (Dr _ _ _ _ w' ((Hz.out.2.1.kd he.kd).has HC.out.2.1) ((Hz.out.2.2.kd he.kd).has (HB.out.2.2.2.2.2 _))) hR
           ·refine FO fun γ w' he hf R hR=>?_;have f12:AC w' (γ 12) (cv*(G j).num):=hf 12 Ab;clear hf
            go_simp;exact Bg (aG _ _ _ _ w' ((Hz.out.1.kd he.kd).has (HB.out.2.1 _ _ hk)) (f12.has (HC.out.2.2 j))) hR
          intro γ w6 hx6 hF;have p12:AC w6 (γ 12) (cv*(G j).num):=Av.get hF 12 Ab;have p13:AC w6 (γ 13) ((psc (ld G) (D6 F G k) (i+j)).num - cv*(G j).num):=Av.get hF 13 Ab;clear hF;simp only[Bd,Nat.reduceAdd];generalize γ 12=g12 at *;generalize γ 13=g13 at *;clear γ;have hb:=Hz.out.2.1.kd hx6.kd;clear p12 Hz ca0 ca1 ce8 fe8 ce10 fe10 e10;replace er:=er.ext hx6;replace eq:=eq.ext hx6;replace eg:=eg.ext hx6
          replace e8:=e8.ext hx6;replace hx:=hx.trans hx6;clear hx6;obtain⟨b5,A5,n5,c5,rfl⟩:=p13.cells;have hkf:i+j < (DF P (mx (i+j) (D6 F G (k+1)) (psc (ld G) (D6 F G k)))).length:=by rw[Bb];exact hij
          have Hkf:=Ad hkf;have Hb:=Ad hb;clear hb;obtain⟨_,_,_,_,ca0,ca1,-⟩:=er.at_ (j:=i+j) (by first | omega | (simp;omega));have fa0:=er.frozen ((i+j)*2);have fa1:=er.frozen ((i+j)*2+1);clear hkf;go_wp2;have hkf:=Hkf.out;have hb:=Hb.out;obtain⟨W9,eW,er',U⟩:=er.put (k:=i+j) (by first | omega | (simp;omega)) p13;rw[<-eW];clear eW er;replace hb:=hb.kd U.kd;replace eq:=eq.upd U Ak;replace eg:=eg.upd U Ak
          replace e8:=e8.upd U Ak;replace hx:=U.from_ hx Ak;have er:=er';clear U er'
          go_roundw
          case rel=>exact⟨j+1,Aa,by go_num,by
           rw[HC.out.1,<-XX HX.out.2.1 HX.out.2.2.2.1 HI.out.1,S9]at er;exact er,eq,eg,BA.mk e8 hb,hx⟩
          case measure=>simp[intOf];omega
         ·obtain rfl:L=j:=by omega
          rw[Zi (fun n hn=>Xw HX.out.2.2.1 HI.out.1 (by rw[<-HP.out.2.1];exact hn))]at er;go_wp2
          go_roundw
          case rel =>
           have hi1:=HI.out.2.2.1;exact⟨k+1,Aa,by rw[<-hi1],er,eq,eg,hx⟩
          case measure=>simp[intOf]
   ·obtain rfl:K=k:=by omega
    have hm1:(K:Int) - 1 - K = -1:=by omega
    rw[hm1];have hT1:=Ed w.heap.size (some ⟨gq,0,none⟩) K (DF K (Gr F G K)) wr (by rw[Bb];exact Nat.le_refl _) Aa (eq.row Aa);have hT2:=Ed w.heap.size (some ⟨w.heap.size,0,none⟩) l.length (DF P (D6 F G K)) wr (by rw[Bb];exact hc1) Aa (er.row (Nat.le_refl _));rw[Bb]at hT1 hT2;have HE:=Ad (Au (eq.row (base:=w.heap.size) Aa) (er.row (Nat.le_refl _)));clear er eq eg hm1
    go_wp2_with fail
    refine Calls.mono hT1 ?_;rintro e w3 ⟨rfl,rfl⟩
    go_wp2_with fail
    refine Calls.mono hT2 ?_;rintro e w3 ⟨rfl,rfl⟩;go_wp2
    go_ret3
    have hPG:pl G<=pl F:=by have:=HP.out;omega
    exact Ah.mk ⟨_,_,rfl,AY.of_trim (LZ.trim HE.out.1 (by rw[Bb];exact Nat.le_refl _) Aa) (Ia (Sr HX.out.2.1 HX.out.2.2.2.1 _) (by have h1:=(Je hPG K (by rw[HP.out.2.2];exact Nat.le_refl _)).1;rw[<-HP.out.2.2]at h1;exact h1)),AY.of_trim (LZ.trim HE.out.2 (by rw[Bb];exact hc1) Aa) (Ia (EI HX.out.2.1 HX.out.2.2.2.1 _) (by have h1:=JW HX.out.1 HX.out.2.2.1 HX.out.2.2.2.2.1 K (by rw[HP.out.2.2];exact Nat.le_refl _);exact h1.mono (by rw[<-HP.out.1];omega)))⟩ hx
theorem Xc(v u:Value)(x y:Int)(w:World)(hv:Bh w v x)(hu:Bh w u y)(h0:y≠0)(hd:¬ y∣x):Bj 86 #[v,u] w (fun r w'=>F5 w' r 0 6):=by
 have Hv:=Ad hv;have Hu:=Ad hu;obtain⟨neg,A,n,c,N,rfl,h1,h2,h3,hN,hx⟩:=hv.form;obtain⟨neg',A',n',c',M,rfl,k1,k2,k3,kN,hy⟩:=hu.form;clear hN hx hv hu kN hy;have hz:x % y≠0:=fun e=>hd (Int.dvd_of_emod_eq_zero e);have hp:0 < sz (x % y).natAbs:=Nat.pos_of_ne_zero fun e=>hz (by have:=(Ef (n:=(x % y).natAbs) (k:=0)).1 Aa;rw[Jb]at this;omega);have H0:=Ad (Au h0 hp);clear h0 hd hz hp
 go_enter Tryz.func86,Tryz.ntmps86
 go_wp2_with fail
 refine AR (Kv _ _ x y _ (Hv.out.ext ((((Ext.refl w).alloc _).alloc _).alloc _)) (Hu.out.ext ((((Ext.refl w).alloc _).alloc _).alloc _))) ?_;rintro r w1 ⟨q,m,rfl,hq,hm⟩ hx1;rw[if_neg H0.out.1]at hm;rw[if_neg H0.out.1];obtain⟨b,A1,n1,c1,rfl⟩:=hq.cells;obtain⟨A2,c2,rfl,-⟩:=hm.form;obtain⟨n2,hn2⟩:∃ n2,n2=sz (x % y).natAbs:=⟨_,rfl⟩
 rw[<-hn2];have hn0:0 < n2:=by have:=H0.out.2;omega
 obtain⟨bb,hbb⟩:∃ bb,bb=decide (x % y < 0):=⟨_,rfl⟩
 rw[<-hbb];clear hq hm hn2 hbb;have hx2:=(hx1.alloc (Obj.cells #[Value.bool b,Value.slice A1 n1 c1] 26)).alloc (Obj.cells #[Value.bool bb,Value.slice A2 n2 c2] 26);have hc2:=hx2.cells;have hf2:=hx2.frozens;have Hfin:=Ad (Cr (Kb ((w1.alloc (Obj.cells #[Value.bool b,Value.slice A1 n1 c1] 26)).alloc (Obj.cells #[Value.bool bb,Value.slice A2 n2 c2] 26))) hx2.a3 (AJ.at_ hx2 (g:=w.heap.size+1+1) Ac (by simp[Ag])) Aa)
 have hc1:=hx1.cells;have hf1:=hx1.frozens;go_wp2;refine bodyPost_ret (v := .tuple #[.agg #[.bool false,.slice none 0 0],.int .i64 6]) (by simp[results,Tryz.results86,go_sem,hc2]) rfl ?_;obtain⟨r,e,hr,hx⟩:=Hfin.out;cases e;exact Ah.mk ⟨_,rfl,hr⟩ hx
theorem Zr(v u:Value)(x y:Int)(w:World)(hv:Bh w v x)(hu:Bh w u y)(h0:y≠0)(hd:y∣x):Bj 86 #[v,u] w (fun r w'=>F5 w' r (x / y) 0):=I8 v u x y w hv hu h0 hd
set_option maxRecDepth 20000 in
theorem Vs(v u:Value)(l m:List Int)(s t:Nat)(w:World)(hv:Ey 0 w v l)(hu:Ey 0 w u m)(hs:∀ i,qsz (cz l i)<=s)(ht:∀ i,qsz (cz m i)<=t)(hn:l.length<=549755813888)(hm:m.length<=549755813888)(h0:cz m≠pz)(hst:s+(l.length+2)*(t+1)+t<=1099511627776) :
  Bj 88 #[v,u] w ((aW w.heap.size (cz l) (cz m))):=by
 have HV:=Ad hv;have HU:=Ad hu;obtain⟨A0,c0,rfl⟩:=hv.len;obtain⟨A1,c1,rfl⟩:=hu.len;clear hv hu;have hN1:=EQ _ l w HV.out Aa;rw[Gt]at hN1;have hN2:=fun W (x:Ext w W)=>EQ _ m W (HU.out.ext x) Aa;simp only[Gt]at hN2;have hc1:=BX (Ct l);have hc2:=BX (Ct m);have hfF:=Ae.cz l;have hzF:=ZI.cz l;have hfG:=Ae.cz m;have hzG:=ZI.cz m;have hL:=AQ hfG h0;have ht1:=KC l;have ht2:=KC m;obtain⟨F,hF⟩:∃ F,F=cz l:=⟨_,rfl⟩
 obtain⟨G,hG⟩:∃ G,G=cz m:=⟨_,rfl⟩
 rw[<-hF]at hN1 hs hc1 hfF hzF ht1;rw[<-hG]at hc2 hfG hzG hL ht h0 ht2;simp only[<-hG]at hN2;rw[<-hF,<-hG];obtain⟨P,hP⟩:∃ P,P=pl F:=⟨_,rfl⟩
 obtain⟨L,hLe⟩:∃ L,L=pl G:=⟨_,rfl⟩
 obtain⟨K,hK⟩:∃ K,K=pl F+1 - pl G:=⟨_,rfl⟩
 have HB:=Ad (show(∀ k,k<=K->∀ q,q<=s+k*(t+1)->q<=1099511627776/\q+t<=1099511627776)/\sz (ld G).num.natAbs<=1099511627776/\(∀ j,sz (G j).num.natAbs<=t)/\t<=1099511627776 by
  have key:∀ k,k<=K->k*(t+1)<=(l.length+2)*(t+1):=fun k hk=>Nat.mul_le_mul_right _ Aa;have g1:∀ j,sz (G j).num.natAbs<=t:=fun j=>Nat.le_trans (FK _) (ht j);have g2:sz (ld G).num.natAbs<=t:=g1 _;exact⟨fun k hk q hq=>by have:=key k hk;omega,Aa,g1,Aa⟩)
 have HX:=Ad (Au hfF (Au hzF (Au hfG (Au hzG (Au h0 (Au hF (Au hG (Au hs ht))))))));have HP:=Ad (Au hP (Au hLe hK));rw[<-hP]at hc1 hN1 ht1;rw[<-hLe]at hc2 hL ht2;simp only[<-hLe]at hN2;have HN1:=Ad hN1;have HN2:=Ad hN2;have HT:=Ad (Au ht1 ht2);have hKe:K=P+1 - L:=by rw[hP,hLe];exact hK
 clear hs ht hst hfF hzF hfG hzG h0 hF hG hP hLe hK ht1 ht2 hN1 hN2;have hb1:((L:Int)==0)=false:=by simpa using(show L≠0 by omega)
 go_enter Tryz.func88,Tryz.ntmps88
 go_wp2_with fail
 refine AR HN1.out ?_;rintro r1 w1 ⟨rfl,er⟩ hx;have hg1:=er.lt
 go_wp2_with fail
 refine AR (HN2.out w1 hx) ?_;rintro r2 w2 ⟨rfl,eg⟩ hx2;have hg2:=eg.lt;replace er:=er.ext hx2;replace hx:=hx.trans hx2;clear hx2;have hK1:P+1<=K+L/\(0 < K->P+1=K+L):=by omega
 have HK:=Ad hK1;replace er:=er.pre P;rw[HT.out.1]at er;replace eg:=eg.pre L;rw[HT.out.2]at eg;obtain⟨W0,hmk,eq,hxq⟩:=Jg K (max ((P:Int) - L+1) 0) Aa Aa w2;replace er:=er.ext hxq;replace eg:=eg.ext hxq;replace hx:=hx.trans hxq;have hg3:=eq.lt;rw[<-UB]at eq;have hK40:K<=1099511627776:=by omega
 clear hK1 hKe;have hst0:Ff F G K s t K pz F:=Ff.start ((AB HX.out.1).mono (by have:=HK.out;have:=HP.out;omega)) HX.out.2.1 HX.out.2.2.2.2.2.2.2.1;have HS0:=Ad hst0;clear hst0;generalize hgG:w1.heap.size=gG at *;generalize hgq:w2.heap.size=gq at *;go_wp2;clear hmk hxq
 go_loopw [8] (fun iv wr=>∃ (i:Nat) (Q R:Nat->Rat),i<=K/\iv = .int .i64 ((i:Int) - 1)/\Cn wr w.heap.size 26 (DF P R)/\Cn wr gq 26 (DF K Q)/\Cn wr gG 26 (DF L G)/\Ff F G K s t i Q R/\Bq P R/\Ext w wr) (fun iv _=>(intOf iv+1).toNat)
 case atStart=>exact⟨K,pz,F,Nat.le_refl _,by go_num,er,eq,eg,HS0.out,by rw[HP.out.1];exact AB HX.out.1,hx⟩
 case round =>
  clear er eq eg hx;obtain⟨i,Q,R,hi,rfl,er,eq,eg,hst,hsP,hx⟩:=hrel;have HR:=Ad hst;have HSP:=Ad hsP;clear hst hsP;by_cases hi0:0 < i
  ·obtain⟨k,rfl⟩:∃ k,i=k+1:=⟨i - 1,Aa⟩
   have hii:((k+1:Nat):Int) - 1=(k:Int):=by omega
   rw[hii];clear hii hi0;have hkK:k < K:=by omega
   have hkP:k+L<=P:=by have:=HK.out.2;omega
   have hkL:k+L - 1 < P:=by omega
   obtain⟨z0,Z0,zn0,zc0,cr0,cr1,hzc⟩:=er.at_ (j:=k+L - 1) (by rw[Bb];exact hkL);rw[Cc]at hzc;have hLP:((k:Int)+L - 1).toNat=k+L - 1:=by omega
   have HQ:=Ad (show(∀ n,sz (R n).num.natAbs<=1099511627776)/\(ld G).num≠0/\R (k+L - 1)=R (k+pl G - 1)from by
    refine⟨fun n=>?_,fun e=>?_,by rw[HP.out.2.1]⟩
    ·have h1:=HR.out.2.2.2.2.2.2 n
     have h2:=HB.out.1 _ (show K - (k+1)<=K by omega) _ h1;have h3:=FK (R n);omega
    ·have:=CW HX.out.2.2.1 HX.out.2.2.2.2.1
     exact this (by rw[show ld G=((ld G).num:Rat)from HX.out.2.2.2.1.num _,e];rfl))
   have Hz:=Ad (Au hzc (show AY w.heap.size _ (.slice (some ⟨gG,0,none⟩) L m.length) G by
    have h1:=eg;have h2:=HP.out.2.1;rw[h2]at h1;rw[h2];exact h1.whole HX.out.2.2.2.1 HX.out.2.2.1 Aa Aa Aa))
   clear hzc;obtain⟨rv,hrv⟩:∃ rv,rv=(R (k+L - 1)).num:=⟨_,rfl⟩
   rw[<-hrv]at Hz;by_cases hd:(ld G).num∣rv
   ·obtain⟨z,hzz⟩:∃ z,z=rv / (ld G).num:=⟨_,rfl⟩
    have HD:=Ad (Au hd (Au hrv hzz));clear hd hzz
    go_wp2_with fail
    go_cut [9,10] (fun pv ev wx=>∃ gc,pv = .pointer (some ⟨gc,0,none⟩)/\ev = .int .i64 0/\BA wx gc 26 z/\wr.heap.size<=gc/\Ext wr wx)
    case first =>
     refine Bu 15 [13] (fun x=>16) [36,37,38,39,40,41,42,43,44,45,46,35,47,48,9] [[],[],[],[2],[1,2,3],[1,2,3,4],[0,1,2,3,4,5],[0,1,2,3,4,5,6],[],[8],[0,1,2,3,4,5,6,7,8,9],[0,1,2,3,4,5,6,7,8,9,10],[0,1,2,3,4,5,6,7,8,9,10,11],[0,1,2,3,4,5,6,7,8,9,10,11],[],[0,1,2,3,4,5,6,7,8,9,10,11,12,14],[0,1,2,3,4,5,6,7,8,9,10,11,12,13,14,15]] [6,8,1] [_,_,_] [(kv ?_),(kv ?_),(kv ?_),(kv ?_),(kv ?_),(kv ?_),(kv ?_),(kv ?_),(kv ?_),(fun γ=>γ 9),(fun γ=>γ 10),(fun γ=>γ 10),(fun γ=>γ 12),(kv ?_),(fun γ=>γ 14)] (fun γ w'=>[True,True,True,True,True,True,True,True,True,AC w' (γ 9) (ld G).num,F5 w' (γ 10) z 0,True,AC w' (γ 12) z,True,Bc w' (γ 14) wr.heap.size #[.bool false,.slice none 0 0] 26]) Kg BU BU BU BU BU Nb BU Kw ?m1 ?s1 ?_ ?l1
     case s1 =>
      iterate 15 refine⟨?_,?_⟩
      trivial
      iterate 9 focus
       refine Ba fun _ w' he R hR=>?_;have hc:=he.cells;have cq0:=he.cell cr0;have cq1:=he.cell cr1;go_simp;(try go_ints);(try(rw[if_neg Aa]));(try(rw[if_pos Aa]));(try go_simp);(try go_ints)
       exact Bi hR
      ·refine Ba fun _ w' he R hR=>?_
       go_simp;exact Bg (Qm _ w.heap.size G w' (Hz.out.2.ext he) HX.out.2.2.2.2.1) hR
      ·refine FO fun γ w' he hf R hR=>?_;have f9:AC w' (γ 9) (ld G).num:=hf 9 Ab;clear hf
       go_simp;exact Bg (HD.out.2.2▸Zr _ _ _ _ w' ((Hz.out.1.kd he.kd).has (by rw[HD.out.2.1];exact HQ.out.1 _)) (f9.has HB.out.2.1) HQ.out.2.1 HD.out.1) hR
      ·refine Ba fun _ w' he R hR=>?_
       have hc:=he.cells;go_simp
       (try go_ints);(try(rw[if_neg Aa]));(try(rw[if_pos Aa]));(try go_simp);(try go_ints)
       exact Bi hR
      ·refine FO fun γ w' he hf R hR=>?_;have f10:F5 w' (γ 10) z 0:=hf 10 Ab;clear hf
       obtain⟨a,e,ha⟩:=f10;go_simp;exact hR _ _ (Ext.refl _) rfl ha
      ·refine FO fun γ w' he hf R hR=>?_;have f10:F5 w' (γ 10) z 0:=hf 10 Ab;clear hf
       obtain⟨a,e,ha⟩:=f10;have hc:=he.cells;go_simp
       (try go_ints);(try(rw[if_neg Aa]));(try(rw[if_pos Aa]));(try go_simp);(try go_ints)
       exact Bi hR
      ·refine Ba fun _ w' he R hR=>?_
       go_simp;exact hR _ _ ((Ext.refl _).alloc _) rfl (Bc.mk (Nat.le_trans Ac he.size) (by simp[Ag]))
     case m1 =>
      exact⟨⟨⟨⟨⟨⟨⟨⟨⟨⟨⟨⟨⟨⟨⟨trivial,(fun γ wA w' e h=>h)⟩,(fun γ wA w' e h=>h)⟩,(fun γ wA w' e h=>h)⟩,(fun γ wA w' e h=>h)⟩,(fun γ wA w' e h=>h)⟩,(fun γ wA w' e h=>h)⟩,(fun γ wA w' e h=>h)⟩,(fun γ wA w' e h=>h)⟩,(fun γ wA w' e h=>h)⟩,(fun γ wA w' e h=>(show AC wA (γ 9) (ld G).num from h).ext e)⟩,(fun γ wA w' e h=>(show F5 wA (γ 10) z 0 from h).ext e)⟩,(fun γ wA w' e h=>h)⟩,(fun γ w w' e h=>AC.ext_ h e)⟩,(fun γ wA w' e h=>h)⟩,(fun γ wA w' e h=>(show Bc wA (γ 14) wr.heap.size #[.bool false,.slice none 0 0] 26 from h).ext e)⟩
     case l1 =>
      intro Pn hPs hPn;obtain rfl:=Ii hPs hPn;clear hPs hPn
      ·intro γ w3 hx3 hF hA
       clear hA;have p9:AC w3 (γ 9) (ld G).num:=(Av.get hF 9 Ab).resolve_left Ab;have p10:F5 w3 (γ 10) z 0:=(Av.get hF 10 Ab).resolve_left Ab;have p12:AC w3 (γ 12) z:=(Av.get hF 12 Ab).resolve_left Ab;have p14:Bc w3 (γ 14) wr.heap.size #[.bool false,.slice none 0 0] 26:=(Av.get hF 14 Ab).resolve_left Ab;clear hF;show AP _ _ _ _ 3 [13] 15 _ _;simp only[Bd,Nat.reduceAdd,Co,Vn];generalize γ 9=g9 at *
       generalize γ 10=g10 at *;generalize γ 12=g12 at *;generalize γ 14=g14 at *;clear γ;obtain⟨a10,rfl,-⟩:=p10;obtain⟨gc,rfl,hgc,ec⟩:=p14;obtain⟨b5,A5,n5,c5,rfl⟩:=p12.cells;clear cr0 cr1 p9 hLP;have cec:=ec.cells2;have fec:=ec.frozen
       repeat' first
        | (refine AP.nil ?_;simp only[GM];go_wp2;done)
        | (refine AP.nil ?_;(try simp only[GM]);go_wp2)
        | (refine AP.mk _ ⟨?_,trivial⟩ (fun h=>?_)<;>first | exact absurd h Ab | ((try clear h);simp only[CX,GM];go_wp2;first | show AP _ _ _ _ _ [13] _ _ _ | show AP _ _ _ _ _ [] _ _ _))
       all_goals
        skip;obtain⟨W4,eW,ec',U⟩:=ec.put2 (.bool b5) (.slice A5 n5 c5);rw[<-eW];clear eW ec;replace p12:=p12.kd U.kd;replace hx3:=U.from_ hx3 Ak;have ec:=ec';clear U ec'
        go_meet
        case rel=>exact⟨gc,rfl,rfl,BA.mk ec p12,hgc,hx3⟩
     intro γ w3 hx3 hF hA;clear hA;have p9:AC w3 (γ 9) (ld G).num:=Av.get hF 9 Ab;have p10:F5 w3 (γ 10) z 0:=Av.get hF 10 Ab;have p12:AC w3 (γ 12) z:=Av.get hF 12 Ab;have p14:Bc w3 (γ 14) wr.heap.size #[.bool false,.slice none 0 0] 26:=Av.get hF 14 Ab;clear hF;simp only[Bd,Nat.reduceAdd];generalize γ 9=g9 at *;generalize γ 10=g10 at *;generalize γ 12=g12 at *;generalize γ 14=g14 at *;clear γ;obtain⟨a10,rfl,-⟩:=p10
     obtain⟨gc,rfl,hgc,ec⟩:=p14;obtain⟨b5,A5,n5,c5,rfl⟩:=p12.cells;clear cr0 cr1 p9 hLP;have cec:=ec.cells2;have fec:=ec.frozen;go_wp2;skip;obtain⟨W4,eW,ec',U⟩:=ec.put2 (.bool b5) (.slice A5 n5 c5);rw[<-eW];clear eW ec;replace p12:=p12.kd U.kd;replace hx3:=U.from_ hx3 Ak;have ec:=ec';clear U ec'
     go_meet
     case rel=>exact⟨gc,rfl,rfl,BA.mk ec p12,hgc,hx3⟩
    case rest =>
     clear cr0 cr1 hLP;obtain⟨gc,rfl,rfl,⟨b,B,bn,bc,e8,hb⟩,hgc,hx3⟩:=hcut;have hgq:=eq.lt;have hgr:=er.lt;have hgg:=eg.lt;replace er:=er.ext hx3;replace eq:=eq.ext hx3;replace eg:=eg.ext hx3;replace hx:=hx.trans hx3;clear hx3;have hzk:Q k=0:=HR.out.1 k Aa;have hzv:R (k+pl G - 1)=(z:Rat)*ld G:=by
      rw[<-HQ.out.2.2,HD.out.2.2,HD.out.2.1];exact HR.out.yes HX.out.2.2.2.1 (by rw[<-HD.out.2.1];exact HD.out.1)
     have HZ:=Ad (show Ff F G K s t k (pad Q (mono k (z:Rat))) (psb R (cv (mono k (z:Rat)) G))/\Q k=0/\sz z.natAbs<=1099511627776/\(∀ j,sz (z*(G j).num).natAbs<=1099511627776)/\∀ n,sz (R n).num.natAbs<=1099511627776 from by
      have hl:=CW HX.out.2.2.1 HX.out.2.2.2.2.1;have h1:qsz (z:Rat)<=qsz (R (k+pl G - 1)):=RD hl (HX.out.2.2.2.1 _) hzv;have h2:=HR.out.2.2.2.2.2.2 (k+pl G - 1);have h3:=HB.out.1 _ (show K - (k+1)<=K by omega) _ h2;have h4:sz z.natAbs<=qsz (z:Rat):=by rw[Bz];omega
      refine⟨HR.out.step HX.out.2.2.1 HX.out.2.2.2.2.1 HX.out.2.2.2.1 HX.out.2.2.2.2.2.2.2.2 hkK hzv,hzk,Aa,fun j=>?_,HQ.out.1⟩;have h5:=Ji (x:=z) (y:=(G j).num) h4 (HB.out.2.2.1 j);omega)
     clear hzk hzv;have Hb:=Ad hb;clear hb;have hkl:k < (DF K Q).length:=by rw[Bb];exact hkK
     have Hkl:=Ad hkl;have ce8:=e8.cells2;have fe8:=e8.frozen;obtain⟨_,_,_,_,ca0,ca1,-⟩:=eq.at_ (j:=k) (by first | omega | (simp;omega));have fa0:=eq.frozen (k*2);have fa1:=eq.frozen (k*2+1);clear hkl;go_wp2;have hkl:=Hkl.out;have hb:=Hb.out;obtain⟨W7,eW,eq',U⟩:=eq.put (k:=k) (by first | omega | (simp;omega)) hb;rw[<-eW];clear eW eq;replace hb:=hb.kd U.kd;replace er:=er.upd U Ak;replace eg:=eg.upd U Ak
     replace e8:=e8.upd U Ak;replace hx:=U.from_ hx Ak;have eq:=eq';clear U eq';rw[P8 (G:=pad Q (mono k (z:Rat))) (fun n=>XQ HR.out.2.2.2.2.1 HZ.out.2.1 n)]at eq;have ec:=BA.mk e8 hb;clear e8 hb Hb Hkl hkl ce8 fe8
     go_loopw [57] (fun jv wx=>∃ j:Nat,j<=L/\jv = .int .i64 j/\Cn wx w.heap.size 26 (DF P (F9 k j (z:Rat) R G))/\Cn wx gq 26 (DF K (pad Q (mono k (z:Rat))))/\Cn wx gG 26 (DF L G)/\BA wx gc 26 z/\Ext w wx) (fun jv _=>L - (intOf jv).toNat)
     case atStart=>exact⟨0,Nat.zero_le _,rfl,by rw[Og];exact er,eq,eg,ec,hx⟩
     case round =>
      clear er eq eg ec hx;obtain⟨j,hj,rfl,er,eq,eg,ec,hx⟩:=hrel;by_cases hjl:j < L
      ·obtain⟨y1,Y1,yn1,yc1,q0,q1,hy⟩:=eg.at_ (j:=j) (by rw[Bb];exact hjl)
       rw[Cc]at hy;have Hy:=Ad hy;clear hy;have hne:=ec.lt;have hne2:=eq.lt
       go_wp2_with fail
       obtain⟨W10,eW10,e10,x10⟩:=Be.made wr 26 #[.bool y1,.slice Y1 yn1 yc1] (by simp[Ag]);rw[<-eW10];clear eW10 q0 q1;have hy:=Hy.out.kd x10.kd;replace er:=er.ext x10;replace eq:=eq.ext x10;replace eg:=eg.ext x10;replace ec:=ec.ext x10;replace hx:=hx.trans x10;clear x10;obtain⟨b,B,bn,bc,e8,hb⟩:=ec;have hij:k+j < P:=by omega
       obtain⟨z1,Z1,zn1,zc1,ca0,ca1,hz⟩:=er.at_ (j:=k+j) (by rw[Bb];exact hij);rw[Cc,UG]at hz;obtain⟨rj,hrj⟩:∃ rj,rj=(R (k+j)).num:=⟨_,rfl⟩
       rw[<-hrj]at hz;have Hrj:=Ad hrj;clear hrj;have Hz':=Ad (Au hz (Au hb hy));clear hz hb hy Hy;have ce8:=e8.cells2;have fe8:=e8.frozen;have ce10:=e10.cells2;have fe10:=e10.frozen
       go_wp2_with fail
       refine CV 14 [62,63,64,65,66,67,68,69,70,71,72,73,74,75] [6,8,11,9,12] [_,_,_,_,_] [(kv ?_),(kv ?_),(kv ?_),(kv ?_),(kv ?_),(kv ?_),(kv ?_),(kv ?_),(kv ?_),(kv ?_),(kv ?_),(kv ?_),(fun γ=>γ 12),(fun γ=>γ 13)] (fun γ w'=>[True,True,True,True,True,True,True,True,True,True,True,True,AC w' (γ 12) (z*(G j).num),AC w' (γ 13) (rj - z*(G j).num)]) ?s2 ?_
       case s2 =>
        iterate 14 refine⟨?_,?_⟩
        trivial
        iterate 12 focus
         refine Ba fun _ w' he R hR=>?_;have hc:=he.cells;have cq0:=he.cell ca0;have cq1:=he.cell ca1;have cq2:=(e8.ext he).cells2;have cq3:=(e10.ext he).cells2;go_simp;(try go_ints);(try(rw[if_neg Aa]));(try(rw[if_pos Aa]));(try go_simp);(try go_ints)
         exact Bi hR
        ·refine Ba fun _ w' he R hR=>?_
         go_simp;exact Bg (Dr _ _ _ _ w' ((Hz'.out.2.1.kd he.kd).has HZ.out.2.2.1) ((Hz'.out.2.2.kd he.kd).has (by have h1:=HB.out.2.2.1 j;have h2:=HB.out.2.2.2;omega))) hR
        ·refine FO fun γ w' he hf R hR=>?_;have f12:AC w' (γ 12) (z*(G j).num):=hf 12 Ab;clear hf
         go_simp;exact Bg (aG _ _ _ _ w' ((Hz'.out.1.kd he.kd).has (by rw[Hrj.out];exact HZ.out.2.2.2.2 _)) (f12.has (HZ.out.2.2.2.1 j))) hR
       intro γ w6 hx6 hF;have p12:AC w6 (γ 12) (z*(G j).num):=Av.get hF 12 Ab;have p13:AC w6 (γ 13) (rj - z*(G j).num):=Av.get hF 13 Ab;clear hF;simp only[Bd,Nat.reduceAdd];generalize γ 12=g12 at *;generalize γ 13=g13 at *;clear γ;have hb:=Hz'.out.2.1.kd hx6.kd;clear p12 Hz' ca0 ca1 ce8 fe8 ce10 fe10 e10;replace er:=er.ext hx6;replace eq:=eq.ext hx6;replace eg:=eg.ext hx6;replace e8:=e8.ext hx6;replace hx:=hx.trans hx6
       clear hx6;obtain⟨b5,A5,n5,c5,rfl⟩:=p13.cells;have hkf:k+j < (DF P (F9 k j (z:Rat) R G)).length:=by rw[Bb];exact hij
       have Hkf:=Ad hkf;have Hb:=Ad hb;clear hb;obtain⟨_,_,_,_,ca0,ca1,-⟩:=er.at_ (j:=k+j) (by first | omega | (simp;omega));have fa0:=er.frozen ((k+j)*2);have fa1:=er.frozen ((k+j)*2+1);clear hkf;go_wp2;have hkf:=Hkf.out;have hb:=Hb.out;obtain⟨W9,eW,er',U⟩:=er.put (k:=k+j) (by first | omega | (simp;omega)) p13;rw[<-eW];clear eW er;replace hb:=hb.kd U.kd;replace eq:=eq.upd U Ak;replace eg:=eg.upd U Ak
       replace e8:=e8.upd U Ak;replace hx:=U.from_ hx Ak;have er:=er';clear U er'
       go_roundw
       case rel=>exact⟨j+1,Aa,by go_num,by
        rw[Hrj.out,P8 (G:=F9 k (j+1) (z:Rat) R G) (fun n=>Y5 HR.out.2.2.2.2.2.1 HX.out.2.2.2.1 n)]at er;exact er,eq,eg,BA.mk e8 hb,hx⟩
       case measure=>simp[intOf];omega
      ·obtain rfl:L=j:=by omega
       rw[Li (AB HX.out.2.2.1 |>.mono (by rw[<-HP.out.2.1];exact Nat.le_refl _))]at er;go_wp2
       go_roundw
       case rel=>exact⟨k,_,_,Aa,by go_num,er,eq,eg,HZ.out.1,HSP.out.psb (((ER k _).cv (AB HX.out.2.2.1)).mono (by have:=HP.out.2.1;omega)),hx⟩
       case measure=>simp[intOf]<;>omega
   ·have hno:¬ J6 F G:=HR.out.no HX.out.2.2.1 HX.out.2.2.2.2.1 HX.out.2.2.2.1 (by rw[<-HQ.out.2.2,<-hrv];exact hd)
    have HD:=Ad (Au hd (Au hrv hno));clear hd hno
    go_wp2_with fail
    go_cut [9,10] (fun pv ev wx=>∃ gc,pv = .pointer (some ⟨gc,0,none⟩)/\ev = .int .i64 6/\BA wx gc 26 0/\wr.heap.size<=gc/\Ext wr wx)
    case first =>
     refine Bu 15 [13] (fun x=>16) [36,37,38,39,40,41,42,43,44,45,46,35,47,48,9] [[],[],[],[2],[1,2,3],[1,2,3,4],[0,1,2,3,4,5],[0,1,2,3,4,5,6],[],[8],[0,1,2,3,4,5,6,7,8,9],[0,1,2,3,4,5,6,7,8,9,10],[0,1,2,3,4,5,6,7,8,9,10,11],[0,1,2,3,4,5,6,7,8,9,10,11],[],[0,1,2,3,4,5,6,7,8,9,10,11,12,14],[0,1,2,3,4,5,6,7,8,9,10,11,12,13,14,15]] [6,8,1] [_,_,_] [(kv ?_),(kv ?_),(kv ?_),(kv ?_),(kv ?_),(kv ?_),(kv ?_),(kv ?_),(kv ?_),(fun γ=>γ 9),(fun γ=>γ 10),(fun γ=>γ 10),(fun γ=>γ 12),(kv ?_),(fun γ=>γ 14)] (fun γ w'=>[True,True,True,True,True,True,True,True,True,AC w' (γ 9) (ld G).num,F5 w' (γ 10) 0 6,True,AC w' (γ 12) 0,True,Bc w' (γ 14) wr.heap.size #[.bool false,.slice none 0 0] 26]) Kg BU BU BU BU BU Nb BU Kw ?m3 ?s3 ?_ ?l3
     case s3 =>
      iterate 15 refine⟨?_,?_⟩
      trivial
      iterate 9 focus
       refine Ba fun _ w' he R hR=>?_;have hc:=he.cells;have cq0:=he.cell cr0;have cq1:=he.cell cr1;go_simp;(try go_ints);(try(rw[if_neg Aa]));(try(rw[if_pos Aa]));(try go_simp);(try go_ints)
       exact Bi hR
      ·refine Ba fun _ w' he R hR=>?_
       go_simp;exact Bg (Qm _ w.heap.size G w' (Hz.out.2.ext he) HX.out.2.2.2.2.1) hR
      ·refine FO fun γ w' he hf R hR=>?_;have f9:AC w' (γ 9) (ld G).num:=hf 9 Ab;clear hf
       go_simp;exact Bg (Xc _ _ _ _ w' ((Hz.out.1.kd he.kd).has (by rw[HD.out.2.1];exact HQ.out.1 _)) (f9.has HB.out.2.1) HQ.out.2.1 HD.out.1) hR
      ·refine Ba fun _ w' he R hR=>?_
       have hc:=he.cells;go_simp
       (try go_ints);(try(rw[if_neg Aa]));(try(rw[if_pos Aa]));(try go_simp);(try go_ints)
       exact Bi hR
      ·refine FO fun γ w' he hf R hR=>?_;have f10:F5 w' (γ 10) 0 6:=hf 10 Ab;clear hf
       obtain⟨a,e,ha⟩:=f10;go_simp;exact hR _ _ (Ext.refl _) rfl ha
      ·refine FO fun γ w' he hf R hR=>?_;have f10:F5 w' (γ 10) 0 6:=hf 10 Ab;clear hf
       obtain⟨a,e,ha⟩:=f10;have hc:=he.cells;go_simp
       (try go_ints);(try(rw[if_neg Aa]));(try(rw[if_pos Aa]));(try go_simp);(try go_ints)
       exact Bi hR
      ·refine Ba fun _ w' he R hR=>?_
       go_simp;exact hR _ _ ((Ext.refl _).alloc _) rfl (Bc.mk (Nat.le_trans Ac he.size) (by simp[Ag]))
     case m3 =>
      exact⟨⟨⟨⟨⟨⟨⟨⟨⟨⟨⟨⟨⟨⟨⟨trivial,(fun γ wA w' e h=>h)⟩,(fun γ wA w' e h=>h)⟩,(fun γ wA w' e h=>h)⟩,(fun γ wA w' e h=>h)⟩,(fun γ wA w' e h=>h)⟩,(fun γ wA w' e h=>h)⟩,(fun γ wA w' e h=>h)⟩,(fun γ wA w' e h=>h)⟩,(fun γ wA w' e h=>h)⟩,(fun γ wA w' e h=>(show AC wA (γ 9) (ld G).num from h).ext e)⟩,(fun γ wA w' e h=>(show F5 wA (γ 10) 0 6 from h).ext e)⟩,(fun γ wA w' e h=>h)⟩,(fun γ w w' e h=>AC.ext_ h e)⟩,(fun γ wA w' e h=>h)⟩,(fun γ wA w' e h=>(show Bc wA (γ 14) wr.heap.size #[.bool false,.slice none 0 0] 26 from h).ext e)⟩
     case l3 =>
      intro Pn hPs hPn;obtain rfl:=Ii hPs hPn;clear hPs hPn
      ·intro γ w3 hx3 hF hA
       clear hA;have p9:AC w3 (γ 9) (ld G).num:=(Av.get hF 9 Ab).resolve_left Ab;have p10:F5 w3 (γ 10) 0 6:=(Av.get hF 10 Ab).resolve_left Ab;have p12:AC w3 (γ 12) 0:=(Av.get hF 12 Ab).resolve_left Ab;have p14:Bc w3 (γ 14) wr.heap.size #[.bool false,.slice none 0 0] 26:=(Av.get hF 14 Ab).resolve_left Ab;clear hF;show AP _ _ _ _ 3 [13] 15 _ _;simp only[Bd,Nat.reduceAdd,Co,Vn];generalize γ 9=g9 at *
       generalize γ 10=g10 at *;generalize γ 12=g12 at *;generalize γ 14=g14 at *;clear γ;obtain⟨a10,rfl,-⟩:=p10;obtain⟨gc,rfl,hgc,ec⟩:=p14;obtain⟨b5,A5,n5,c5,rfl⟩:=p12.cells;clear cr0 cr1 p9 hLP;have cec:=ec.cells2;have fec:=ec.frozen
       repeat' first
        | (refine AP.nil ?_;simp only[GM];go_wp2;done)
        | (refine AP.nil ?_;(try simp only[GM]);go_wp2)
        | (refine AP.mk _ ⟨?_,trivial⟩ (fun h=>?_)<;>first | exact absurd h Ab | ((try clear h);simp only[CX,GM];go_wp2;first | show AP _ _ _ _ _ [13] _ _ _ | show AP _ _ _ _ _ [] _ _ _))
       all_goals
        skip;obtain⟨W4,eW,ec',U⟩:=ec.put2 (.bool b5) (.slice A5 n5 c5);rw[<-eW];clear eW ec;replace p12:=p12.kd U.kd;replace hx3:=U.from_ hx3 Ak;have ec:=ec';clear U ec'
        go_meet
        case rel=>exact⟨gc,rfl,rfl,BA.mk ec p12,hgc,hx3⟩
     intro γ w3 hx3 hF hA;clear hA;have p9:AC w3 (γ 9) (ld G).num:=Av.get hF 9 Ab;have p10:F5 w3 (γ 10) 0 6:=Av.get hF 10 Ab;have p12:AC w3 (γ 12) 0:=Av.get hF 12 Ab;have p14:Bc w3 (γ 14) wr.heap.size #[.bool false,.slice none 0 0] 26:=Av.get hF 14 Ab;clear hF;simp only[Bd,Nat.reduceAdd];generalize γ 9=g9 at *;generalize γ 10=g10 at *;generalize γ 12=g12 at *;generalize γ 14=g14 at *;clear γ;obtain⟨a10,rfl,-⟩:=p10
     obtain⟨gc,rfl,hgc,ec⟩:=p14;obtain⟨b5,A5,n5,c5,rfl⟩:=p12.cells;clear cr0 cr1 p9 hLP;have cec:=ec.cells2;have fec:=ec.frozen;go_wp2;skip;obtain⟨W4,eW,ec',U⟩:=ec.put2 (.bool b5) (.slice A5 n5 c5);rw[<-eW];clear eW ec;replace p12:=p12.kd U.kd;replace hx3:=U.from_ hx3 Ak;have ec:=ec';clear U ec'
     go_meet
     case rel=>exact⟨gc,rfl,rfl,BA.mk ec p12,hgc,hx3⟩
    case rest =>
     clear cr0 cr1 hLP;obtain⟨gc,rfl,rfl,-,-,hx3⟩:=hcut;go_wp2
     go_ret2
     exact Ah.mk ⟨fun h=>absurd h HD.out.2.2,fun _=>rfl⟩ (hx.trans hx3)
  ·obtain rfl:i=0:=by omega
   have hm1:((0:Nat):Int) - 1 = -1:=by omega
   rw[hm1];have hfR:=HR.out.fin;have hcR:cz (DF P R)=R:=Ia HR.out.2.2.2.2.2.1 HSP.out;have hend:=HR.out.end_ HX.out.1 HX.out.2.2.1 HX.out.2.2.2.2.1;have hout:=HR.out.out HX.out.1 HX.out.2.2.1 HX.out.2.2.2.2.1;have hcQ:cz (DF K Q)=Q:=Ia hend.2.2.2 hend.2.2.1;have hT2:=Ed w.heap.size (some ⟨w.heap.size,0,none⟩) l.length (DF P R) wr (by rw[Bb];exact hc1) Aa (er.row (Nat.le_refl _));have hT1:=Ed w.heap.size (some ⟨gq,0,none⟩) K (DF K Q) wr (by rw[Bb];exact Nat.le_refl _) Aa (eq.row Aa)
   rw[Bb]at hT1 hT2;rw[Gt,hcR]at hT2;have HE:=Ad (Au (eq.row (base:=w.heap.size) Aa) (Au hcQ (Au hend (Au hout hfR))));clear er eq eg hm1 hcR hcQ hend hout hfR
   go_wp2_with fail
   refine Calls.mono hT2 ?_;rintro e w3 ⟨rfl,rfl⟩;by_cases hz:R=pz
   ·have h0:pl R=0:=by rw[hz,BJ]
    have hyes:=HE.out.2.2.2.1.2 hz;have HY:=Ad hyes;clear hz hyes;rw[h0]
    go_wp2_with fail
    refine Calls.mono hT1 ?_;rintro e w3 ⟨rfl,rfl⟩;go_wp2
    go_ret2
    exact Ah.mk ⟨fun _=>⟨_,rfl,by
     rw[<-HE.out.2.2.1.1];exact AY.of_trim (LZ.trim HE.out.1 (by rw[Bb];exact Nat.le_refl _) Aa) HE.out.2.1⟩,fun h=>absurd HY.out h⟩ hx
   ·have h0:0 < pl R:=AQ HE.out.2.2.2.2 hz
    have hno:¬ J6 F G:=fun h=>hz (HE.out.2.2.2.1.1 h);have HY:=Ad hno;clear hz hno;go_wp2
    go_ret2
    exact Ah.mk ⟨fun h=>absurd h HY.out,fun _=>rfl⟩ hx
theorem VH(v u:Value)(F G:Nat->Rat)(s t:Nat)(w:World)(hv:AY 0 w v F)(hu:AY 0 w u G)(hs:∀ i,qsz (F i)<=s)(ht:∀ i,qsz (G i)<=t)(hn:pl F<=549755813888)(hm:pl G<=549755813888)(h0:G≠pz)(hst:s+(pl F+2)*(t+1)+t<=1099511627776) :
  Bj 88 #[v,u] w ((aW w.heap.size F G)):=by
 obtain⟨l,h1,h2,-,rfl⟩:=hv.hz (fun i=>by have:=hs i;omega);obtain⟨m,k1,k2,-,rfl⟩:=hu.hz (fun i=>by have:=ht i;omega);exact Vs v u l m s t w h1 k1 hs ht Aa Aa h0 (by rw[h2];exact hst)
set_option maxRecDepth 20000 in
theorem SC(v:Value)(n:Nat)(w:World)(hv:Bh w v 2)(hn:n < 65536):Bj 176 #[v,.int .i64 (n:Nat)] w (fun r w'=>F5 w' r (2^n) 0):=by
 have HV:=Ad hv;obtain⟨b1,A1,n1,c1,rfl⟩:=hv.cells;clear hv;have hL:=Lib.bitLen_le n 16 Ab Aa;have HL:=Ad (Gl n n (Nat.le_refl _) Aa).1
 go_enter Tryz.func176,Tryz.ntmps176
 go_wp2_with fail
 refine AR (Sl _ 2 _ (HV.out.ext (((Ext.refl w).alloc _).alloc _))) ?_;rintro r1 w1 ⟨b,rfl,hb⟩ hx1;obtain rfl:b=2:=hb.uniq ⟨Ab,fun _=>Ab⟩;clear hb;have ea:=((Be.new w 26 #[.bool b1,.slice A1 n1 c1] (by simp[Ag])).alloc (.cells #[.bool false,.slice none 0 0] 26)).ext hx1;have ez:=(Be.new (w.alloc (.cells #[.bool b1,.slice A1 n1 c1] 26)) 26 #[.bool false,.slice none 0 0] (by simp[Ag])).ext hx1;rw[World.size_alloc]at ez
 have hx:=hx1.a2;clear hx1
 go_wp2_with fail
 refine AR (Jn 1 _ Aa Aa) ?_;rintro r2 w2 hr2 hx2;obtain⟨b5,A5,n5,c5,rfl⟩:=hr2.cells;replace ea:=ea.ext hx2;replace ez:=ez.ext hx2;obtain⟨W0,eW,eb,x0⟩:=Be.made w2 26 #[.bool b5,.slice A5 n5 c5] (by simp[Ag]);have hb:=hr2.kd x0.kd;replace ea:=ea.ext x0;have hgb:=ez.lt;replace ez:=ez.ext x0;replace hx:=(hx.trans hx2).trans x0;have Hb:=Ad hb;clear hr2 hb hx2
 go_wp2_with (go_at_call 190;refine(VZ _ _ Aa).mono ?_;rintro e w' ⟨rfl,rfl⟩)
 rw[<-eW];clear eW x0;generalize w2.heap.size=gb at *
 go_loopw [8] (fun iv wr=>∃ (j:Nat),j<=Lib.bitLen n/\iv = .int .i64 ((j:Int) - 1)/\Be wr w.heap.size 26 #[.bool b1,.slice A1 n1 c1]/\Be wr (w.heap.size+1) 26 #[.bool false,.slice none 0 0]/\BA wr gb 26 (2^(n / 2^j))/\Ext w wr) (fun iv _=>(intOf iv+1).toNat)
 case atStart=>exact⟨Lib.bitLen n,Nat.le_refl _,rfl,ea,ez,by rw[Nat.div_eq_of_lt HL.out];exact BA.mk eb Hb.out,hx⟩
 case round =>
  clear ea ez eb hx Hb;obtain⟨j,hj,rfl,ea,ez,⟨b6,A6,n6,c6,eb,hb⟩,hx⟩:=hrel;have Hb:=Ad hb;clear hb;rcases j with _ | j
  ·have e1:(((0:Nat):Int) - 1) = -1:=rfl
   rw[e1];clear e1;have cez:=ez.cells2;have fez:=ez.frozen;have ceb:=eb.cells2;have feb:=eb.frozen;have hr:=Hb.out;go_wp2;obtain⟨W3,eW,ez',U⟩:=ez.put2 (.bool b6) (.slice A6 n6 c6);rw[<-eW];clear eW ez;replace hr:=hr.kd U.kd;replace hx:=U.from_ hx Ak;have ez:=ez';clear U ez';clear cez fez;have cez:=ez.cells2;have fez:=ez.frozen;refine bodyPost_ret (v := .tuple #[.agg #[.bool b6,.slice A6 n6 c6],.int .i64 0]) (by simp[results,Tryz.results176,go_sem,cez]) rfl ?_
   exact Ah.mk ⟨_,rfl,by simpa using hr⟩ hx
  ·have e1:(((j+1:Nat):Int) - 1)=(j:Nat):=by omega
   rw[e1];clear e1;have hsz:∀ m,m<=n->sz ((2:Int)^m).natAbs<=100000:=fun m hm=>by have:=Jj m;omega
   have hd1:n / 2^(j+1)<=n:=Nat.div_le_self _ _;have hd2:n / 2^j<=n:=Nat.div_le_self _ _;have HS:=Ad (Au (hsz _ hd1) (Au (hsz _ hd2) (Vy n j)));clear hsz hd1 hd2;have ceb:=eb.cells2;have feb:=eb.frozen
   go_wp2_with fail
   refine AR (Dr _ _ _ _ _ (Hb.out.has (by have:=HS.out.1;omega)) (Hb.out.has (by have:=HS.out.1;omega))) ?_;rintro r2 w2 hr2 hx2;obtain⟨b7,A7,n7,c7,rfl⟩:=hr2.cells;clear Hb ceb feb;replace ea:=ea.ext hx2;replace ez:=ez.ext hx2;replace eb:=eb.ext hx2;replace hx:=hx.trans hx2;clear hx2;have ceb:=eb.cells2;have feb:=eb.frozen
   go_upto_region 13 with(fail)
   obtain⟨W3,eW,eb',U⟩:=eb.put2 (.bool b7) (.slice A7 n7 c7);rw[<-eW];clear eW eb;replace hr2:=hr2.kd U.kd;replace ea:=ea.upd U Ak;replace ez:=ez.upd U Ak;replace hx:=U.from_ hx Ak;have eb:=eb';clear U eb';have Hb:=Ad hr2;clear hr2;obtain⟨q,hq⟩:∃ q,q=n / 2^j:=⟨_,rfl⟩
   have hqi:(n:Int) / 2^j=(q:Nat):=by rw[hq];simp
   have hq9:q<=n:=by rw[hq];exact Nat.div_le_self _ _
   have hbit:=Ra q Aa;have Hq:=Ad HS.out.2;rw[<-hq]at Hq;have HQ:=Ad hq;clear HS hq;by_cases hodd:q % 2=1
   ·rw[hodd]at hbit
    have hp:=Hq.out.2;rw[if_pos hodd]at hp;have Hp:=Ad hp;clear hp hodd;have cea:=ea.cells2;have fea:=ea.frozen;have ceb:=eb.cells2;have feb:=eb.frozen
    go_wp2_with fail
    refine AR (Dr _ _ _ 2 _ (Hb.out.has (Nat.le_trans (Pt Hp.out) (by have:=Hq.out.1;omega))) (HV.out.ext hx)) ?_;rintro r4 w4 hr4 hx4;rw[Hp.out]at hr4;obtain⟨b8,A8,n8,c8,rfl⟩:=hr4.cells;clear Hb cea fea ceb feb;replace ea:=ea.ext hx4;replace ez:=ez.ext hx4;replace eb:=eb.ext hx4;replace hx:=hx.trans hx4;clear hx4;have ceb:=eb.cells2;have feb:=eb.frozen;go_wp2;obtain⟨W5,eW,eb',U⟩:=eb.put2 (.bool b8) (.slice A8 n8 c8)
    rw[<-eW];clear eW eb;replace hr4:=hr4.kd U.kd;replace ea:=ea.upd U Ak;replace ez:=ez.upd U Ak;replace hx:=U.from_ hx Ak;have eb:=eb';clear U eb'
    go_roundw
    case rel=>exact⟨j,Aa,by go_num,ea,ez,by rw[<-HQ.out];exact BA.mk eb hr4,hx⟩
    case measure=>simp[intOf]<;>omega
   ·rw[show q % 2=0 by omega]at hbit
    have hp:=Hq.out.2;rw[if_neg hodd,Int.mul_one]at hp;have hr4:=Hb.out;rw[hp]at hr4;clear hp Hb Hq;go_wp2
    go_roundw
    case rel=>exact⟨j,Aa,by go_num,ea,ez,by rw[<-HQ.out];exact BA.mk eb hr4,hx⟩
    case measure=>simp[intOf]<;>omega
end Go.Proofs.YtmhgnigpmompmaaGreat

namespace Go.Proofs.YtmhgnigpmompmaaGreat
open Go.RowKit Go.Hp
theorem Yt{x y:Int}{v:Value}{w w':World}(h:MX x y v w)(e:Ext w w'):MX x y v w':=by
 obtain⟨a,b,h1,h2,h3⟩:=h;exact⟨a,b,h1,h2.ext_ e,h3.ext_ e⟩
set_option maxRecDepth 20000 in
theorem WJ(v:Value)(Y:Int)(w:World)(hv:Bh w v Y)(h0:0 < Y)(hs:sz Y.natAbs<=1000):Bj 175 #[v] w (fun r w'=>kK w' r):=by
 have HV:=Ad hv;obtain⟨b1,A1,n1,c1,rfl⟩:=hv.cells;clear hv;obtain⟨b,hb⟩:=BL.ex Y.natAbs;have hb9:b<=32000:=by have:=hb.sz;omega
 obtain⟨k,hk⟩:∃ k,k=(b+1) / 2:=⟨_,rfl⟩
 have hk9:k<=16001:=by omega
 have hki:(((b:Nat):Int)+1) / 2=(k:Nat):=by omega
 have hbits:∀ W u,Bh W u Y->Bj 174 #[u] W (fun r _=>r = .int .i64 (b:Nat)):=fun W u hu =>
  Ah.imp (Sl u Y W hu) fun _ _ ⟨c,e,h⟩=>by rw[e,h.uniq hb]
 have HB:=Ad hbits;clear hbits hb hk;have HA:=Ad (Au h0 hs);clear h0 hs
 go_enter Tryz.func175,Tryz.ntmps175
 go_wp2_with fail
 refine AR (IQ _ Y _ (HV.out.ext (((Ext.refl w).alloc _).alloc _))) ?_;rintro r1 w1 rfl hx1;rw[Int.sign_eq_one_of_pos HA.out.1];have ea:=((Be.new w 26 #[.bool b1,.slice A1 n1 c1] (by simp[Ag])).alloc (.cells #[.bool false,.slice none 0 0] 26)).ext hx1;have ez:=(Be.new (w.alloc (.cells #[.bool b1,.slice A1 n1 c1] 26)) 26 #[.bool false,.slice none 0 0] (by simp[Ag])).ext hx1;rw[World.size_alloc]at ez
 have hx:=hx1.a2;clear hx1;obtain⟨cea0,cea1⟩:=ea.cells2;have fea:=ea.frozen;have hsz1:=ez.lt
 go_wp2_with fail
 go_cut [5,6] (fun xv ev wx=>∃ gc,xv = .pointer (some ⟨gc,0,none⟩)/\ev = .int .i64 0/\BA wx gc 26 (2^k)/\w.heap.size+1 < gc/\Ext w1 wx)
 case first =>
  refine Bu 10 [8] (fun x=>11) [19,20,21,22,23,24,18,25,26,5] [[],[],[0,1],[0,1,2],[0,1,2,3],[0,1,2,3,4],[0,1,2,3,4,5],[0,1,2,3,4,5,6],[0,1,2,3,4,5,6],[],[0,1,2,3,4,5,6,7,9],[0,1,2,3,4,5,6,7,8,9,10]] [1] [_] [(fun γ=>γ 0),(kv ?_),(kv (.int .i64 (b:Nat))),(kv ?_),(kv ?_),(fun γ=>γ 5),(fun γ=>γ 5),(fun γ=>γ 7),(kv ?_),(fun γ=>γ 9)] (fun γ w'=>[AC w' (γ 0) 2,True,True,True,True,F5 w' (γ 5) (2^k) 0,True,AC w' (γ 7) (2^k),True,Bc w' (γ 9) w1.heap.size #[.bool false,.slice none 0 0] 26]) Kg BU BU BU BU BU Nb BU Kw ?m1 ?s1 ?_ ?l1
  case s1 =>
   iterate 10 refine⟨?_,?_⟩
   trivial
   ·refine Ba fun _ w' he R hR=>?_
    go_simp;exact Bg (Jn 2 w' Aa Aa) hR
   iterate 1 focus
    refine Ba fun _ w' he R hR=>?_;have hc:=he.cells;have cq0:=he.cell cea0;have cq1:=he.cell cea1;go_simp;exact Bi hR
   ·refine Ba fun _ w' he R hR=>?_
    go_simp;exact Jq (HB.out w' _ (HV.out.ext (hx.trans he))) hR
   iterate 2 focus
    refine Ba fun _ w' he R hR=>?_;have hc:=he.cells;go_simp;(try go_ints);(try(rw[if_neg Aa]));(try(rw[if_pos Aa]));(try go_simp);(try go_ints)
    exact Bi hR
   ·refine FO fun γ w' he hf R hR=>?_;have f0:AC w' (γ 0) 2:=hf 0 Ab;clear hf
    go_simp;exact Bg (SC _ k w' (f0.has Ab) Aa) hR
   ·refine Ba fun _ w' he R hR=>?_
    have hc:=he.cells;go_simp
    (try go_ints);(try(rw[if_neg Aa]));(try(rw[if_pos Aa]));(try go_simp);(try go_ints)
    exact Bi hR
   ·refine FO fun γ w' he hf R hR=>?_;have f5:F5 w' (γ 5) (2^k) 0:=hf 5 Ab;clear hf
    obtain⟨a,e,ha⟩:=f5;go_simp;exact hR _ _ (Ext.refl _) rfl ha
   ·refine FO fun γ w' he hf R hR=>?_;have f5:F5 w' (γ 5) (2^k) 0:=hf 5 Ab;clear hf
    obtain⟨a,e,ha⟩:=f5;have hc:=he.cells;go_simp
    (try go_ints);(try(rw[if_neg Aa]));(try(rw[if_pos Aa]));(try go_simp);(try go_ints)
    exact Bi hR
   ·refine Ba fun _ w' he R hR=>?_
    go_simp;exact hR _ _ ((Ext.refl _).alloc _) rfl (Bc.mk (Nat.le_trans Ac he.size) (by simp[Ag]))
  case m1 =>
   exact⟨⟨⟨⟨⟨⟨⟨⟨⟨⟨trivial,(fun γ wA w' e h=>(show AC wA (γ 0) 2 from h).ext e)⟩,(fun γ wA w' e h=>h)⟩,(fun γ wA w' e h=>h)⟩,(fun γ wA w' e h=>h)⟩,(fun γ wA w' e h=>h)⟩,(fun γ wA w' e h=>(show F5 wA (γ 5) (2^k) 0 from h).ext e)⟩,(fun γ wA w' e h=>h)⟩,(fun γ w w' e h=>AC.ext_ h e)⟩,(fun γ wA w' e h=>h)⟩,(fun γ wA w' e h=>(show Bc wA (γ 9) w1.heap.size #[.bool false,.slice none 0 0] 26 from h).ext e)⟩
  case l1 =>
   intro Pn hPs hPn;obtain rfl:=Ii hPs hPn;clear hPs hPn
   ·intro γ w2 hx2 hF hA
    clear hA;have p0:AC w2 (γ 0) 2:=(Av.get hF 0 Ab).resolve_left Ab;have p5:F5 w2 (γ 5) (2^k) 0:=(Av.get hF 5 Ab).resolve_left Ab;have p7:AC w2 (γ 7) (2^k):=(Av.get hF 7 Ab).resolve_left Ab;have p9:Bc w2 (γ 9) w1.heap.size #[.bool false,.slice none 0 0] 26:=(Av.get hF 9 Ab).resolve_left Ab;clear hF;show AP _ _ _ _ 3 [8] 10 _ _;simp only[Bd,Nat.reduceAdd,Co,Vn];generalize γ 0=g0 at *;generalize γ 5=g5 at *
    generalize γ 7=g7 at *;generalize γ 9=g9 at *;clear γ;obtain⟨a5,rfl,-⟩:=p5;obtain⟨gc,rfl,hgc,ec⟩:=p9;obtain⟨b5,A5,n5,c5,rfl⟩:=p7.cells;clear cea0 cea1 p0;have cec:=ec.cells2;have fec:=ec.frozen
    repeat' first
     | (refine AP.nil ?_;simp only[GM];go_wp2;done)
     | (refine AP.nil ?_;(try simp only[GM]);go_wp2)
     | (refine AP.mk _ ⟨?_,trivial⟩ (fun h=>?_)<;>first | exact absurd h Ab | ((try clear h);simp only[CX,GM];go_wp2;first | show AP _ _ _ _ _ [8] _ _ _ | show AP _ _ _ _ _ [] _ _ _))
    all_goals
     skip;obtain⟨W4,eW,ec',U⟩:=ec.put2 (.bool b5) (.slice A5 n5 c5);rw[<-eW];clear eW ec;replace p7:=p7.kd U.kd;replace hx2:=U.from_ hx2 Ak;have ec:=ec';clear U ec'
     go_meet
     case rel=>exact⟨gc,rfl,rfl,BA.mk ec p7,Aa,hx2⟩
  intro γ w2 hx2 hF hA;clear hA;have p0:AC w2 (γ 0) 2:=Av.get hF 0 Ab;have p5:F5 w2 (γ 5) (2^k) 0:=Av.get hF 5 Ab;have p7:AC w2 (γ 7) (2^k):=Av.get hF 7 Ab;have p9:Bc w2 (γ 9) w1.heap.size #[.bool false,.slice none 0 0] 26:=Av.get hF 9 Ab;clear hF;simp only[Bd,Nat.reduceAdd];generalize γ 0=g0 at *;generalize γ 5=g5 at *;generalize γ 7=g7 at *;generalize γ 9=g9 at *;clear γ;obtain⟨a5,rfl,-⟩:=p5;obtain⟨gc,rfl,hgc,ec⟩:=p9
  obtain⟨b5,A5,n5,c5,rfl⟩:=p7.cells;clear cea0 cea1 p0;have cec:=ec.cells2;have fec:=ec.frozen;go_wp2;skip;obtain⟨W4,eW,ec',U⟩:=ec.put2 (.bool b5) (.slice A5 n5 c5);rw[<-eW];clear eW ec;replace p7:=p7.kd U.kd;replace hx2:=U.from_ hx2 Ak;have ec:=ec';clear U ec'
  go_meet
  case rel=>exact⟨gc,rfl,rfl,BA.mk ec p7,Aa,hx2⟩
 case rest =>
  clear cea0 cea1 fea hsz1;obtain⟨gx,rfl,rfl,ex,hgx,hx2⟩:=hcut;replace ea:=ea.ext hx2;replace ez:=ez.ext hx2;replace hx:=hx.trans hx2;clear hx2;rename_i wx
  go_wp2_with fail
  refine AR (Jn 2 _ Aa Aa) ?_;rintro r3 w3 hr3 hx3;obtain⟨b6,A6,n6,c6,rfl⟩:=hr3.cells;replace ea:=ea.ext hx3;replace ez:=ez.ext hx3;replace ex:=ex.ext hx3;replace hx:=hx.trans hx3;clear hx3;obtain⟨W0,eW,et,x0⟩:=Be.made w3 26 #[.bool b6,.slice A6 n6 c6] (by simp[Ag]);have ht:=BA.mk et (hr3.kd x0.kd);have hgt:=ex.lt;replace ea:=ea.ext x0;replace ez:=ez.ext x0;replace ex:=ex.ext x0;replace hx:=hx.trans x0
  clear x0;clear et hr3;go_wp2;rw[<-eW];clear eW;generalize w3.heap.size=gt at *
  go_loopw [13] (fun _ wr=>∃ x:Int,0 < x/\sz x.natAbs<=20000/\Be wr w.heap.size 26 #[.bool b1,.slice A1 n1 c1]/\Be wr (w.heap.size+1) 26 #[.bool false,.slice none 0 0]/\BA wr gx 26 x/\BA wr gt 26 2/\Ext w wr) (fun _ wr=>kH wr gx 26)
  case atStart=>exact⟨2^k,Int.pow_pos Ab,by have:=Jj k;omega,ea,ez,ex,ht,hx⟩
  case round =>
   clear ea ez ex ht hx;obtain⟨x,hx0,hxs,ea,ez,⟨b7,A7,n7,c7,ex,hxz⟩,ht,hx⟩:=hrel;have Hb2:=Ad (Qg (BA.mk ex hxz));have Hx:=Ad (Au hx0 hxs);clear hx0 hxs;have Hxz:=Ad hxz;clear hxz;obtain⟨cea0,cea1⟩:=ea.cells2;have fea:=ea.frozen;obtain⟨cex0,cex1⟩:=ex.cells2;have fex:=ex.frozen
   go_wp2_with fail
   refine AR (Kv _ _ Y x _ (HV.out.ext hx) (Hxz.out.has (by have:=Hx.out.2;omega))) ?_;rintro r4 w4 ⟨q0,m0,rfl,hq,hm⟩ hx4;rw[if_neg (by have:=Hx.out.1;omega)];obtain⟨b8,A8,n8,c8,rfl⟩:=hq.cells;obtain⟨b9,A9,n9,c9,rfl⟩:=hm.cells;have HQ:=Ad hq;have HXZ:=Ad (Hxz.out.ext hx4);clear hm hq Hxz cea0 cea1 fea cex0 cex1 fex;replace ea:=ea.ext hx4;replace ez:=ez.ext hx4;replace ex:=ex.ext hx4;replace ht:=ht.ext hx4
   replace hx:=hx.trans hx4;clear hx4;obtain⟨W5,eW5,e8,x5⟩:=Be.made w4 26 #[.bool b8,.slice A8 n8 c8] (by simp[Ag]);obtain⟨W6,eW6,-,x6⟩:=Be.made W5 26 #[.bool b9,.slice A9 n9 c9] (by simp[Ag]);replace e8:=e8.ext x6;have x56:=x5.trans x6;have HQ6:=Ad (Au (HQ.out.ext x56) (HXZ.out.ext x56));clear HQ HXZ;replace ea:=ea.ext x56;replace ez:=ez.ext x56;replace ex:=ex.ext x56;replace ht:=ht.ext x56;replace hx:=hx.trans x56
   clear x56;clear x5 x6
   go_upto_region 6 with(fail)
   rw[<-eW5,<-eW6];clear eW5 eW6;generalize w4.heap.size=g8 at *;obtain⟨b6,A6,n6,c6,et,htz⟩:=ht;have Htz:=Ad htz;clear htz;have hsum:sz (x+Y / x).natAbs<=30000:=by
    have h1:=Bf (Int.natAbs_add_le x (Y / x));have h2:=Gi x.natAbs (Y / x).natAbs;have h3:=Bf (Int.natAbs_ediv_le_natAbs Y x);have:=Hx.out.2;have:=HA.out.2;omega
   have hq9:sz (Y / x).natAbs<=1000:=Nat.le_trans (Bf (Int.natAbs_ediv_le_natAbs Y x)) HA.out.2;have HS:=Ad (Au hsum hq9);clear hsum hq9;have hlt6:=ez.lt;obtain⟨cex0,cex1⟩:=ex.cells2;have fex:=ex.frozen;have ce8:=e8.cells2;have fe8:=e8.frozen;have cet:=et.cells2;have fet:=et.frozen
   go_cut [11,12,13] (fun pv qv ev wx=>∃ gc,pv = .pointer (some ⟨gc,0,none⟩)/\BA wx gc 26 ((x+Y / x) / 2)/\w.heap.size+1 < gc/\Ext W6 wx)
   case first =>
    refine Bu 11 [7,8] (fun x=>if x=7 then 12 else 13) [36,37,38,39,40,35,41,42,43,11,12] [[],[],[0,1],[],[0,1,2,3],[0,1,2,3,4],[0,1,2,3,4,5],[0,1,2,3,4,5],[0,1,2,3,4,5],[],[],[0,1,2,3,4,5,6,9,10],[0,1,2,3,4,5,6,7,9,10,11],[0,1,2,3,4,5,6,7,8,9,10,11,12]] [5,8,7] [_,_,_] [(kv ?_),(kv ?_),(fun γ=>γ 2),(kv ?_),(fun γ=>γ 4),(fun γ=>γ 4),(fun γ=>γ 6),(fun γ=>γ 7),(kv ?_),(fun γ=>γ 9),(fun γ=>γ 10)] (fun γ w'=>[True,True,AC w' (γ 2) (x+Y / x),True,MX (x+Y / x) 2 (γ 4) w',True,AC w' (γ 6) ((x+Y / x) / 2),dL (γ 4) (γ 7),True,Bc w' (γ 9) W6.heap.size #[.bool false,.slice none 0 0] 26,Bc w' (γ 10) W6.heap.size #[.bool false,.slice none 0 0] 26]) Kg BU BU BU BU BU Nb BU Kw ?m2 ?s2 ?_ ?l2
    case s2 =>
     iterate 11 refine⟨?_,?_⟩
     trivial
     iterate 2 focus
      refine Ba fun _ w' he R hR=>?_;have hc:=he.cells;have cq0:=he.cell cex0;have cq1:=he.cell cex1;have cq2:=(e8.ext he).cells2;have cq3:=(et.ext he).cells2;go_simp;exact Bi hR
     ·refine Ba fun _ w' he R hR=>?_
      go_simp;exact Bg (N8 _ _ x (Y / x) w' ((HQ6.out.2.ext he).has (by have:=Hx.out.2;omega)) ((HQ6.out.1.ext he).has (by have:=HS.out.2;omega))) hR
     iterate 1 focus
      refine Ba fun _ w' he R hR=>?_;have hc:=he.cells;have cq0:=he.cell cex0;have cq1:=he.cell cex1;have cq2:=(e8.ext he).cells2;have cq3:=(et.ext he).cells2;go_simp;exact Bi hR
     ·refine FO fun γ w' he hf R hR=>?_;have f2:AC w' (γ 2) (x+Y / x):=hf 2 Ab;clear hf
      go_simp;exact Bg (Kv _ _ _ 2 w' (f2.has (by have:=HS.out.1;omega)) ((Htz.out.ext he).has Ab)) hR
     ·refine Ba fun _ w' he R hR=>?_
      have hc:=he.cells;go_simp
      (try go_ints);(try(rw[if_neg Aa]));(try(rw[if_pos Aa]));(try go_simp);(try go_ints)
      exact Bi hR
     ·refine FO fun γ w' he hf R hR=>?_;have f4:MX (x+Y / x) 2 (γ 4) w':=hf 4 Ab;clear hf
      obtain⟨q',m',e,ha,hb⟩:=f4;go_simp;exact hR _ _ (Ext.refl _) rfl ha
     ·refine FO fun γ w' he hf R hR=>?_;have f4:MX (x+Y / x) 2 (γ 4) w':=hf 4 Ab;clear hf
      obtain⟨q',m',e,ha,hb⟩:=f4;go_simp;exact hR _ _ (Ext.refl _) rfl ⟨_,_,e⟩
     ·refine FO fun γ w' he hf R hR=>?_;have f4:MX (x+Y / x) 2 (γ 4) w':=hf 4 Ab;clear hf
      obtain⟨q',m',e,ha⟩:=f4;have hc:=he.cells;go_simp
      (try go_ints);(try(rw[if_neg Aa]));(try(rw[if_pos Aa]));(try go_simp);(try go_ints)
      exact Bi hR
     ·refine Ba fun _ w' he R hR=>?_
      go_simp;exact hR _ _ ((Ext.refl _).alloc _) rfl (Bc.mk (Nat.le_trans Ac he.size) (by simp[Ag]))
     ·refine Ba fun _ w' he R hR=>?_
      go_simp;exact hR _ _ ((Ext.refl _).alloc _) rfl (Bc.mk (Nat.le_trans Ac he.size) (by simp[Ag]))
    case m2 =>
     exact⟨⟨⟨⟨⟨⟨⟨⟨⟨⟨⟨trivial,(fun γ wA w' e h=>h)⟩,(fun γ wA w' e h=>h)⟩,(fun γ wA w' e h=>(show AC wA (γ 2) (x+Y / x)from h).ext e)⟩,(fun γ wA w' e h=>h)⟩,(fun γ w w' e h=>Yt h e)⟩,(fun γ wA w' e h=>h)⟩,(fun γ w w' e h=>AC.ext_ h e)⟩,(fun γ w w' e h=>h)⟩,(fun γ wA w' e h=>h)⟩,(fun γ wA w' e h=>(show Bc wA (γ 9) W6.heap.size #[.bool false,.slice none 0 0] 26 from h).ext e)⟩,(fun γ wA w' e h=>(show Bc wA (γ 10) W6.heap.size #[.bool false,.slice none 0 0] 26 from h).ext e)⟩
    case l2 =>
     intro Pn hPs hPn;rcases jK hPs hPn with rfl | rfl | rfl<;>clear hPs hPn
     ·intro γ w7 hx7 hF hA
      have na9x10:γ 9≠γ 10:=hA 9 10 Ab Ab Ab Ab Ab ⟨_,_,rfl,rfl⟩ ⟨_,_,rfl,rfl⟩;clear hA;have p2:AC w7 (γ 2) (x+Y / x):=(Av.get hF 2 Ab).resolve_left Ab;have p4:MX (x+Y / x) 2 (γ 4) w7:=(Av.get hF 4 Ab).resolve_left Ab;have p6:AC w7 (γ 6) ((x+Y / x) / 2):=(Av.get hF 6 Ab).resolve_left Ab;have p9:Bc w7 (γ 9) W6.heap.size #[.bool false,.slice none 0 0] 26:=(Av.get hF 9 Ab).resolve_left Ab;have p10:Bc w7 (γ 10) W6.heap.size #[.bool false,.slice none 0 0] 26:=(Av.get hF 10 Ab).resolve_left Ab
      clear hF;show AP _ _ _ _ 4 [7] 11 _ _;simp only[Bd,Nat.reduceAdd,Co,Vn];generalize γ 2=g2 at *;generalize γ 4=g4 at *;generalize γ 6=g6 at *;generalize γ 9=g9 at *;generalize γ 10=g10 at *;clear γ;obtain⟨q4,m4,rfl,ha4,hb4⟩:=p4;obtain⟨bm,Am,nm,cm,rfl⟩:=hb4.cells
      (try(obtain⟨_,_,h7⟩:=p7;cases h7))
      obtain⟨gc,rfl,hgc,ec⟩:=p9;obtain⟨gd,rfl,hgd,ed⟩:=p10;have hcd:gc≠gd:=fun e=>na9x10 (by rw[e]);clear na9x10;obtain⟨bq,Aq,nq,cq,rfl⟩:=p6.cells;clear cex0 cex1 ce8 cet p2 ha4 hb4;have cec:=ec.cells2;have fec:=ec.frozen;have ced:=ed.cells2;have fed:=ed.frozen
      repeat' first
       | (refine AP.nil ?_;simp only[GM];go_wp2;done)
       | (refine AP.nil ?_;(try simp only[GM]);go_wp2)
       | (refine AP.mk _ ⟨?_,trivial⟩ (fun h=>?_)<;>first | exact absurd h Ab | ((try clear h);simp only[CX,GM];go_wp2;first | show AP _ _ _ _ _ [7] _ _ _ | show AP _ _ _ _ _ [8] _ _ _ | show AP _ _ _ _ _ [] _ _ _ | show AP _ _ _ _ _ [7,8] _ _ _))
      all_goals
       skip;obtain⟨W4,eW,ec',U⟩:=ec.put2 (.bool bq) (.slice Aq nq cq);rw[<-eW];clear eW ec;replace p6:=p6.kd U.kd;replace ed:=ed.upd U Ak;replace hx7:=U.from_ hx7 Ak;have ec:=ec';clear U ec';obtain⟨W8,eW,ed',U⟩:=ed.put2 (.bool bm) (.slice Am nm cm);rw[<-eW];clear eW ed;replace p6:=p6.kd U.kd;replace ec:=ec.upd U Ak;replace hx7:=U.from_ hx7 Ak;have ed:=ed';clear U ed'
       go_meet
       case rel=>exact⟨gc,rfl,BA.mk ec p6,Aa,hx7⟩
     ·intro γ w7 hx7 hF hA
      have na9x10:γ 9≠γ 10:=hA 9 10 Ab Ab Ab Ab Ab ⟨_,_,rfl,rfl⟩ ⟨_,_,rfl,rfl⟩;clear hA;have p2:AC w7 (γ 2) (x+Y / x):=(Av.get hF 2 Ab).resolve_left Ab;have p4:MX (x+Y / x) 2 (γ 4) w7:=(Av.get hF 4 Ab).resolve_left Ab;have p6:AC w7 (γ 6) ((x+Y / x) / 2):=(Av.get hF 6 Ab).resolve_left Ab;have p7:dL (γ 4) (γ 7):=(Av.get hF 7 Ab).resolve_left Ab;have p9:Bc w7 (γ 9) W6.heap.size #[.bool false,.slice none 0 0] 26:=(Av.get hF 9 Ab).resolve_left Ab
      have p10:Bc w7 (γ 10) W6.heap.size #[.bool false,.slice none 0 0] 26:=(Av.get hF 10 Ab).resolve_left Ab;clear hF;show AP _ _ _ _ 4 [8] 11 _ _;simp only[Bd,Nat.reduceAdd,Co,Vn];generalize γ 2=g2 at *;generalize γ 4=g4 at *;generalize γ 6=g6 at *;generalize γ 7=g7 at *;generalize γ 9=g9 at *;generalize γ 10=g10 at *;clear γ;obtain⟨q4,m4,rfl,ha4,hb4⟩:=p4;obtain⟨bm,Am,nm,cm,rfl⟩:=hb4.cells
      (try(obtain⟨_,_,h7⟩:=p7;cases h7))
      obtain⟨gc,rfl,hgc,ec⟩:=p9;obtain⟨gd,rfl,hgd,ed⟩:=p10;have hcd:gc≠gd:=fun e=>na9x10 (by rw[e]);clear na9x10;obtain⟨bq,Aq,nq,cq,rfl⟩:=p6.cells;clear cex0 cex1 ce8 cet p2 ha4 hb4;have cec:=ec.cells2;have fec:=ec.frozen;have ced:=ed.cells2;have fed:=ed.frozen
      repeat' first
       | (refine AP.nil ?_;simp only[GM];go_wp2;done)
       | (refine AP.nil ?_;(try simp only[GM]);go_wp2)
       | (refine AP.mk _ ⟨?_,trivial⟩ (fun h=>?_)<;>first | exact absurd h Ab | ((try clear h);simp only[CX,GM];go_wp2;first | show AP _ _ _ _ _ [7] _ _ _ | show AP _ _ _ _ _ [8] _ _ _ | show AP _ _ _ _ _ [] _ _ _ | show AP _ _ _ _ _ [7,8] _ _ _))
      all_goals
       skip;obtain⟨W4,eW,ec',U⟩:=ec.put2 (.bool bq) (.slice Aq nq cq);rw[<-eW];clear eW ec;replace p6:=p6.kd U.kd;replace ed:=ed.upd U Ak;replace hx7:=U.from_ hx7 Ak;have ec:=ec';clear U ec';obtain⟨W8,eW,ed',U⟩:=ed.put2 (.bool bm) (.slice Am nm cm);rw[<-eW];clear eW ed;replace p6:=p6.kd U.kd;replace ec:=ec.upd U Ak;replace hx7:=U.from_ hx7 Ak;have ed:=ed';clear U ed'
       go_meet
       case rel=>exact⟨gc,rfl,BA.mk ec p6,Aa,hx7⟩
     ·intro γ w7 hx7 hF hA
      have na9x10:γ 9≠γ 10:=hA 9 10 Ab Ab Ab Ab Ab ⟨_,_,rfl,rfl⟩ ⟨_,_,rfl,rfl⟩;clear hA;have p2:AC w7 (γ 2) (x+Y / x):=(Av.get hF 2 Ab).resolve_left Ab;have p4:MX (x+Y / x) 2 (γ 4) w7:=(Av.get hF 4 Ab).resolve_left Ab;have p6:AC w7 (γ 6) ((x+Y / x) / 2):=(Av.get hF 6 Ab).resolve_left Ab;have p9:Bc w7 (γ 9) W6.heap.size #[.bool false,.slice none 0 0] 26:=(Av.get hF 9 Ab).resolve_left Ab;have p10:Bc w7 (γ 10) W6.heap.size #[.bool false,.slice none 0 0] 26:=(Av.get hF 10 Ab).resolve_left Ab
      clear hF;show AP _ _ _ _ 5 [7,8] 11 _ _;simp only[Bd,Nat.reduceAdd,Co,Vn];generalize γ 2=g2 at *;generalize γ 4=g4 at *;generalize γ 6=g6 at *;generalize γ 9=g9 at *;generalize γ 10=g10 at *;clear γ;obtain⟨q4,m4,rfl,ha4,hb4⟩:=p4;obtain⟨bm,Am,nm,cm,rfl⟩:=hb4.cells
      (try(obtain⟨_,_,h7⟩:=p7;cases h7))
      obtain⟨gc,rfl,hgc,ec⟩:=p9;obtain⟨gd,rfl,hgd,ed⟩:=p10;have hcd:gc≠gd:=fun e=>na9x10 (by rw[e]);clear na9x10;obtain⟨bq,Aq,nq,cq,rfl⟩:=p6.cells;clear cex0 cex1 ce8 cet p2 ha4 hb4;have cec:=ec.cells2;have fec:=ec.frozen;have ced:=ed.cells2;have fed:=ed.frozen
      repeat' first
       | (refine AP.nil ?_;simp only[GM];go_wp2;done)
       | (refine AP.nil ?_;(try simp only[GM]);go_wp2)
       | (refine AP.mk _ ⟨?_,?_,trivial⟩ (fun h=>?_)<;>first | exact absurd h Ab | ((try clear h);simp only[CX,GM];go_wp2;first | show AP _ _ _ _ _ [7] _ _ _ | show AP _ _ _ _ _ [8] _ _ _ | show AP _ _ _ _ _ [] _ _ _ | show AP _ _ _ _ _ [7,8] _ _ _))
       | (refine AP.mk _ ⟨?_,trivial⟩ (fun h=>?_)<;>first | exact absurd h Ab | ((try clear h);simp only[CX,GM];go_wp2;first | show AP _ _ _ _ _ [7] _ _ _ | show AP _ _ _ _ _ [8] _ _ _ | show AP _ _ _ _ _ [] _ _ _ | show AP _ _ _ _ _ [7,8] _ _ _))
      all_goals
       skip;obtain⟨W4,eW,ec',U⟩:=ec.put2 (.bool bq) (.slice Aq nq cq);rw[<-eW];clear eW ec;replace p6:=p6.kd U.kd;replace ed:=ed.upd U Ak;replace hx7:=U.from_ hx7 Ak;have ec:=ec';clear U ec';obtain⟨W8,eW,ed',U⟩:=ed.put2 (.bool bm) (.slice Am nm cm);rw[<-eW];clear eW ed;replace p6:=p6.kd U.kd;replace ec:=ec.upd U Ak;replace hx7:=U.from_ hx7 Ak;have ed:=ed';clear U ed'
       go_meet
       case rel=>exact⟨gc,rfl,BA.mk ec p6,Aa,hx7⟩
    intro γ w7 hx7 hF hA;have na9x10:γ 9≠γ 10:=hA 9 10 Ab Ab Ab ⟨_,_,rfl,rfl⟩ ⟨_,_,rfl,rfl⟩;clear hA;have p2:AC w7 (γ 2) (x+Y / x):=Av.get hF 2 Ab;have p4:MX (x+Y / x) 2 (γ 4) w7:=Av.get hF 4 Ab;have p6:AC w7 (γ 6) ((x+Y / x) / 2):=Av.get hF 6 Ab;have p7:dL (γ 4) (γ 7):=Av.get hF 7 Ab;have p9:Bc w7 (γ 9) W6.heap.size #[.bool false,.slice none 0 0] 26:=Av.get hF 9 Ab;have p10:Bc w7 (γ 10) W6.heap.size #[.bool false,.slice none 0 0] 26:=Av.get hF 10 Ab
    clear hF;simp only[Bd,Nat.reduceAdd];generalize γ 2=g2 at *;generalize γ 4=g4 at *;generalize γ 6=g6 at *;generalize γ 7=g7 at *;generalize γ 9=g9 at *;generalize γ 10=g10 at *;clear γ;obtain⟨q4,m4,rfl,ha4,hb4⟩:=p4;obtain⟨bm,Am,nm,cm,rfl⟩:=hb4.cells
    (try(obtain⟨_,_,h7⟩:=p7;cases h7))
    obtain⟨gc,rfl,hgc,ec⟩:=p9;obtain⟨gd,rfl,hgd,ed⟩:=p10;have hcd:gc≠gd:=fun e=>na9x10 (by rw[e]);clear na9x10;obtain⟨bq,Aq,nq,cq,rfl⟩:=p6.cells;clear cex0 cex1 ce8 cet p2 ha4 hb4;have cec:=ec.cells2;have fec:=ec.frozen;have ced:=ed.cells2;have fed:=ed.frozen;go_wp2;skip;obtain⟨W4,eW,ec',U⟩:=ec.put2 (.bool bq) (.slice Aq nq cq);rw[<-eW];clear eW ec;replace p6:=p6.kd U.kd;replace ed:=ed.upd U Ak;replace hx7:=U.from_ hx7 Ak
    have ec:=ec';clear U ec';obtain⟨W8,eW,ed',U⟩:=ed.put2 (.bool bm) (.slice Am nm cm);rw[<-eW];clear eW ed;replace p6:=p6.kd U.kd;replace ec:=ec.upd U Ak;replace hx7:=U.from_ hx7 Ak;have ed:=ed';clear U ed'
    go_meet
    case rel=>exact⟨gc,rfl,BA.mk ec p6,Aa,hx7⟩
   case rest =>
    clear cex0 cex1 fex ce8 fe8 cet fet hlt6;obtain⟨gc,rfl,⟨bq,Aq,nq,cq,ec,hy⟩,hgc,hx7⟩:=hcut;rename_i wy;have Hy:=Ad (Au hy (Au (HQ6.out.2.ext hx7) (Te HA.out.1 Hx.out.1)));have HT:=Ad (Htz.out.ext hx7);clear hy HQ6 e8 Htz;replace ea:=ea.ext hx7;replace ez:=ez.ext hx7;replace ex:=ex.ext hx7;replace et:=et.ext hx7;replace hx:=hx.trans hx7;clear hx7;obtain⟨cex0,cex1⟩:=ex.cells2;have fex:=ex.frozen;have cec:=ec.cells2
    have fec:=ec.frozen
    go_wp2_with fail
    refine AR (bB _ _ ((x+Y / x) / 2) x _ (Hy.out.1.has (by have h1:=Int.natAbs_ediv_le_natAbs (x+Y / x) 2;have h2:=Bf h1;have:=HS.out.1;omega)) (Hy.out.2.1.has (by have:=Hx.out.2;omega))) ?_;rintro r10 w10 rfl hx10;have Hy':=Ad (Hy.out.1.ext_ hx10);have Hx':=Ad (Hy.out.2.1.ext_ hx10);have HT':=Ad (HT.out.ext_ hx10);clear cex0 cex1 fex cec fec HT;replace ea:=ea.ext hx10;replace ez:=ez.ext hx10;replace ex:=ex.ext hx10
    replace et:=et.ext hx10;replace ec:=ec.ext hx10;replace hx:=hx.trans hx10;clear hx10;by_cases hge:(x+Y / x) / 2 < x
    ·have hsg:((x+Y / x) / 2 - x).sign = -1:=Int.sign_eq_neg_one_of_neg Aa
     rw[hsg];obtain⟨cex0,cex1⟩:=ex.cells2;have fex:=ex.frozen;have cec:=ec.cells2;have fec:=ec.frozen
     go_upto_region 8 with(fail)
     have hy:=Hy'.out;have ht:=HT'.out;go_wp2;have hxg:=ex.lt;obtain⟨W11,eW,ex',U⟩:=ex.put2 (.bool bq) (.slice Aq nq cq);rw[<-eW];clear eW ex;replace hy:=hy.kd U.kd;replace ht:=ht.kd U.kd;replace ea:=ea.upd U Ak;replace ez:=ez.upd U Ak;replace et:=et.upd U Ak;replace hx:=U.from_ hx Ak;have ex:=ex';clear U ex';have hb1:=Qg (BA.mk ex hy);have hpos:=Hy.out.2.2;have hx0:=Hx.out.1;have hmul:((x+Y / x) / 2).natAbs < x.natAbs:=by omega
     go_roundw
     case rel=>exact⟨(x+Y / x) / 2,hpos,Nat.le_trans (Bf (Nat.le_of_lt hmul)) Hx.out.2,ea,ez,BA.mk ex hy,BA.mk et ht,hx⟩
     case measure=>rw[hb1,Hb2.out];exact hmul
    ·have hsg:0<=((x+Y / x) / 2 - x).sign:=by
      rcases Int.lt_or_eq_of_le (show 0<=(x+Y / x) / 2 - x by omega)with q | q
      ·rw[Int.sign_eq_one_of_pos q];decide
      ·rw[<-q];decide
     generalize ((x+Y / x) / 2 - x).sign=sg at *;have hmz:sz (x*x).natAbs<=1099511627776:=by
      rw[Int.natAbs_mul];have:=Ca x.natAbs x.natAbs;have:=Hx.out.2;omega
     have HM:=Ad hmz;clear hmz;obtain⟨cex0,cex1⟩:=ex.cells2;have fex:=ex.frozen;obtain⟨cea0,cea1⟩:=ea.cells2;have fea:=ea.frozen;have cez:=ez.cells2;have fez:=ez.frozen
     go_upto_region 9 with(fail)
     have hxz:=Hx'.out;clear ec hge hgc;refine Bu 7 [6] (fun x=>8) [49,50,51,52,53,54,55] [[],[],[],[1,2],[],[1,2,3,4],[1,2,3,4,5],[0,1,2,3,4,5],[0,1,2,3,4,5,6,7],[0,1,2,3,4,5,6,7,8]] [5,1] [_,_] [(kv ?_),(kv ?_),(kv ?_),(fun γ=>γ 3),(kv ?_),(kv (.int .i64 (x*x - Y).sign)),(kv (.bool ((x*x - Y).sign==0)))] (fun γ w'=>[True,True,True,AC w' (γ 3) (x*x),True,True,True]) Kg BU BU BU BU BU Nb BU Kw V4 ?s3 ?_ ?l3
     case s3 =>
      iterate 7 refine⟨?_,?_⟩
      trivial
      iterate 3 focus
       refine Ba fun _ w' he R hR=>?_;have hc:=he.cells;have cq0:=he.cell cex0;have cq1:=he.cell cex1;have cq2:=he.cell cea0;have cq3:=he.cell cea1;go_simp;exact Bi hR
      ·refine Ba fun _ w' he R hR=>?_
       go_simp;exact Bg (Dr _ _ x x w' ((Hx'.out.ext_ he).has (by have:=Hx.out.2;omega)) ((Hx'.out.ext_ he).has (by have:=Hx.out.2;omega))) hR
      iterate 1 focus
       refine Ba fun _ w' he R hR=>?_;have hc:=he.cells;have cq0:=he.cell cex0;have cq1:=he.cell cex1;have cq2:=he.cell cea0;have cq3:=he.cell cea1;go_simp;exact Bi hR
      ·refine FO fun γ w' he hf R hR=>?_;have f3:AC w' (γ 3) (x*x):=hf 3 Ab;clear hf
       go_simp;exact Jq (bB _ _ (x*x) Y w' (f3.has HM.out) (HV.out.ext (hx.trans he))) hR
      ·refine Ba fun _ w' he R hR=>?_
       have hc:=he.cells;go_simp
       (try go_ints);(try(rw[if_neg Aa]));(try(rw[if_pos Aa]));(try go_simp);(try go_ints)
       exact Bi hR
     case l3 =>
      intro Pn hPs hPn;obtain rfl:=Ii hPs hPn;clear hPs hPn
      ·intro γ w11 hx11 hF hA
       clear hA;have p3:AC w11 (γ 3) (x*x):=(Av.get hF 3 Ab).resolve_left Ab;clear hF;show AP _ _ _ _ 4 [6] 7 _ _;simp only[Bd,Nat.reduceAdd,Co,Vn];generalize γ 3=g3 at *;clear γ;skip;clear cex0 cex1 fex cea0 cea1 fea cez fez p3;replace hxz:=hxz.ext_ hx11;replace ez:=ez.ext hx11;replace hx:=hx.trans hx11;clear hx11;have cez:=ez.cells2;have fez:=ez.frozen
       repeat' first
        | (refine AP.nil ?_;simp only[GM];go_wp2;done)
        | (refine AP.nil ?_;(try simp only[GM]);go_wp2)
        | (refine AP.mk _ ⟨?_,trivial⟩ (fun h=>?_)<;>first | exact absurd h Ab | ((try clear h);simp only[CX,GM];go_wp2;first | show AP _ _ _ _ _ [6] _ _ _ | show AP _ _ _ _ _ [] _ _ _))
       all_goals
        skip;obtain⟨W12,eW,ez',U⟩:=ez.put2 (.bool b7) (.slice A7 n7 c7);rw[<-eW];clear eW ez;replace hxz:=hxz.kd U.kd;replace hx:=U.from_ hx Ak;have ez:=ez';clear U ez';clear cez fez;have cez:=ez.cells2;have fez:=ez.frozen;refine bodyPost_ret (v := .tuple #[.agg #[.bool b7,.slice A7 n7 c7],.bool ((x*x - Y).sign==0),.int .i64 0]) (by simp[results,Tryz.results175,go_sem,cez]) rfl ?_;exact Ah.mk ⟨_,x,_,rfl,hxz,Hx.out.1,Hx.out.2⟩ hx
     intro γ w11 hx11 hF hA;clear hA;have p3:AC w11 (γ 3) (x*x):=Av.get hF 3 Ab;clear hF;simp only[Bd,Nat.reduceAdd];generalize γ 3=g3 at *;clear γ;skip;clear cex0 cex1 fex cea0 cea1 fea cez fez p3;replace hxz:=hxz.ext_ hx11;replace ez:=ez.ext hx11;replace hx:=hx.trans hx11;clear hx11;have cez:=ez.cells2;have fez:=ez.frozen;go_wp2;skip;obtain⟨W12,eW,ez',U⟩:=ez.put2 (.bool b7) (.slice A7 n7 c7);rw[<-eW]
     clear eW ez;replace hxz:=hxz.kd U.kd;replace hx:=U.from_ hx Ak;have ez:=ez';clear U ez';clear cez fez;have cez:=ez.cells2;have fez:=ez.frozen;refine bodyPost_ret (v := .tuple #[.agg #[.bool b7,.slice A7 n7 c7],.bool ((x*x - Y).sign==0),.int .i64 0]) (by simp[results,Tryz.results175,go_sem,cez]) rfl ?_;exact Ah.mk ⟨_,x,_,rfl,hxz,Hx.out.1,Hx.out.2⟩ hx
theorem eZ(v u:Value)(F G:Nat->Rat)(M:Nat)(w:World)(hv:AY 0 w v F)(hu:AY 0 w u G)(hs:∀ i,qsz (F i)<=M)(ht:∀ i,qsz (G i)<=M)(h0:G≠pz)(hn:pl F<=549755813888)(hm:pl G<=549755813888)(hst:M+(pl F+1)*(M+1)+M<=549755813888) :
  Bj 95 #[v,u] w ((aH w.heap.size (Gr F G (pl F+1 - pl G)) (D6 F G (pl F+1 - pl G)))):=by
 obtain⟨l,h1,h2,-,rfl⟩:=hv.hz (fun i=>by have:=hs i;omega);obtain⟨m,k1,k2,-,rfl⟩:=hu.hz (fun i=>by have:=ht i;omega);exact eT v u l m M M w h1 k1 hs ht Aa Aa h0 (by rw[h2];omega)
theorem IC(v:Value)(F:Nat->Rat)(w:World)(hv:AY 0 w v F)(hs:∀ i,qsz (F i)<=1099511627776)(hn:pl F<=1099511627776) :
  Bj 85 #[v] w (fun r w'=>AY w.heap.size w' r (pp F)):=by
 obtain⟨l,h1,h2,-,rfl⟩:=hv.hz hs;exact Fp v l w h1 Aa
theorem VD(v u:Value)(F:Nat->Rat)(a:Int)(w:World)(hv:AY 0 w v F)(hs:∀ i,qsz (F i)<=1099511627776)(hu:Bh w u a)(hn:pl F<=1099511627776) :
  Bj 96 #[v,u] w (fun r w'=>AY 0 w' r (psc (a:Rat) F)):=by
 obtain⟨l,h1,h2,-,rfl⟩:=hv.hz hs;exact Ah.imp (QP v u l a w h1 hu Aa) fun _ _ h=>h.base_le (Nat.zero_le _)
open Go.Deep Go.ChangeShapes Go.ChangeAt
section
variable{H:Type}{enc:TypeId×Value->H}{w:World}{spare:Nat->Bool}{held:Bool}
theorem Wd{fuel:Nat}{cs:List Value}{x:DataW H×List MemPlace}(h:DataW.trod enc Tryz.prog w 0 spare held fuel 24 cs=some x):∃ A n c ds,cs=[.slice A n c]/\BC w (.slice A n c) ds:=by
 rcases open_ints Tryz.underlying24 Tryz.underlying113 FB h with⟨rfl,_⟩ | ⟨a,n,c,zs,rfl,_,hl,hm,hz,_,hcell,hwz⟩
 ·exact⟨none,0,0,[],rfl,none,0,rfl,Nat.le_refl _,Aa,fun d hd=>by simp at hd,fun h=>by simp at h⟩
 ·have hzl:n<=zs.length:=by rw[hz];split<;>omega
  have hw:∀ z∈zs,0<=z/\z < 4294967296:=fun z hz=>by
   have:=hwz z hz;simp[Lit.wf]at this;have e1:IntKind.u32.min=0:=rfl;have e2:IntKind.u32.max=4294967295:=rfl;omega
  have hlen:((zs.take n).map Int.toNat).length=n:=by simp;omega
  refine⟨some a,n,c,(zs.take n).map Int.toNat,rfl,some a,c,by rw[hlen],by rw[hlen];exact hl,GJ hm,?_,fun _=>⟨a,rfl,fun j hj=>?_⟩⟩
  ·intro d hd
   obtain⟨z,hz1,rfl⟩:=List.mem_map.1 hd;have:=hw z (List.mem_of_mem_take hz1);omega
  ·rw[hlen]at hj
   have hjz:j < zs.length:=by omega
   rw[hcell j hjz,List.getElem_map,List.getElem_take];have:=hw zs[j] (List.getElem_mem hjz);rw[show zs.getD j 0=zs[j]from by rw[List.getD_eq_getElem?_getD,List.getElem?_eq_getElem hjz];rfl];congr 2;omega
set_option maxRecDepth 100000 in
theorem OA{fuel:Nat}{cs:List Value}{x:DataW H×List MemPlace}(h:DataW.trod enc Tryz.prog w 0 spare held fuel 26 cs=some x):∃ b A n c ds,cs=[.bool b,.slice A n c]/\BC w (.slice A n c) ds:=by
 obtain⟨y0,y1,n,_,hl,h0,h1⟩:=trod_struct2 Tryz.underlying26 h;rw[show Tryz.prog.cellsOf 26=2 from by kernel_rfl]at hl
 match cs,hl with
 | [c0,c1],_ =>
  rw[show Tryz.prog.cellsOf 4=1 from by kernel_rfl]at h0;rw[show Tryz.prog.cellsOf 24=1 from by kernel_rfl]at h1;obtain⟨b,e0,_⟩:=DataW.trod_bool Tryz.underlying4 h0;obtain⟨A,m,c,ds,e1,hd⟩:=Wd h1;simp at e0 e1;subst e0 e1;exact⟨b,A,m,c,ds,rfl,hd⟩
set_option maxRecDepth 100000 in
theorem Mm{fuel:Nat}{cs:List Value}{x:DataW H×List MemPlace}(h:DataW.trod enc Tryz.prog w 0 spare held fuel 28 cs=some x):∃ r:Raw,∃ cs':Array Value,cs=cs'.toList/\cs'.size=4/\EC w (.agg cs') r:=by
 obtain⟨y0,y1,n,_,hl,h0,h1⟩:=trod_struct2 Tryz.underlying28 h;rw[show Tryz.prog.cellsOf 28=4 from by kernel_rfl]at hl
 match cs,hl with
 | [c0,c1,c2,c3],_ =>
  rw[show Tryz.prog.cellsOf 26=2 from by kernel_rfl]at h0 h1;obtain⟨b,A,m,c,ds,e0,hd⟩:=OA h0;obtain⟨b',A',m',c',ds',e1,hd'⟩:=OA h1;simp at e0 e1;obtain⟨rfl,rfl⟩:=e0;obtain⟨rfl,rfl⟩:=e1;exact⟨(b,ds,b',ds'),#[.bool b,.slice A m c,.bool b',.slice A' m' c'],rfl,rfl,A,m,c,A',m',c',rfl,hd,hd'⟩
set_option maxRecDepth 100000 in
theorem Vo{T fuel:Nat}{v:Value}{x:DataW H×List MemPlace}(hT:Tryz.prog.underlying T=some (.slice 28))(h:DataW.trod enc Tryz.prog w 0 spare held fuel T v.cells.toList=some x)(hv:∃ a n c,v = .slice a n c):∃ l:List Raw,FZ w v l:=by
 obtain⟨a0,n0,c0,rfl⟩:=hv;rcases open_slice hT h with⟨hcs,_⟩ | ⟨a,n,c,m,k,D,Pl,hcs,_,hl,hm,hmm,_,hel⟩
 ·simp[Value.cells]at hcs
  obtain⟨rfl,rfl,rfl⟩:=hcs;exact⟨[],CE.nil 4 EC 0 w⟩
 ·simp[Value.cells]at hcs
  obtain⟨rfl,rfl,rfl⟩:=hcs;have hnm:n0<=m:=by rw[hmm];split<;>omega
  rw[show Tryz.prog.cellsOf 28=4 from by kernel_rfl]at hel;have key:∀ i,i < n0->∃ r:Raw,∃ cs:Array Value,cs.size=4/\(∀ j,j < 4->w.cell? ((a.add (i*4)).add j)=cs[j]?)/\EC w (.agg cs) r:=fun i hi=>by
   obtain⟨cs',h1,h2⟩:=hel i Aa;obtain⟨r,cs,rfl,h3,h4⟩:=Mm h2;obtain⟨_,h5,h6⟩:=World.cells?_some h1;exact⟨r,cs,h3,fun j hj=>by rw[h6 j hj];simp,h4⟩
  have hc:∀ n',n'<=n0->∃ l:List Raw,l.length=n'/\∀ i (h:i < l.length),∃ cs:Array Value,cs.size=4/\(∀ j,j < 4->w.cell? ((a.add (i*4)).add j)=cs[j]?)/\EC w (.agg cs) l[i]:=by
   intro n';induction n' with
   | zero=>intro _;exact⟨[],rfl,fun i h=>by simp at h⟩
   | succ n' ih =>
    intro hn;obtain⟨l,hl1,hl2⟩:=ih Aa;obtain⟨r,cs,k1,k2,k3⟩:=key n' Aa;refine⟨l ++ [r],by simp[hl1],fun i hi=>?_⟩;rcases Nat.lt_or_ge i l.length with h' | h'
    ·rw[List.getElem_append_left h'];exact hl2 i h'
    ·have e:i=n':=by simp at hi;omega
     subst e;refine⟨cs,k1,k2,?_⟩;rw[List.getElem_append_right h'];simpa[hl1] using k3
  obtain⟨l,hl1,hl2⟩:=hc n0 (Nat.le_refl _);refine⟨l,some a,c0,by rw[hl1],Aa,GJ hm,fun h0=>?_⟩;obtain⟨b,off,spot⟩:=a;obtain⟨cs,k1,k2,k3⟩:=hl2 0 h0;have hs:spot=none:=by
   have:=k2 0 Aa;rw[Array.getElem?_eq_getElem Aa]at this;simpa[Addr.add] using World.cell?_spot this
  subst hs;refine⟨b,off,rfl,Nat.zero_le _,fun j hj=>?_⟩;obtain⟨cs,k1,k2,k3⟩:=hl2 j hj;refine⟨cs,k1,fun i hi=>?_,k3⟩;rw[<-k2 i hi,IJ,IJ]
end
section
variable{H:Type}{enc:TypeId×Value->H}{w:World}{spare:Nat->Bool}{held:Bool}
end
theorem KZ(W:World)(base ty g:Nat)(v:Value)(l:List Int)(q:Int){b:Bool}{A:Option Addr}{n c:Nat}(h:Dq base 26 W v l)(hq:AC W (.agg #[.bool b,.slice A n c]) q)(hn:l.length<=1099511627776)(hb:base<=W.heap.size)(hg:g=W.heap.size) :
  ∃ v' w',(Builtin.append_ #[22,22] ty #[v,.slice (some ⟨g,0,none⟩) 1 1]).run Tryz.prog (W.alloc (.cells #[.bool b,.slice A n c] 26)) = .ok v' w'/\(Dq base 26 w' v' (l ++ [q])/\Cj (blk v) (W.alloc (.cells #[.bool b,.slice A n c] 26)) w'):=by
 subst hg;obtain⟨g,cs,e1,h1,h2,h3,h4⟩:=KW.mk hq (base:=W.heap.size) (Nat.le_refl _) 26;cases e1;obtain⟨i0,hi,hz0,hz1,hz2⟩:=info_parts Ki;have ho:=AC.one h4;have hx:=(Ext.refl W).alloc (.cells #[.bool b,.slice A n c] 26);obtain⟨v',w',a,b,c⟩:=BH.append (P:=Tryz.prog) (h.ext hx) 22 ty i0 _ 32 Tryz.underlying22 hi hz0 hz1 hz2 rfl (by simp[nodig,Ag,Value.cells]) Ab ⟨W.heap.size,0,none⟩ 1 cs h3 h4 h2.news ho.1 ho.2.1 (JF hn) Aa (Nat.le_trans hb hx.size) (fun _ _ _ k hq=>AC.kd hq k)
 exact⟨v',w',a,b,c⟩
theorem Le(v:Value)(l:List Int)(w:World)(hv:Ey 0 w v l)(hn:l.length<=1099511627776):Bj 47 #[v] w (fun r w'=>AY w.heap.size w' r (cz l)):=by
 have hqs:=hv.sz;obtain⟨A,c,rfl,hl,hc,hA⟩:=hv;have HA:Hid (Lj 0 w A l):=Ad hA;clear hA;have HQ:=Ad hqs;clear hqs
 go_enter Tryz.func47,Tryz.ntmps47
 go_wp2
 go_loopw [3,4] (fun ov iv wr=>∃ (k:Nat),k<=l.length/\iv = .int .i64 k/\Dq w.heap.size 26 wr ov (DF k (cz l))/\Ext w wr) (fun _ iv _=>l.length - (intOf iv).toNat)
 case atStart=>exact⟨0,Nat.zero_le _,rfl,BH.nil _ _ _ _ _,Ext.refl _⟩
 case round =>
  obtain⟨k,hk,rfl,hown,hx⟩:=hrel;by_cases hkl:k < l.length
  ·obtain⟨g,o,b,A1,n,c1,rfl,_,q0,q1,hq⟩:=HA.out.at_ (j:=k) hkl
   replace q0:=hx.cell q0;replace q1:=hx.cell q1;have Hq:=Ad (hq.kd hx.kd);clear hq
   go_wp2_with fail
   refine AR (FC _ _ _ Hq.out) ?_;rintro r w2 hr hx2;obtain⟨b5,A5,n5,c5,rfl⟩:=hr.cells;have Hr:=Ad hr;clear hr;replace hown:=hown.ext hx2;replace hx:=hx.trans hx2;have Hown:=Ad hown;clear hown;have hsz:=hx.size;clear hx2 q0 q1 Hq
   go_wp2_with (at_builtin;refine AO rfl _ _ 22 rfl u3 (.slice (some ⟨w2.heap.size,0,none⟩) 1 1) rfl rfl (KZ w2 w.heap.size _ _ _ _ _ Hown.out Hr.out (by first | (rw[Bb];omega) | omega) hsz rfl) ?_)
   first | intro v' w5 hown U | rintro v' w5 ⟨hown,U⟩
   replace hx:=(Hown.out.ext ((Ext.refl w2).alloc _)).from_ U (hx.alloc _) (Nat.le_refl _);have Hown':=Ad hown;clear hown U;go_wp2
   go_roundw
   case rel=>exact⟨k+1,Aa,by go_num,by rw[KE,Cb hkl];exact Hown'.out,hx⟩
   case measure=>simp[intOf]<;>omega
  ·obtain rfl:k=l.length:=by omega
   rw[gJ]at hown;obtain⟨A2,c2,rfl,h2,h3,h4⟩:=Dq.row hown;have Hrow:Hid (LJ w.heap.size wr A2 l):=Ad h4;clear h4 hown;have hx0:=hx;go_wp2;clear hx
   go_loopw [5] (fun nv wx=>∃ m:Nat,m<=l.length/\nv = .int .i64 m/\(∀ j,m<=j->(h:j < l.length)->l[j]=0)/\Ext wr wx) (fun nv _=>(intOf nv).toNat)
   case atStart=>exact⟨l.length,Nat.le_refl _,rfl,fun j h1 h2=>Aa,Ext.refl _⟩
   case round =>
    obtain⟨m,hm,rfl,hz,hx⟩:=hrel;have Hz:=Ad hz;clear hz;by_cases h0:0 < m
    ·obtain⟨m,rfl⟩:∃ k,m=k+1:=⟨m - 1,Aa⟩
     have hml:m < l.length:=by omega
     have Hrow':Hid (LJ w.heap.size _ A2 l):=Ad Hrow.out;obtain⟨g,o,b,A1,n,c1,rfl,hb,q0,q1,hq⟩:=Hrow'.out.at_ (j:=m) hml;replace q0:=hx.cell q0;replace q1:=hx.cell q1;have Hq:=Ad ((hq.has (HQ.out _ (List.getElem_mem hml))).kd hx.kd);clear hq
     go_wp2_with fail
     refine AR (MO _ l[m] _ Hq.out) ?_;rintro r w2 rfl hx2;by_cases hd0:l[m]'(Aa)=0
     ·have hb:(l[m].sign==0)=true:=by rw[hd0];rfl
      have Hd:=Ad hd0;clear hd0;go_wp2
      go_roundw
      case rel=>exact⟨m,Aa,by go_num,fun j h1 h2=>by
       rcases Nat.eq_or_lt_of_le h1 with e | e
       ·subst e;exact Hd.out
       ·exact Hz.out j Aa h2,hx.trans hx2⟩
      case measure=>simp[intOf]<;>omega
     ·have hb:(l[m].sign==0)=false:=by
       have:l[m].sign≠0:=fun e=>hd0 (Int.sign_eq_zero_iff_zero.1 e);simpa using this
      have Hd:=Ad hd0;clear hd0;go_wp2
      go_ret
      have hlen:=GQ hm Hz.out (fun h _=>by simpa using Hd.out);have hR:=(LZ.trim (Hrow.out.ext (hx.trans hx2)) h2 h3)
      rw[hlen]at hR;exact Ah.mk (AY.of_trim hR rfl) ((hx0.trans hx).trans hx2)
    ·obtain rfl:m=0:=by omega
     have hlen:=GQ hm Hz.out (fun h hh=>Aa);have hR:=(LZ.trim (Hrow.out.ext hx) h2 h3)
     rw[hlen]at hR;have HR:=Ad (Au hR hlen);clear hR hlen;go_wp2
     go_ret
     exact Ah.mk (AY.of_trim HR.out.1 rfl) (hx0.trans hx)
end Go.Proofs.YtmhgnigpmompmaaGreat
