/- Lemmas. -/
import Derived.Test.YtmhgnigpmompmaaGreatMg1
import Derived.Test.YtmhgnigpmompmaaGreatMg2
import Derived.Test.YtmhgnigpmompmaaGreatMg3
import Derived.ProofKit
import Derived.ChangeSlices
import Derived.Deep.Slices
import Derived.Deep.Cut
import Derived.Deep.DeepCutAuto
import Derived.Shelf.Strings.BuilderK
import Derived.Shelf.Strconv.Itoa3
import Derived.Test.YtmhgnigpmompmaaGreatChecked
import Derived.WalkKit
import Derived.Laws.IdiomStrings
import Derived.RangeFuncNested
import Derived.RangeFuncBound
import Derived.RangeFuncCalls
import Derived.RangeFuncLeaves
import Derived.Shelf.Abstract
import Derived.Shelf.RegionOpen
import Derived.OwnWalkIn
import Derived.TacticsInMore
import Derived.LoopNIn
import Derived.LoopIn
set_option linter.unusedVariables false
set_option linter.unusedSimpArgs false
set_option maxHeartbeats 16000000
namespace Go.Hp
open Go.RowKit
theorem Lt(b o i:Nat):(⟨b,o,none⟩:Addr).add i=⟨b,o+i,none⟩:=by unfold Addr.add;split<;>simp_all
abbrev Raw:=Bool×List Nat×Bool×List Nat
def Mt(w:World)(v:Value)(x:Raw):Prop:=∃ A n c A' n' c',v = .agg #[.bool x.1,.slice A n c,.bool x.2.2.1,.slice A' n' c']/\BM w (.slice A n c) x.2.1/\BM w (.slice A' n' c') x.2.2.2
def KW(w:World)(v:Value)(l:List Raw):Prop:=Da 4 Mt 0 w v l
theorem Mt.ext{w w':World}{v:Value}{x:Raw}(h:Mt w v x)(e:Ext w w'):Mt w' v x:=by
 obtain⟨A,n,c,A',n',c',h1,h2,h3⟩:=h;exact⟨A,n,c,A',n',c',h1,h2.ext e,h3.ext e⟩
theorem KW.ext{w w':World}{v:Value}{l:List Raw}(h:KW w v l)(e:Ext w w'):KW w' v l:=Da.ext h e fun _ _ q=>q.ext e
def Ve(x:Raw):Prop:=x.2.1.length<=2/\x.2.2.2.length<=2
def Ru(x:Raw):Rat:=Rat.divInt (iv x.1 x.2.1) (iv x.2.2.1 x.2.2.2)
theorem Tn(b:Bool)(ds:List Nat):(iv b ds).natAbs=nv ds:=by unfold iv;cases b<;>simp
theorem Tx{w:World}{v:Value}{ds:List Nat}(h:BM w v ds):sz (nv ds)<=ds.length:=by
 obtain⟨_,_,_,_,_,hA⟩:=h;exact Yf hA.1
theorem Mt.has{w:World}{v:Value}{x:Raw}(h:Mt w v x)(hs:Ve x):BC w v (Ru x)/\qsz (Ru x)<=2:=by
 obtain⟨A,n,c,A',n',c',rfl,h2,h3⟩:=h;have s1:=Tx h2;have s2:=Tx h3;obtain⟨k1,k2⟩:=hs;have e1:=Tn x.1 x.2.1;have e2:=Tn x.2.2.1 x.2.2.2;exact⟨⟨_,A,n,c,_,A',n',c',_,_,rfl,⟨_,_,⟨_,rfl,h2⟩,rfl,Aa⟩,⟨_,_,⟨_,rfl,h3⟩,rfl,Aa⟩,by rw[e1];omega,by rw[e2];omega,rfl⟩,
  Ed (by rw[e1];omega) (by rw[e2];omega) Aa⟩
theorem KW.has{w:World}{v:Value}{l:List Raw}(h:KW w v l)(hs:∀ x∈l,Ve x):Lv 0 w v (l.map Ru):=by
 obtain⟨A,c,h1,h2,h3,h4⟩:=h;refine⟨A,c,by simpa using h1,by simpa using h2,h3,fun h0=>?_⟩;obtain⟨g,o,q1,q2,q3⟩:=h4 (by simpa using h0);refine⟨g,o,q1,q2,fun j hj=>?_⟩;have hj':j < l.length:=by simpa using hj
 obtain⟨cs,r1,r2,r3⟩:=q3 j hj';refine⟨cs,r1,r2,?_⟩;rw[List.getElem_map];exact(r3.has (hs _ (List.getElem_mem hj'))).1
theorem KW.len{w:World}{v:Value}{l:List Raw}(h:KW w v l):∃ A c,v = .slice A l.length c/\l.length<=c/\c<=9223372036854775807:=by
 obtain⟨A,c,h1,h2,h3,h4⟩:=h;exact⟨A,c,h1,h2,h3⟩
theorem KW.at_{w:World}{A:Option Addr}{n c:Nat}{l:List Raw}(h:KW w (.slice A n c) l){j:Nat}(hj:j < l.length) :
  ∃ g o A1 n c A1' n' c',A=some ⟨g,o,none⟩/\w.cell? ⟨g,o+j*4,none⟩=some (.bool l[j].1)/\w.cell? ⟨g,o+j*4+1,none⟩=some (.slice A1 n c)/\w.cell? ⟨g,o+j*4+2,none⟩=some (.bool l[j].2.2.1)/\w.cell? ⟨g,o+j*4+3,none⟩=some (.slice A1' n' c')/\n=l[j].2.1.length/\n'=l[j].2.2.2.length:=by
 obtain⟨A',c',e1,h2,h3,h4⟩:=h;have e5:A'=A:=by injection e1 with h1;exact h1.symm
 subst e5;obtain⟨g,o,ha,hb,hc⟩:=h4 Aa;obtain⟨cs,q1,q2,q3⟩:=hc j hj;obtain⟨A1,n1,c1,A2,n2,c2,e,d1,d2⟩:=q3;obtain rfl:=Un e;obtain⟨_,_,f1,_⟩:=d1;obtain⟨_,_,f2,_⟩:=d2;exact⟨g,o,A1,n1,c1,A2,n2,c2,ha,q2 0 Aa,q2 1 Aa,q2 2 Aa,q2 3 Aa,by injection f1,by injection f2⟩
theorem Mt.cells{w:World}{v:Value}{x:Raw}(h:Mt w v x):∃ b A n c b' A' n' c',v = .agg #[.bool b,.slice A n c,.bool b',.slice A' n' c']:=by
 obtain⟨A,n,c,A',n',c',e,_⟩:=h;exact⟨_,A,n,c,_,A',n',c',e⟩
def Rx(w:World)(v:Value)(p:Rat×Rat):Prop:=
 ∃ b1 A1 n1 c1 b2 A2 n2 c2 b3 A3 n3 c3 b4 A4 n4 c4,v = .agg #[.bool b1,.slice A1 n1 c1,.bool b2,.slice A2 n2 c2,.bool b3,.slice A3 n3 c3,.bool b4,.slice A4 n4 c4] /\
  BC w (.agg #[.bool b1,.slice A1 n1 c1,.bool b2,.slice A2 n2 c2]) p.1/\BC w (.agg #[.bool b3,.slice A3 n3 c3,.bool b4,.slice A4 n4 c4]) p.2
theorem Rx.ext{w w':World}{v:Value}{p:Rat×Rat}(h:Rx w v p)(e:Ext w w'):Rx w' v p:=by
 obtain⟨b1,A1,n1,c1,b2,A2,n2,c2,b3,A3,n3,c3,b4,A4,n4,c4,h1,h2,h3⟩:=h;exact⟨b1,A1,n1,c1,b2,A2,n2,c2,b3,A3,n3,c3,b4,A4,n4,c4,h1,h2.ext e,h3.ext e⟩
def VN(w:World)(v:Value)(l:List (Rat×Rat)):Prop:=Da 8 Rx 0 w v l
def Yy(w:World)(A:Option Addr)(l:List (Rat×Rat)):Prop:=DU 8 Rx 0 w A l
theorem VN.ext{w w':World}{v:Value}{l:List (Rat×Rat)}(h:VN w v l)(e:Ext w w'):VN w' v l:=Da.ext h e fun _ _ q=>q.ext e
theorem Yy.at_{w:World}{A:Option Addr}{l:List (Rat×Rat)}(h:Yy w A l){j:Nat}(hj:j < l.length) :
  ∃ g o b1 A1 n1 c1 b2 A2 n2 c2 b3 A3 n3 c3 b4 A4 n4 c4,A=some ⟨g,o,none⟩/\w.cell? ⟨g,o+j*8,none⟩=some (.bool b1)/\w.cell? ⟨g,o+j*8+1,none⟩=some (.slice A1 n1 c1)/\w.cell? ⟨g,o+j*8+2,none⟩=some (.bool b2)/\w.cell? ⟨g,o+j*8+3,none⟩=some (.slice A2 n2 c2) /\
   w.cell? ⟨g,o+j*8+4,none⟩=some (.bool b3)/\w.cell? ⟨g,o+j*8+5,none⟩=some (.slice A3 n3 c3)/\w.cell? ⟨g,o+j*8+6,none⟩=some (.bool b4)/\w.cell? ⟨g,o+j*8+7,none⟩=some (.slice A4 n4 c4) /\
   BC w (.agg #[.bool b1,.slice A1 n1 c1,.bool b2,.slice A2 n2 c2]) l[j].1/\BC w (.agg #[.bool b3,.slice A3 n3 c3,.bool b4,.slice A4 n4 c4]) l[j].2:=by
 obtain⟨g,o,ha,hb,hc⟩:=h Aa;obtain⟨cs,q1,q2,q3⟩:=hc j hj;obtain⟨b1,A1,n1,c1,b2,A2,n2,c2,b3,A3,n3,c3,b4,A4,n4,c4,e,h1,h2⟩:=q3;obtain rfl:cs=#[.bool b1,.slice A1 n1 c1,.bool b2,.slice A2 n2 c2,.bool b3,.slice A3 n3 c3,.bool b4,.slice A4 n4 c4]:=by injection e
 exact⟨g,o,b1,A1,n1,c1,b2,A2,n2,c2,b3,A3,n3,c3,b4,A4,n4,c4,ha,q2 0 Aa,q2 1 Aa,q2 2 Aa,q2 3 Aa,q2 4 Aa,q2 5 Aa,q2 6 Aa,q2 7 Aa,h1,h2⟩
theorem VN.len{w:World}{v:Value}{l:List (Rat×Rat)}(h:VN w v l):∃ A c,v = .slice A l.length c/\l.length<=c/\c<=9223372036854775807/\Yy w A l:=h
def px(l:List (Rat×Rat))(i:Nat):Rat:=(l.getD i (0,0)).1
def py(l:List (Rat×Rat))(i:Nat):Rat:=(l.getD i (0,0)).2
theorem mE{l:List (Rat×Rat)}{i:Nat}(h:i < l.length):px l i=l[i].1:=by unfold px;rw[List.getD_eq_getElem?_getD,List.getElem?_eq_getElem h];rfl
theorem lM{l:List (Rat×Rat)}{i:Nat}(h:i < l.length):py l i=l[i].2:=by unfold py;rw[List.getD_eq_getElem?_getD,List.getElem?_eq_getElem h];rfl
theorem Mc.step{X:Nat->Rat}{n:Nat}(h:Mc X n)(k:∀ j,j < n->X n≠X j):Mc X (n+1):=fun i j hi hj=>by
 rcases Nat.lt_or_ge i n with l | l
 ·exact h i j l hj
 ·obtain rfl:i=n:=by omega
  exact k j hj
abbrev Kj:=Bool×List Nat
def PW(w:World)(v:Value)(x:Kj):Prop:=QB w v x.1 x.2
theorem PW.ext{w w':World}{v:Value}{x:Kj}(h:PW w v x)(e:Ext w w'):PW w' v x:=by
 obtain⟨u,h1,h2⟩:=h;exact⟨u,h1,h2.ext e⟩
def Dx(w:World)(v:Value)(l:List Kj):Prop:=Da 2 PW 0 w v l
theorem Dx.ext{w w':World}{v:Value}{l:List Kj}(h:Dx w v l)(e:Ext w w'):Dx w' v l:=Da.ext h e fun _ _ q=>q.ext e
abbrev Lm:=Raw×Raw
def RV(w:World)(v:Value)(x:Lm):Prop:=
 ∃ b1 A1 n1 c1 b2 A2 n2 c2 b3 A3 n3 c3 b4 A4 n4 c4,v = .agg #[.bool b1,.slice A1 n1 c1,.bool b2,.slice A2 n2 c2,.bool b3,.slice A3 n3 c3,.bool b4,.slice A4 n4 c4] /\
  Mt w (.agg #[.bool b1,.slice A1 n1 c1,.bool b2,.slice A2 n2 c2]) x.1/\Mt w (.agg #[.bool b3,.slice A3 n3 c3,.bool b4,.slice A4 n4 c4]) x.2
theorem RV.ext{w w':World}{v:Value}{x:Lm}(h:RV w v x)(e:Ext w w'):RV w' v x:=by
 obtain⟨b1,A1,n1,c1,b2,A2,n2,c2,b3,A3,n3,c3,b4,A4,n4,c4,h1,h2,h3⟩:=h;exact⟨b1,A1,n1,c1,b2,A2,n2,c2,b3,A3,n3,c3,b4,A4,n4,c4,h1,h2.ext e,h3.ext e⟩
def Lj(w:World)(v:Value)(l:List Lm):Prop:=Da 8 RV 0 w v l
def QO(w:World)(A:Option Addr)(l:List Lm):Prop:=DU 8 RV 0 w A l
theorem Lj.ext{w w':World}{v:Value}{l:List Lm}(h:Lj w v l)(e:Ext w w'):Lj w' v l:=Da.ext h e fun _ _ q=>q.ext e
theorem QO.at_{w:World}{A:Option Addr}{l:List Lm}(h:QO w A l){j:Nat}(hj:j < l.length) :
  ∃ g o b1 A1 n1 c1 b2 A2 n2 c2 b3 A3 n3 c3 b4 A4 n4 c4,A=some ⟨g,o,none⟩/\w.cell? ⟨g,o+j*8,none⟩=some (.bool b1)/\w.cell? ⟨g,o+j*8+1,none⟩=some (.slice A1 n1 c1)/\w.cell? ⟨g,o+j*8+2,none⟩=some (.bool b2)/\w.cell? ⟨g,o+j*8+3,none⟩=some (.slice A2 n2 c2) /\
   w.cell? ⟨g,o+j*8+4,none⟩=some (.bool b3)/\w.cell? ⟨g,o+j*8+5,none⟩=some (.slice A3 n3 c3)/\w.cell? ⟨g,o+j*8+6,none⟩=some (.bool b4)/\w.cell? ⟨g,o+j*8+7,none⟩=some (.slice A4 n4 c4) /\
   Mt w (.agg #[.bool b1,.slice A1 n1 c1,.bool b2,.slice A2 n2 c2]) l[j].1/\Mt w (.agg #[.bool b3,.slice A3 n3 c3,.bool b4,.slice A4 n4 c4]) l[j].2:=by
 obtain⟨g,o,ha,hb,hc⟩:=h Aa;obtain⟨cs,q1,q2,q3⟩:=hc j hj;obtain⟨b1,A1,n1,c1,b2,A2,n2,c2,b3,A3,n3,c3,b4,A4,n4,c4,e,h1,h2⟩:=q3;obtain rfl:cs=#[.bool b1,.slice A1 n1 c1,.bool b2,.slice A2 n2 c2,.bool b3,.slice A3 n3 c3,.bool b4,.slice A4 n4 c4]:=by injection e
 exact⟨g,o,b1,A1,n1,c1,b2,A2,n2,c2,b3,A3,n3,c3,b4,A4,n4,c4,ha,q2 0 Aa,q2 1 Aa,q2 2 Aa,q2 3 Aa,q2 4 Aa,q2 5 Aa,q2 6 Aa,q2 7 Aa,h1,h2⟩
def jJ(x:Lm):Prop:=Ve x.1/\Ve x.2
def gN(x:Lm):Rat×Rat:=(Ru x.1,Ru x.2)
theorem Lj.has{w:World}{v:Value}{l:List Lm}(h:Lj w v l)(hs:∀ x∈l,jJ x):VN w v (l.map gN)/\(∀ i,i < l.length->qsz (px (l.map gN) i)<=2/\qsz (py (l.map gN) i)<=2):=by
 obtain⟨A,c,h1,h2,h3,h4⟩:=h;refine⟨⟨A,c,by simpa using h1,by simpa using h2,h3,fun h0=>?_⟩,fun i hi=>?_⟩
 ·obtain⟨g,o,q1,q2,q3⟩:=h4 (by simpa using h0)
  refine⟨g,o,q1,q2,fun j hj=>?_⟩;have hj':j < l.length:=by simpa using hj
  obtain⟨cs,r1,r2,b1,A1,n1,c1,b2,A2,n2,c2,b3,A3,n3,c3,b4,A4,n4,c4,e,k1,k2⟩:=q3 j hj';refine⟨cs,r1,r2,?_⟩;rw[List.getElem_map];have hsm:=hs _ (List.getElem_mem hj');exact⟨b1,A1,n1,c1,b2,A2,n2,c2,b3,A3,n3,c3,b4,A4,n4,c4,e,(k1.has hsm.1).1,(k2.has hsm.2).1⟩
 ·obtain⟨g,o,q1,q2,q3⟩:=h4 Aa
  obtain⟨cs,r1,r2,b1,A1,n1,c1,b2,A2,n2,c2,b3,A3,n3,c3,b4,A4,n4,c4,e,k1,k2⟩:=q3 i hi;have hsm:=hs _ (List.getElem_mem hi);rw[mE (by simpa using hi),lM (by simpa using hi),List.getElem_map];exact⟨(k1.has hsm.1).2,(k2.has hsm.2).2⟩
def TV(x:Kj):Int:=iv x.1 x.2
theorem PW.has{w:World}{v:Value}{x:Kj}(h:PW w v x)(hs:x.2.length<=1099511627776):Bq w v (TV x)/\sz (TV x).natAbs<=x.2.length:=by
 have h':=h;obtain⟨s,rfl,hd⟩:=h';refine⟨⟨x.1,x.2,h,rfl,hs⟩,?_⟩;have:=Tx hd;unfold TV;rw[Tn];exact this
theorem Dx.len{w:World}{v:Value}{l:List Kj}(h:Dx w v l):∃ A c,v = .slice A l.length c/\l.length<=c/\c<=9223372036854775807:=by
 obtain⟨A,c,h1,h2,h3,h4⟩:=h;exact⟨A,c,h1,h2,h3⟩
theorem Dx.at_{w:World}{A:Option Addr}{n c:Nat}{l:List Kj}(h:Dx w (.slice A n c) l){j:Nat}(hj:j < l.length) :
  ∃ g o A1 c,A=some ⟨g,o,none⟩/\w.cell? ⟨g,o+j*2,none⟩=some (.bool l[j].1)/\w.cell? ⟨g,o+j*2+1,none⟩=some (.slice A1 l[j].2.length c)/\PW w (.agg #[.bool l[j].1,.slice A1 l[j].2.length c]) l[j]:=by
 obtain⟨A',c',e1,h2,h3,h4⟩:=h;have e5:A'=A:=by injection e1 with h1;exact h1.symm
 subst e5;obtain⟨g,o,q1,q2,q3⟩:=h4 Aa;obtain⟨cs,r1,r2,r3⟩:=q3 j hj;have hr:=r3;obtain⟨s,e,A1,c1,e2,k⟩:=r3;subst e2;have e:=Ue e;subst e;exact⟨g,o,A1,c1,q1,r2 0 Aa,r2 1 Aa,hr⟩
theorem Dx.has{w:World}{v:Value}{l:List Kj}{d:Nat}(h:Dx w v l)(hs:∀ x∈l,x.2.length<=d)(hd:d<=1099511627776:=by omega):De 0 w v (l.map TV)/\∀ x∈l.map TV,sz x.natAbs<=d:=by
 obtain⟨A,c,h1,h2,h3,h4⟩:=h;have key:∀ j (hj:j < l.length),∃ cs:Array Value,cs.size=2/\PW w (.agg cs) l[j]:=fun j hj=>by
  obtain⟨g,o,q1,q2,q3⟩:=h4 Aa;obtain⟨cs,r1,r2,r3⟩:=q3 j hj;exact⟨cs,r1,r3⟩
 refine⟨⟨A,c,by simpa using h1,by simpa using h2,h3,fun h0=>?_⟩,fun x hx=>?_⟩
 ·obtain⟨g,o,q1,q2,q3⟩:=h4 (by simpa using h0)
  refine⟨g,o,q1,q2,fun j hj=>?_⟩;have hj':j < l.length:=by simpa using hj
  obtain⟨cs,r1,r2,r3⟩:=q3 j hj';refine⟨cs,r1,r2,?_⟩;rw[List.getElem_map];exact(r3.has (Nat.le_trans (hs _ (List.getElem_mem hj')) hd)).1
 ·obtain⟨y,hy,rfl⟩:=List.mem_map.1 hx
  obtain⟨j,hj,rfl⟩:=List.getElem_of_mem hy;obtain⟨cs,-,r3⟩:=key j hj;have:=hs _ (List.getElem_mem hj);exact Nat.le_trans (r3.has Aa).2 this
theorem Dx.qsz{w:World}{v:Value}{l:List Kj}{d:Nat}(h:Dx w v l)(hs:∀ x∈l,x.2.length<=d)(hd:d<=1099511627776:=by omega)(h1:1<=d:=by omega)(i:Nat):qsz (cz (l.map TV) i)<=d:=Qn (h.has hs hd).2 h1 i
theorem Es(k:Nat)(F:Nat->Rat):DN (k+1) F=DN k F ++ [(F k).num]:=by simp[DN,List.range_succ]
theorem FW{n:Nat}(h:n<=1099511627776):n+1<=maxLen:=by simp only[maxLen];omega
theorem jS(l:List Int):DN l.length (cz l)=l:=by
 apply List.ext_getElem
 ·rw[AX]
 ·intro i h1 h2;rw[Ch,Cn h2];rfl
theorem jP{F:Nat->Rat}{a:Int}(hz:ZI F)(ha:a≠0)(i:Nat)(hd:a∣(F i).num):psc (1 / (a:Rat)) F i=(((F i).num / a:Int):Rat):=by
 obtain⟨k,hk⟩:=hd;have ha':(a:Rat)≠0:=fun e=>ha (by exact_mod_cast e);rw[hk,Int.mul_ediv_cancel_left _ ha];show 1 / (a:Rat)*F i=_;rw[hz.num i,hk,Rat.intCast_mul];grind
theorem TP{base:Nat}{w:World}{v:Value}{n:Nat}{F:Nat->Rat}{e:TypeId}(h:CK base e w v (DN n F))(hs:∀ i,qsz (F i)<=1099511627776):De 0 w v (DN n F):=
 Mo.has h.row fun x hx=>by
  obtain⟨i,hi,rfl⟩:=List.getElem_of_mem hx;rw[Ch];have:=hs i;unfold qsz at this;omega
def KA(w:World)(v:Value)(x:Int):Prop:=∃ a,v = .tuple #[a,.int .i64 0]/\AP w a x
theorem KA.ext{w w':World}{v:Value}{x:Int}(h:KA w v x)(e:Ext w w'):KA w' v x:=by
 obtain⟨a,h1,h2⟩:=h;exact⟨a,h1,h2.kd e.kd⟩
theorem Bz.dens{w:World}{b b':Bool}{A A':Option Addr}{n c n' c':Nat}{q:Rat}(h:Bz w (.agg #[.bool b,.slice A n c,.bool b',.slice A' n' c']) q)(hs:qsz q<=274877906944):Bq w (.agg #[.bool b',.slice A' n' c']) (q.den:Int)/\Bq w (.agg #[.bool b,.slice A n c]) q.num:=by
 have h1:=h.parts4;have h2:=Ia q;have h3:=FO q;exact⟨h1.2.has Aa,h1.1.has Aa⟩
theorem AC.upd{base:Nat}{G:List Nat}{w w':World}{v:Value}{F:Nat->Rat}(h:AC base w v F)(U:Cu G w w')(hG:∀ g∈G,g < base):AC base w' v F:=by
 obtain⟨l,h1,h2,h3⟩:=h;exact⟨l,Da.upd h1 U hG fun _ _ q=>q.kd U.kd,h2,h3⟩
def Mj(bs n:Nat)(F:Nat->Rat)(r:Value)(w':World):Prop:=∃ a b,r = .tuple #[a,b]/\AC bs w' a (pp (CQ n F))/\Bz w' b (KU n F)
theorem Qj(n:Nat):CQ n pz=pz:=Fa _
theorem Ti(n:Nat):KU n pz=0:=by
 unfold KU;rw[Qj,I4];show(0:Rat) / 0=0
 decide +kernel
theorem Vt{F:Nat->Rat}{s:Nat}(z:ZI F)(h:∀ i,qsz (F i)<=s):CD s F:=by
 have h1:=Cz (F 0);have h2:=h 0;refine⟨1,bp s - 1,⟨Aa,fun i=>⟨(F i).num,?_,?_⟩⟩,?_,?_⟩
 ·have e:((1:Nat):Rat)=1:=rfl
  rw[e,<-z.num i];grind
 ·have h3:=Nat.le_trans (F6 (F i)) (h i)
  have h4:=F5.1 h3;omega
 ·have:sz 1=1:=by decide
  omega
 ·have:0 < bp s:=by have:=F5.1 (show sz 0<=s by have:sz 0=0:=Ab;omega);omega
  exact Cm Aa
theorem aY{F G:Nat->Rat}{n s t:Nat}(zF:ZI F)(zG:ZI G)(hs:BA n F)(hn:n < 4294967296)(h:∀ i,qsz (F i)<=s)(k:∀ i,qsz (G i)<=t)(i:Nat):qsz (cv F G i)<=s+t+1:=
 (CD.cv hs hn (Vt zF h) (Vt zG k)).elem i
theorem GZ.one{base eb:Nat}{t:TypeId}{w:World}{A:Option Addr}{n c:Nat}{F:Nat->Rat}(hu:AC eb w (.slice A n c) F)(hb:base<=w.heap.size) :
  GZ base eb t (w.alloc (.cells #[.slice A n c] t)) (.slice (some ⟨w.heap.size,0,none⟩) 1 1) [.slice A n c] [F]:=by
 have hB:=Bh.new w t #[.slice A n c] (by simp[Af]);refine⟨⟨[#[.slice A n c]],rfl,Ac,⟨Ac,.inr ⟨_,1,_,rfl,hb,hB,Nat.le_refl _,by simp[maxLen],Ac,Ac⟩⟩,fun j h h'=>?_⟩,rfl,PU hB.1 (by simp[SI]),fun i h h'=>?_⟩
 ·have:j=0:=by simp at h;omega
  subst this;exact⟨rfl,_,_,_,rfl⟩
 ·have:i=0:=by simp at h;omega
  subst this;exact hu.ext ((Ext.refl w).alloc _)
theorem dL{A B:Nat->Rat}(fA:Ae A)(fB:Ae B)(h0:B≠pz):nx A B=psc (if 0 < KU (pl (pr A B)) (pr A B)then -1 else 1) (pp (CQ (pl (pr A B)) (pr A B))):=by
 by_cases h:pr A B=pz
 ·rw[I9 h,h,Ti,Qj,I4,Fa]
 ·rw[Rt h]
  have:=(Vw (AJ (ES fA fB)) h).1;by_cases h1:0 < ld (pr A B)
  ·rw[if_pos h1,if_pos (this.2 h1)]
  ·rw[if_neg h1,if_neg (fun q=>h1 (this.1 q))]
theorem Lp{q:Rat}:0 < q.num↔0 < q:=by
 have h1:=Rat.num_nonneg (q:=q);have h2:=Rat.num_eq_zero (q:=q);constructor
 ·intro h
  have:0<=q:=h1.1 Aa;have h3:q≠0:=fun e=>by have:=h2.2 e;omega
  grind
 ·intro h
  have:0<=q.num:=h1.2 Ah;have h3:q.num≠0:=fun e=>by have:=h2.1 e;grind
  omega
theorem PS{q:Rat}(h:0 < q):GJ q=1:=Int.sign_eq_one_of_pos (Lp.2 h)
theorem Z4{q:Rat}(h:¬ 0 < q):GJ q<=0:=by
 unfold GJ;have h1:¬ 0 < q.num:=fun k=>h (Lp.1 k);rcases Int.lt_trichotomy q.num 0 with a | a | a
 ·rw[Int.sign_eq_neg_one_of_neg a];omega
 ·rw[a];decide
 ·exact absurd a h1
theorem Fx.clear{F0 G0 A B:Nat->Rat}{D S M:Nat}(h:Fx F0 G0 D S A B)(h0:B≠pz)(qA:∀ i,qsz (A i)<=M)(qB:∀ i,qsz (B i)<=M):CD M A/\CD M B/\CD (M+(D+1)*(M+1)) (pr A B):=by
 obtain⟨fA,fB,zA,zB,hd,-,-⟩:=h.facts;have cA:=Vt zA qA;have cB:=Vt zB qB;have hp:=AZ fB h0;refine⟨cA,cB,(CD.pr (n:=pl A+1 - pl B) ((AJ fA).mono Aa) fB h0 cA cB).mono ?_⟩;have:(pl A+1 - pl B)*(M+1)<=(D+1)*(M+1):=Nat.mul_le_mul_right _ Aa;omega
def jT(F G:Nat->Rat)(S M:Nat):Prop:=S+1<=M/\∀ k,(∀ j,1<=j->j<=k->Ca F G j≠pz)->(∀ i,qsz (Ca F G k i)<=M)/\∀ i,qsz (Ca F G (k+1) i)<=M
theorem jT.of2{F G:Nat->Rat}{S M:Nat}(fF:Ae F)(fG:Ae G)(zF:ZI F)(zG:ZI G)(qF:∀ i,qsz (F i)<=S)(qG:∀ i,qsz (G i)<=S)(hM:(S+1)*2^(pl F+pl G)<=M):jT F G S M:=
 ⟨Nat.le_trans (by have:=Nat.mul_le_mul_left (S+1) (Nat.one_le_two_pow (n:=pl F+pl G));omega) hM,fun k h=>by
  have f:=(IG fF fG zF zG qF qG k h).facts;exact⟨fun i=>Nat.le_trans (f.2.2.2.2.2.1 i) hM,fun i=>Nat.le_trans (f.2.2.2.2.2.2 i) hM⟩⟩
theorem F7{q:Rat}{s:Nat}(h:qsz q<=s):sz q.num.natAbs<=s:=by unfold qsz at h;omega
theorem ML{base:Nat}{w:World}{v:Value}{n:Nat}{F:Nat->Rat}{e:TypeId}(h:CK base e w v (DN n F))(hs:∀ i,i < n->qsz (F i)<=1099511627776):De 0 w v (DN n F):=
 Mo.has h.row fun x hx=>by
  obtain⟨i,hi,rfl⟩:=List.getElem_of_mem hx;rw[Ch];have:=hs i (by rw[AX]at hi;exact hi);unfold qsz at this;omega
theorem UO{la:List Int}{F:Nat->Rat}(e:cz la=F){i:Nat}(h:i < la.length):la[i]=(F i).num:=by
 subst e;rw[Cn h];rfl
theorem fI{F:Nat->Rat}(h:ZI F):ZI (pd F):=fun i=>by
 obtain⟨n,e⟩:=h (i+1);exact⟨((i+1:Nat):Int)*n,by unfold pd;rw[e,Rat.intCast_mul];rfl⟩
theorem CK.off{base:Nat}{e:TypeId}{w w':World}{v:Value}{l:List Int}{g:Nat}(h:CK base e w v l)(U:Cu [g] w w')(hg:∀ k∈blk v,k < g):CK base e w' v l:=
 BJ.upd h U (fun k hk hG=>by have:=hg k hk;simp at hG;omega) fun _ _ q=>q.kd U.kd
theorem kY{F G:Nat->Rat}(hF:ZI F)(hG:ZI G)(n:Nat):∀ i,∃ z:Int,sm i (fun j=>F j*G (n - j))=(z:Rat):=fun i =>
 Ya fun j _=>by rw[hF.num j,hG.num (n - j),<-Rat.intCast_mul];exact⟨_,rfl⟩
theorem Xl{F G:Nat->Rat}(hF:ZI F)(hG:ZI G)(n i:Nat):(sm (i+1) (fun j=>F j*G (n - j))).num=(sm i (fun j=>F j*G (n - j))).num+(F i).num*(G (n - i)).num:=by
 rw[BF];obtain⟨z,e⟩:=kY hF hG n i;rw[e,hF.num i,hG.num (n - i),<-Rat.intCast_mul,num_add];rfl
theorem Zv(n:Nat)(c:Int):cz (List.replicate n 0 ++ [c])=mono n (c:Rat):=by
 funext i
 unfold mono;by_cases h:i < n
 ·rw[Cn Dt,if_neg Aa];simp[List.getElem_append_left,h]
 ·by_cases e:i=n
  ·subst e;rw[Cn Ac,if_pos rfl];simp
  ·rw[IP Dt,if_neg e]
theorem bZ(n:Nat){c:Int}(h0:c≠0):Iz (zq (List.replicate n 0 ++ [c])):=fun h=>by
 have hl:(zq (List.replicate n 0 ++ [c])).length - 1=n:=by rw[Ex];simp
 have e:(zq (List.replicate n 0 ++ [c]))[(zq (List.replicate n 0 ++ [c])).length - 1]'(Aa)=cz (List.replicate n 0 ++ [c]) ((zq (List.replicate n 0 ++ [c])).length - 1):=(El _).symm;rw[e,hl,Zv,JJ];exact_mod_cast h0
theorem lT{P:Nat->Rat}(h:BB P){e:Rat}(he:e=1\/e = -1):rd (psc e P)=psc e P:=by
 have hc:cn (psc e P)=1:=by
  rcases he with rfl | rfl
  ·rw[Cq];exact h.c
  ·have:=Im (a:=-1) Ab h.z h.f
   rw[h.c]at this;exact this
 unfold rd;rw[hc,show(1:Rat) / ((1:Nat):Rat)=1 from by decide +kernel,Cq]
theorem lJ{A B:Nat->Rat}(fA:Ae A)(fB:Ae B)(hn:nx A B≠pz):rd (nx A B)=nx A B:=by
 have hR:pr A B≠pz:=fun e=>hn (I9 e);have fR:=ES fA fB;rw[Rt hR];exact lT (BB.pp (Ep (AJ fR)) (DT (n:=pl (pr A B)) fR) (NA (n:=pl (pr A B)) fR hR)) (FD _)
theorem jW{F:Nat->Rat}(z:ZI F)(f:Ae F):pl (rd F)=pl F:=by
 rw[L9,CV (F3 (FD _)) (Dl f),Dq z f]
def mI(F G:Nat->Rat)(S:Nat)(k:Nat)(N:Nat->Rat):Prop:=ZI N/\Ae N/\(∀ i,qsz (N i)<=S)/\rd N=Ca F G (k+1)
def Lg(w:World)(v:Value)(X Y:Nat->Rat):Prop:=∃ q r,v = .tuple #[q,r]/\Di 0 w q X/\Di 0 w r Y
theorem Lg.ext{w w':World}{v:Value}{X Y:Nat->Rat}(h:Lg w v X Y)(e:Ext w w'):Lg w' v X Y:=by
 obtain⟨q,r,h1,h2,h3⟩:=h;exact⟨q,r,h1,Di.ext h2 e,Di.ext h3 e⟩
def PN(e:TypeId)(base:Nat)(w:World)(v:Value)(l:List Nat):Prop:=w.ownsRow base e 1 v l.length (l.map fun d=>Value.int .u8 (d:Nat))
theorem PN.alloc{e:TypeId}{base:Nat}{w:World}{v:Value}{l:List Nat}(h:PN e base w v l)(o:Obj):PN e base (w.alloc o) v l:=World.ownsRow.alloc h o
theorem PN.from_{e:TypeId}{base:Nat}{a w w':World}{v:Value}{l:List Nat}(h:PN e base w v l)(hg:w.grownBy w' v.ownBlock)(x:Ext a w)(hb:a.heap.size<=base):Ext a w':=
 x.grown hg fun k hk=>Nat.le_trans hb (World.ownsRow.lt h k hk).1
theorem PN.row{e:TypeId}{base:Nat}{w:World}{v:Value}{l:List Nat}(h:PN e base w v l)(h0:l≠[]):∃ g cap,v = .slice (some ⟨g,0,none⟩) l.length cap/\base<=g/\l.length<=cap/\cap<=maxLen/\∀ j (hj:j < l.length),w.cell? ⟨g,j,none⟩=some (.int .u8 (l[j]:Nat)):=by
 rcases h.2 with⟨-,h1⟩ | ⟨g,cap,cur,hv,r⟩
 ·exact absurd (List.eq_nil_of_length_eq_zero h1) h0
 ·refine⟨g,cap,hv,r.1,r.2.2.1,r.2.2.2.1,fun j hj=>?_⟩
  have:=World.ownsRow.cells h (g:=g) (by rw[hv];rfl) j (.int .u8 (l[j]:Nat)) (by simp[hj]);have e:(⟨g,0,none⟩:Addr).add j=⟨g,j,none⟩:=by simp only[Addr.add];split<;>simp_all
  rw[e]at this;exact this
theorem Bh.grown{A B:World}{row:Option Nat}{g:Nat}{t:TypeId}{cs:Array Value}(h:Bh A g t cs)(hg:A.grownBy B row)(hne:row≠some g):Bh B g t cs:=
 ⟨(hg.block g h.lt (fun e=>hne e.symm)).trans h.1,h.2⟩
theorem PN.ne{e:TypeId}{base g:Nat}{w:World}{v:Value}{l:List Nat}(h:PN e base w v l)(hg:g < base):v.ownBlock≠some g:=fun e=>by
 have:=(World.ownsRow.lt h g e).1;omega
def dz(n k:Nat)(h:k<=n):List (Fin n):=(List.range k).pmap (fun j (hj:j < n)=>(⟨n - 1 - j,Aa⟩:Fin n)) (fun j hj=>by have:=List.mem_range.1 hj;omega)
theorem Qk{n k:Nat}(h:k+1<=n):dz n (k+1) h=dz n k (by omega) ++ [⟨n - 1 - k,by omega⟩]:=by
 unfold dz;simp[List.range_succ,List.pmap_append]
theorem WU{n k:Nat}(h:k<=n):(dz n k h).length=k:=by simp[dz]
def G9(W:World)(b o:Nat)(v:Value):Prop:=
 ∃ b1 A1 n1 c1,v = .agg #[.bool b1,.slice A1 n1 c1]/\W.cell? ⟨b,o,none⟩=some (.bool b1)/\W.cell? ⟨b,o+1,none⟩=some (.slice A1 n1 c1)
theorem G9.below{n₀ b o:Nat}{A B:World}{v:Value}(h:Below n₀ A B)(hb:b < n₀)(c:G9 A b o v):G9 B b o v:=by
 obtain⟨b1,A1,n1,c1,e,q0,q1⟩:=c;exact⟨b1,A1,n1,c1,e,(h.cell (p:=⟨b,o,none⟩) hb).trans q0,(h.cell (p:=⟨b,o+1,none⟩) hb).trans q1⟩
def Xd(n₀ Bs:Nat)(W W':World):Prop:=Below n₀ W W'/\∀ v,W.cell? ⟨Bs,0,none⟩=some v->W'.cell? ⟨Bs,0,none⟩=some v
theorem Xd.refl(n₀ Bs:Nat)(W:World):Xd n₀ Bs W W:=⟨Below.refl _ _,fun _ h=>h⟩
theorem Xd.trans{n₀ Bs:Nat}{A B C:World}(h:Xd n₀ Bs A B)(k:Xd n₀ Bs B C):Xd n₀ Bs A C:=⟨h.1.trans k.1,fun v e=>k.2 v (h.2 v e)⟩
theorem kE{n₀ Bs:Nat}{w:World}(hn:n₀<=w.heap.size)(W:World)(l:Nat)(o o':Obj)(hl:w.heap.size<=l)(h:W.heap[l]? = some o)(h1:o.isCells=false)(h2:o.isWalk=false):Xd n₀ Bs W (W.putObj l o'):=
 ⟨belowK_b hn W l o o' hl h h1 h2,fun v e=>cell_kept e (grownBy_putObj' W l o') (fun r er=>by cases er;exact⟨o,h,h1⟩)⟩
def hac{n:Nat}(F:Nat->Rat)(x:Rat)(pre:List (Fin n)):Rat:=pre.foldl (fun a p=>a*x+F p.1) 0
theorem Rv{n:Nat}(F:Nat->Rat)(x:Rat)(pre:List (Fin n))(p:Fin n):hac F x (pre ++ [p])=hac F x pre*x+F p.1:=by simp[hac]
theorem Y5{n:Nat}(F:Nat->Rat)(x:Rat):∀ k (h:k<=n),hac F x (dz n k h)=hor F x n (n - k)
 | 0,h=>by rw[Nat.sub_zero,PH];rfl
 | k+1,h=>by
  rw[Qk h,Rv,Y5 F x k Aa,Lf F x (show n - (k+1) < n by omega),show n - (k+1)+1=n - k from by omega];show hor F x n (n - k)*x+F (n - 1 - k)=_;rw[show n - 1 - k=n - (k+1)from by omega]
theorem ZJ{n s t:Nat}{F:Nat->Rat}{x:Rat}(hF:∀ i,qsz (F i)<=s)(hx:qsz x<=t)(pre:List (Fin n)):qsz (hac F x pre)<=1+pre.length*(s+t+1):=by
 have key:∀(pre:List (Fin n)) (a:Rat),qsz (pre.foldl (fun a p=>a*x+F p.1) a)<=qsz a+pre.length*(s+t+1):=by
  intro pre;induction pre with
  | nil=>intro a;simp
  | cons p pre ih =>
   intro a;have h1:=ih (a*x+F p.1);have h2:=EL (a*x) (F p.1);have h3:=BS a x;have h4:=hF p.1;rw[List.foldl_cons,List.length_cons,Nat.succ_mul];omega
 have:=key pre 0;have h0:qsz (0:Rat)=1:=by decide
 unfold hac;omega
/-! ### absolute values -/
def ab(q:Rat):Rat:=if q < 0 then -q else q
theorem Au(q:Rat):0<=ab q:=by unfold ab;split<;>grind
theorem Nu(q:Rat):ab (-q)=ab q:=by unfold ab;split<;>split<;>grind
theorem Fy{q t:Rat}:ab q<=t ↔ -t<=q/\q<=t:=by unfold ab;split<;>grind
theorem Uv(q:Rat):q<=ab q:=by unfold ab;split<;>grind
theorem UD{q:Rat}:ab q=0↔q=0:=by unfold ab;split<;>grind
theorem Gb(p q:Rat):ab (p+q)<=ab p+ab q:=by unfold ab;split<;>split<;>split<;>grind
theorem XR(p q:Rat):ab (p - q)<=ab p+ab q:=by unfold ab;split<;>split<;>split<;>grind
theorem Yo{q:Rat}:0 < ab q↔q≠0:=by unfold ab;split<;>grind
theorem Ei{q:Rat}(h:0<=q):ab q=q:=by unfold ab;split<;>grind
theorem RO{p q:Rat}(hp:p < 0)(hq:q < 0):0 < p*q:=by
 have:=Rat.mul_pos (a:=-p) (b:=-q) Ah Ah;grind
theorem Kb{p q:Rat}(hp:0 < p)(hq:q < 0):p*q < 0:=by
 have:=Rat.mul_pos (a:=p) (b:=-q) hp Ah;grind
theorem Cs(p q:Rat):ab (p*q)=ab p*ab q:=by
 have z0:ab 0=0:=rfl;by_cases p0:p=0
 ·rw[p0,Rat.zero_mul,z0,Rat.zero_mul]
 by_cases q0:q=0
 ·rw[q0,Rat.mul_zero,z0,Rat.mul_zero]
 by_cases a:p < 0<;>by_cases b:q < 0
 ·have:=RO a b;unfold ab;rw[if_neg (show ¬ p*q < 0 by grind),if_pos a,if_pos b];grind
 ·have:=Kb (show 0 < q by grind) a;unfold ab;rw[if_pos (show p*q < 0 by grind),if_pos a,if_neg b];grind
 ·have:=Kb (show 0 < p by grind) b;unfold ab;rw[if_pos (show p*q < 0 by grind),if_neg a,if_pos b];grind
 ·have:=Rat.mul_pos (show 0 < p by grind) (show 0 < q by grind);unfold ab;rw[if_neg (show ¬ p*q < 0 by grind),if_neg a,if_neg b]
theorem Ff{a b c d:Rat}(h1:a<=b)(h2:c<=d)(hc:0<=c)(hb:0<=b):a*c<=b*d:=by
 have e1:a*c<=b*c:=Rat.mul_le_mul_of_nonneg_right h1 hc;have e2:b*c<=b*d:=Rat.mul_le_mul_of_nonneg_left h2 hb;grind
/-! ### signs -/
def BK(q:Rat):Int:=if 0 < q then 1 else if q < 0 then -1 else 0
theorem Eb{q:Rat}:BK q=0↔q=0:=by unfold BK;split<;>(try split)<;>grind
theorem Ef(q:Rat):BK q=0\/BK q=1\/BK q = -1:=by unfold BK;split<;>(try split)<;>simp
def JU:Int->List Int->Nat
 | _,[]=>0
 | last,s::l=>if s=0 then JU last l else(if last = -s then 1 else 0)+JU s l
inductive JZ:Int->List (Int×Int)->Prop
 | nil (σ:Int):JZ σ []
 | tight (σ p:Int) (l:List (Int×Int)) (hp:p≠0) (h:JZ p l):JZ σ ((p,p)::l)
 | loose (σ p q:Int) (l:List (Int×Int)) (h:JZ (-σ) l):JZ σ ((p,q)::(-σ,-σ)::l)
theorem Sg{σ p:Int}(hσ:σ=1\/σ = -1)(hp:p=0\/p=1\/p = -1)(l:List Int):JU σ (p :: -σ::l)=1+JU (-σ) l:=by
 rcases hσ with rfl | rfl<;>rcases hp with rfl | rfl | rfl<;>simp[JU]
theorem Sr{σ:Int}{l:List (Int×Int)}(h:JZ σ l):(σ=1\/σ = -1)->(∀ x∈l,(x.1=0\/x.1=1\/x.1 = -1)/\(x.2=0\/x.2=1\/x.2 = -1))->JU σ (l.map (·.1))=JU σ (l.map (·.2)):=by
 induction h with
 | nil σ=>intro _ _;rfl
 | tight σ p l hp h ih =>
  intro hσ hx;have hpq:=(hx (p,p) Ac).1;have hp1:p=1\/p = -1:=by rcases hpq with a | a | a;exact absurd a hp;exact .inl a;exact .inr a
  have:=ih hp1 (fun x hm=>hx x (by simp[hm]));simp only[List.map_cons,JU,if_neg hp,this]
 | loose σ p q l h ih =>
  intro hσ hx;have hpq:=hx (p,q) Ac;have hσ' : -σ=1 \/ -σ = -1:=by rcases hσ with rfl | rfl;exact .inr rfl;exact .inl rfl
  have:=ih hσ' (fun x hm=>hx x (by simp[hm]));simp only[List.map_cons];rw[Sg hσ hpq.1,Sg hσ hpq.2,this]
structure KY(m:Nat)(a b:Nat->Rat)(T d:Rat):Prop where
 t1:1<=T
 d0:0 < d
 sm:4*(T*(T*(T*(T*d)))) < 1
 lip:∀ i,i<=m->ab (a i - b i)<=T*d
 beza:∀ i,i < m->∃ U W,U*a i+W*a (i+1)=1/\ab U<=T/\ab W<=T
 bezb:∀ i,i < m->∃ U W,U*b i+W*b (i+1)=1/\ab U<=T/\ab W<=T
 reca:∀ i,i+2<=m->∃ q c,a i=q*a (i+1) - c*a (i+2)/\ab q<=T/\0 < c/\1<=T*c
 recb:∀ i,i+2<=m->∃ q c,b i=q*b (i+1) - c*b (i+2)/\ab q<=T/\0 < c/\1<=T*c
 lst:a m=b m/\a m≠0
 top:1<=m->∃ k r,b 0 - a 0=d*(k*a 1+d*r)/\0 < k/\1<=T*k/\ab r<=T
section
variable{m:Nat}{a b:Nat->Rat}{T d:Rat}
theorem KY.small(h:KY m a b T d):0 < T/\2*(T*d) < 1/\2*(T*(T*d)) < 1/\2*(T*(T*(T*d))) < 1/\0 < T*d/\0 < T*(T*d)/\T*d<=T*(T*d):=by
 have hT:0 < T:=by have:=h.t1;grind
 have hd:=h.d0;have e1:0 < T*d:=Rat.mul_pos hT hd;have e2:0 < T*(T*d):=Rat.mul_pos hT e1;have e3:0 < T*(T*(T*d)):=Rat.mul_pos hT e2;have f1:1*(T*(T*(T*d)))<=T*(T*(T*(T*d))):=Rat.mul_le_mul_of_nonneg_right h.t1 Ah;have f2:1*(T*(T*d))<=T*(T*(T*d)):=Rat.mul_le_mul_of_nonneg_right h.t1 Ah;have f3:1*(T*d)<=T*(T*d):=Rat.mul_le_mul_of_nonneg_right h.t1 Ah;have:=h.sm;refine⟨hT,?_,?_,?_,e1,e2,?_⟩<;>grind
theorem Gn{p q t:Rat}(h:ab (p - q)<=t)(hn:¬ (BK p=BK q/\BK p≠0)):ab p<=t/\ab q<=t:=by
 rw[Fy]at h;rw[Fy,Fy];unfold BK at hn;by_cases a1:0 < p<;>by_cases a2:p < 0<;>by_cases b1:0 < q<;>by_cases b2:q < 0<;>simp_all<;>grind
theorem UU{x y U W T d:Rat}(hT:0 < T)(h2:2*(T*(T*d)) < 1)(e:U*x+W*y=1)(hU:ab U<=T)(hW:ab W<=T)(hx:ab x<=T*d):1 < 2*(T*ab y):=by
 have h1:ab (U*x)<=T*(T*d):=by rw[Cs];exact Ff hU hx (Au _) Ah
 have h3:ab (W*y)<=T*ab y:=by rw[Cs];exact Ff hW Ah (Au _) Ah
 have h4:=Uv (U*x);have h5:=Uv (W*y);grind
theorem Qm{p q:Rat}(h:ab (p - q) < ab p):BK p=BK q/\BK p≠0:=by
 unfold ab at h;unfold BK
 split at h<;>split at h<;>(split<;>(try split)<;>(try split)<;>(try split))<;>grind
theorem KY.next_tight(h:KY m a b T d){i:Nat}(hi:i < m)(hn:¬ (BK (a i)=BK (b i)/\BK (a i)≠0)) :
  (BK (a (i+1))=BK (b (i+1))/\BK (a (i+1))≠0)/\1 < 2*(T*ab (a (i+1)))/\1 < 2*(T*ab (b (i+1)))/\ab (a i)<=T*d/\ab (b i)<=T*d:=by
 obtain⟨hT,s1,s2,s3,p1,p2,p3⟩:=h.small;obtain⟨l1,l2⟩:=Gn (h.lip i Aa) hn;obtain⟨U,W,e,hU,hW⟩:=h.beza i hi;obtain⟨U',W',e',hU',hW'⟩:=h.bezb i hi;have b1:=UU hT s2 e hU hW l1;have b2:=UU hT s2 e' hU' hW' l2;have hl:=h.lip (i+1) Aa;refine⟨Qm ?_,b1,b2,l1,l2⟩;refine Std.lt_of_le_of_lt hl ?_;rcases Std.lt_trichotomy (T*d) (ab (a (i+1)))with c | c | c
 ·exact c
 ·exfalso;rw[<-c]at b1;grind
 ·exfalso
  have:=Rat.mul_lt_mul_of_pos_left c hT;grind
theorem Vu{x y z q c T d:Rat}(hT:0 < T)(hc:0 < c)(hTc:1<=T*c)(hq:ab q<=T)(hy:ab y<=T*d)(hz:1 < 2*(T*ab z))(hs:4*(T*(T*(T*(T*d)))) < 1)(e:x=q*y - c*z)(hd:0 < T*d):BK z = - BK x/\BK x≠0:=by
 have h1:ab (q*y)<=T*(T*d):=by rw[Cs];exact Ff hq hy (Au _) Ah
 have h2:T*(T*d) < c*ab z:=by
  -- 1 < 2 T |z| and 1<=T c
  have hz0:0<=ab z:=Au z;have k1:1*(T*ab z)<=(T*c)*(T*ab z):=Rat.mul_le_mul_of_nonneg_right hTc (by have:=Rat.mul_nonneg (show 0<=T by grind) hz0;grind);have k2:2*(T*(T*(c*ab z))) > 1:=by grind
  have k3:T*(T*(T*(T*d))) < T*(T*(c*ab z)):=by grind
  rcases Std.lt_trichotomy (T*(T*d)) (c*ab z)with a | a | a
  ·exact a
  ·exfalso;rw[a]at k3;grind
  ·exfalso
   have m1:=Rat.mul_lt_mul_of_pos_left a hT;have m2:=Rat.mul_lt_mul_of_pos_left m1 hT;grind
 have h3:=Fy.1 h1;have hzne:z≠0:=fun e0=>by rw[e0]at hz;have:ab 0=0:=rfl;rw[this]at hz;grind
 rcases Std.lt_trichotomy z 0 with a | a | a
 ·have e1:ab z = -z:=by unfold ab;rw[if_pos a]
  rw[e1]at h2;have hx:0 < x:=by grind
  unfold BK;rw[if_neg (show ¬ 0 < z by grind),if_pos a,if_pos hx];exact⟨rfl,Ab⟩
 ·exact absurd a hzne
 ·have e1:ab z=z:=by unfold ab;rw[if_neg Ah]
  rw[e1]at h2;have hx:x < 0:=by grind
  unfold BK;rw[if_pos a,if_neg (show ¬ 0 < x by grind),if_pos hx];exact⟨rfl,Ab⟩
def Uh(a b:Nat->Rat)(i n:Nat):List (Int×Int):=(List.range n).map fun j=>(BK (a (i+j)),BK (b (i+j)))
theorem KQ(a b:Nat->Rat)(i n:Nat):Uh a b i (n+1)=(BK (a i),BK (b i))::Uh a b (i+1) n:=by
 unfold Uh;rw[List.range_succ_eq_map,List.map_cons,List.map_map,Nat.add_zero];congr 1;refine List.map_congr_left fun j _=>?_;show(BK (a (i+(j+1))),BK (b (i+(j+1))))=(BK (a (i+1+j)),BK (b (i+1+j)));rw[show i+(j+1)=i+1+j by omega]
theorem KY.good(h:KY m a b T d):∀(n i:Nat),i+n=m->(BK (a i)=BK (b i)/\BK (a i)≠0)->JZ (BK (a i)) (Uh a b (i+1) n):=by
 intro n;induction n using Nat.strongRecOn with
 | ind n ih =>
  intro i hi ht
  match n,ih,hi with
  | 0,_,_=>exact JZ.nil _
  | n+1,ih,hi =>
   rw[KQ];by_cases hn:BK (a (i+1))=BK (b (i+1))/\BK (a (i+1))≠0
   ·rw[<-hn.1]
    exact JZ.tight _ _ _ hn.2 (ih n Aa (i+1) Aa hn)
   ·have hlt:i+1 < m:=by
     rcases Nat.lt_or_ge (i+1) m with c | c
     ·exact c
     ·exfalso
      have e:i+1=m:=by omega
      rw[e]at hn;exact hn ⟨by rw[h.lst.1],fun z=>h.lst.2 (Eb.1 z)⟩
    obtain⟨hT,s1,s2,s3,p1,p2,p3⟩:=h.small;obtain⟨t1,t2,t3,t4,t5⟩:=h.next_tight hlt hn;obtain⟨q,c,e,hq,hc,hTc⟩:=h.reca i Aa;obtain⟨q',c',e',hq',hc',hTc'⟩:=h.recb i Aa;have o1:=(Vu hT hc hTc hq t4 t2 h.sm e p1).1;have o2:=(Vu hT hc' hTc' hq' t5 t3 h.sm e' p1).1
    match n,ih,hi with
    | 0,_,hi=>omega
    | n+1,ih,hi =>
     rw[KQ];have ob:BK (b (i+1+1)) = - BK (a i):=by rw[ht.1];exact o2
     have oa:BK (a (i+1+1)) = - BK (a i):=o1;rw[ob,oa];refine JZ.loose _ _ _ _ ?_;rw[<-oa];exact ih n Aa (i+1+1) Aa t1
theorem Ps(a b:Nat->Rat)(i n:Nat):∀ x∈Uh a b i n,(x.1=0\/x.1=1\/x.1 = -1)/\(x.2=0\/x.2=1\/x.2 = -1):=fun x hx=>by
 obtain⟨j,-,rfl⟩:=List.mem_map.1 hx;exact⟨Ef _,Ef _⟩
def VH(a:Nat->Rat)(n:Nat):Nat:=JU 0 ((List.range n).map fun j=>BK (a j))
theorem bP(a b:Nat->Rat)(n:Nat):(Uh a b 0 n).map (·.1)=(List.range n).map fun j=>BK (a j):=by
 unfold Uh;rw[List.map_map];refine List.map_congr_left fun j _=>?_;simp
theorem bF(a b:Nat->Rat)(n:Nat):(Uh a b 0 n).map (·.2)=(List.range n).map fun j=>BK (b j):=by
 unfold Uh;rw[List.map_map];refine List.map_congr_left fun j _=>?_;simp
theorem KY.sturm(h:KY m a b T d):VH a (m+1)=VH b (m+1)+(if BK (a 0)≠0/\BK (b 0)≠BK (a 0)then 1 else 0):=by
 have k1:VH a (m+1)=JU 0 ((Uh a b 0 (m+1)).map (·.1)):=by rw[bP];rfl
 have k2:VH b (m+1)=JU 0 ((Uh a b 0 (m+1)).map (·.2)):=by rw[bF];rfl
 rw[k1,k2,KQ];simp only[List.map_cons];by_cases ht:BK (a 0)=BK (b 0)/\BK (a 0)≠0
 ·have hg:=h.good m 0 Aa ht
  have hσ:BK (a 0)=1\/BK (a 0) = -1:=by rcases Ef (a 0)with c | c | c;exact absurd c ht.2;exact .inl c;exact .inr c
  have:=Sr hg hσ (Ps _ _ _ _);rw[if_neg (fun q=>q.2 ht.1.symm)];simp only[JU,<-ht.1,if_neg ht.2,this];rfl
 ·have hm:0 < m:=by
   rcases Nat.eq_zero_or_pos m with c | c
   ·subst c;exact absurd ⟨by rw[h.lst.1],fun z=>h.lst.2 (Eb.1 z)⟩ ht
   ·exact c
  obtain⟨n,rfl⟩:∃ n,m=n+1:=⟨m - 1,Aa⟩
  obtain⟨hT,s1,s2,s3,p1,p2,p3⟩:=h.small;obtain⟨t1,t2,t3,t4,t5⟩:=h.next_tight hm ht;have hg:=h.good n 1 Aa t1;have hσ:BK (a 1)=1\/BK (a 1) = -1:=by rcases Ef (a 1)with c | c | c;exact absurd c t1.2;exact .inl c;exact .inr c
  have hv:=Sr hg hσ (Ps _ _ _ _);rw[KQ];simp only[List.map_cons]
  -- the direction
  obtain⟨k,r,e,hk,hTk,hr⟩:=h.top Aa;have hd:=h.d0;have hdir:0 < ab (a 1)/\d*ab r < k*ab (a 1):=by
   have ha:0 < ab (a 1):=Yo.2 fun z=>t1.2 (Eb.2 z);refine⟨ha,?_⟩;have g1:d*ab r<=d*T:=Rat.mul_le_mul_of_nonneg_left hr Ah;have k1:1*(T*ab (a 1))<=(T*k)*(T*ab (a 1)):=Rat.mul_le_mul_of_nonneg_right hTk (by have:=Rat.mul_pos hT ha;grind);have k2:2*(T*(T*(k*ab (a 1)))) > 1:=by have:=t2;grind
   have k3:T*(T*(T*d)) < T*(T*(k*ab (a 1))):=by grind
   rcases Std.lt_trichotomy (T*d) (k*ab (a 1))with c | c | c
   ·grind
   ·exfalso;rw[c]at k3;grind
   ·exfalso
    have m1:=Rat.mul_lt_mul_of_pos_left c hT;have m2:=Rat.mul_lt_mul_of_pos_left m1 hT;grind
  have hup:(0 < a 1->a 0 < b 0)/\(a 1 < 0->b 0 < a 0):=by
   have hr2:=Fy.1 (Std.le_refl (ab r));have hdr:d*r<=d*ab r/\d*(-r)<=d*ab r:=⟨Rat.mul_le_mul_of_nonneg_left hr2.2 Ah,Rat.mul_le_mul_of_nonneg_left Ah Ah⟩
   refine⟨fun hp=>?_,fun hp=>?_⟩
   ·have e1:ab (a 1)=a 1:=by unfold ab;rw[if_neg Ah]
    rw[e1]at hdir;have:=Rat.mul_pos hd (show 0 < k*a 1+d*r by grind);grind
   ·have e1:ab (a 1) = - a 1:=by unfold ab;rw[if_pos hp]
    rw[e1]at hdir;have:=Kb hd (show k*a 1+d*r < 0 by grind);grind
  have hcase:(BK (a 0) = - BK (a 1)/\BK (b 0) ≠ - BK (a 1))\/(BK (a 0)=0/\BK (b 0)=BK (a 1)):=by
   rcases hσ with c | c
   ·have hp:0 < a 1:=by unfold BK at c;split at c;assumption;split at c<;>simp at c
    have h1:=hup.1 hp;rw[c];unfold BK at ht ⊢;by_cases a1:0 < a 0<;>by_cases a2:a 0 < 0<;>by_cases b1:0 < b 0<;>by_cases b2:b 0 < 0<;>simp_all<;>grind
   ·have hp:a 1 < 0:=by unfold BK at c;split at c;simp at c;split at c;assumption;simp at c
    have h1:=hup.2 hp;rw[c];unfold BK at ht ⊢;by_cases a1:0 < a 0<;>by_cases a2:a 0 < 0<;>by_cases b1:0 < b 0<;>by_cases b2:b 0 < 0<;>simp_all<;>grind
  have key:∀ p,(p=0\/p=1\/p = -1)->JU 0 (p::BK (a 1)::(Uh a b (0+1+1) n).map (·.2))=(if p = - BK (a 1)then 1 else 0)+JU (BK (a 1)) ((Uh a b (0+1+1) n).map (·.2)):=by
   intro p hp;rcases hσ with c | c<;>rw[c]<;>rcases hp with rfl | rfl | rfl<;>simp[JU]
  have e1:(0+1+1)=1+1:=rfl;have ez:BK (b (0+1))=BK (a 1):=t1.1.symm;rw[ez];have kb:=key (BK (b 0)) (Ef _);have ka:=key (BK (a 0)) (Ef _);have hx:JU 0 (BK (a 0)::BK (a (0+1))::(Uh a b (0+1+1) n).map (·.1))=JU 0 (BK (a 0)::BK (a 1)::(Uh a b (0+1+1) n).map (·.2)):=by
   have:BK (a (0+1))=BK (a 1):=rfl;rw[this];rcases hσ with c | c<;>rw[c]at hv ⊢ <;> rcases Ef (a 0)with q | q | q<;>rw[q]<;>simp only[JU]<;>simp[e1,hv]
  rw[hx,ka,kb];rcases hcase with⟨c1,c2⟩ | ⟨c1,c2⟩
  ·have n1:BK (a 0)≠0:=by rw[c1];rcases hσ with q | q<;>rw[q]<;>decide
   rw[if_pos c1,if_neg c2,if_pos ⟨n1,fun q=>c2 (q.trans c1)⟩];omega
  ·have n1:¬ (BK (a 0) = - BK (a 1)):=by rw[c1];rcases hσ with q | q<;>rw[q]<;>decide
   have n2:¬ (BK (b 0) = - BK (a 1)):=by rw[c2];rcases hσ with q | q<;>rw[q]<;>decide
   rw[if_neg n1,if_neg n2,if_neg (fun q=>q.1 c1)];omega
end
theorem Eg(q:Rat):GJ q=BK q:=by
 unfold BK
 split
 ·rename_i h;exact PS h
 ·split
  ·rename_i h1 h
   have h2:=Lp (q:=-q);have h3:(-q).num = -q.num:=rfl;have h4:0 < -q:=by grind
   have:=h2.2 h4;exact Int.sign_eq_neg_one_of_neg Aa
  ·rename_i h1 h2
   have:q=0:=by grind
   rw[this];rfl
noncomputable def V(l:List (Nat->Rat))(x:Rat):Nat:=JU 0 (l.map fun F=>BK (ev F x))
theorem XB(l:List Int):∀ σ,JU σ l<=l.length:=by
 induction l with
 | nil=>intro σ;exact Nat.le_refl _
 | cons s l ih =>
  intro σ;rw[JU]
  split
  ·have:=ih σ;simp;omega
  ·have:=ih s
   split<;>simp<;>omega
theorem bV{g:Nat->Rat}{n s:Nat}(h:BB g)(hn:pl g<=n)(hn9:n<=16)(hs:∀ i,qsz (g i)<=s)(hs9:s<=5)(k:Nat) :
  (∀ i,qsz ((yw (y0 g) (yc g) k).1 i)<=36000)/\(∀ i,qsz ((yw (y0 g) (yc g) k).2 i)<=36000)/\pl (yw (y0 g) (yc g) k).1+pl (yw (y0 g) (yc g) k).2<=n+1:=by
 obtain⟨hC,hW,e,d1,-⟩:=DW h;obtain⟨p1,p2⟩:=QD hW hC k;obtain⟨e1,e2⟩:=Zk hW hC k;have dW:Ie g (y0 g):=⟨yc g,hC.z,hC.f,by rw[Bn];exact e⟩
 have l1:=Dv.le p1.f hW.f hW.n (LM e1);have l2:=Dv.le p2.f hC.f hC.n (LM e2);have l3:=EW hW.f hC.f hW.n hC.n;rw[<-e]at l3;have:=hW.pos;exact⟨Ux h.z h.f h.n p1.z p1.f (JP dW e1) hn hn9 hs hs9,Ux h.z h.f h.n p2.z p2.f (JP d1 e2) hn hn9 hs hs9,Aa⟩
theorem QF{g:Nat->Rat}{n s:Nat}(h:BB g)(hn:pl g<=n)(hn9:n<=16)(hs:∀ i,qsz (g i)<=s)(hs9:s<=5)(i:Nat):qsz (yc g i)<=36000:=(bV h hn hn9 hs hs9 0).2.1 i
def mV(g:Nat->Rat)(K:Nat):Prop:=pl (yw (y0 g) (yc g) K).1<=1/\∀ j,j < K->1 < pl (yw (y0 g) (yc g) j).1
theorem mV.uniq{g:Nat->Rat}{K L:Nat}(h:mV g K)(k:mV g L):K=L:=by
 rcases Nat.lt_trichotomy K L with a | a | a
 ·have:=k.2 K a;have:=h.1;omega
 ·exact a
 ·have:=h.2 L a;have:=k.1;omega
theorem Bh.put1{w:World}{g:Nat}{t:TypeId}{a:Value}(h:Bh w g t #[a])(u:Value)(hu:Af u=false):∃ W,W=w.setCell ⟨g,0,none⟩ u/\Bh W g t #[u]/\Cu [g] w W:=
 ⟨_,rfl,h.set_ 0 hu,Cu.set_ h.nodig 0 u⟩
theorem Bh.cells1{w:World}{g:Nat}{t:TypeId}{a:Value}(h:Bh w g t #[a]):w.cell? ⟨g,0,none⟩=some a:=h.cell rfl
theorem AC.own{b:Nat}{A B:World}{row:Option Nat}{v:Value}{F:Nat->Rat}(h:AC b A v F)(hg:A.grownBy B row)(hr:∀ r,row=some r->∃ o:Obj,A.heap[r]? = some o/\o.isCells=false):AC b B v F:=by
 obtain⟨l,⟨A',c,h1,h2,h3,h4⟩,h5,rfl⟩:=h;refine⟨l,⟨A',c,h1,h2,h3,fun h0=>?_⟩,h5,rfl⟩;obtain⟨g,o,ha,hb,hc⟩:=h4 h0;refine⟨g,o,ha,hb,fun j hj=>?_⟩;obtain⟨cs,q1,q2,q3⟩:=hc j hj;refine⟨cs,q1,fun i hi=>?_,q3.kd (KD.own hg hr)⟩;have e:cs[i]? = some (cs[i]'(Aa)):=Array.getElem?_eq_getElem Aa;rw[e];exact cell_kept ((q2 i hi).trans e) hg hr
structure OQ(F:Nat->Rat)(S n M T:Nat):Prop where
 z:ZI F
 f:Ae F
 n0:F≠pz
 s:∀ i,qsz (F i)<=S
 d:∀ i,qsz (pd (pp F) i)<=S
 t:∀ i,qsz (yc (pp F) i)<=T
 p:pl F<=n
 n9:n<=16
 m:(S+1)*2^(n+(n - 1))<=M
 b:M+(n+(n - 1)+1)*(M+1)+M<=549755813888
 k:S+(n+2)*(T+1)+T<=1099511627776
theorem OQ.sS{F:Nat->Rat}{S n M T:Nat}(h:OQ F S n M T):S<=M:=by
 have:=Nat.mul_le_mul_left (S+1) (Nat.one_le_two_pow (n:=n+(n - 1)));have:=h.m;omega
structure Gf(W:Nat->Rat)(S D M:Nat):Prop where
 z:ZI W
 f:Ae W
 s:∀ i,qsz (W i)<=S
 d:∀ i,qsz (pd W i)<=S
 e:pl W+pl (pd W)=D
 m:jT W (pd W) S M
 b:M+(D+1)*(M+1)<=1000000
 D9:D<=900
def Lu(base:Nat)(t:TypeId)(w:World)(v:Value)(W:Nat->Rat):Prop:=∃ c us K,v = .agg #[c]/\MM W (pd W) K/\K<=pl (pd W)+1/\GZ base base t w c us (EH W (pd W) K)
theorem Lu.ext{base:Nat}{t:TypeId}{w w':World}{v:Value}{W:Nat->Rat}(h:Lu base t w v W)(x:Ext w w'):Lu base t w' v W:=by
 obtain⟨c,us,K,h1,h2,h3,h4⟩:=h;exact⟨c,us,K,h1,h2,h3,h4.ext x⟩
theorem Gf.SM{W:Nat->Rat}{S D M:Nat}(h:Gf W S D M):S < M:=h.m.1
theorem Gf.of2{W:Nat->Rat}{S D M:Nat}(z:ZI W)(f:Ae W)(s:∀ i,qsz (W i)<=S)(d:∀ i,qsz (pd W i)<=S)(e:pl W+pl (pd W)=D)(m:(S+1)*2^D<=M)(b:M+(D+1)*(M+1)<=1000000)(D9:D<=900):Gf W S D M:=
 ⟨z,f,s,d,e,jT.of2 f (BR f) z (Dn z) s d (by rw[e];exact m),b,D9⟩
theorem GZ.upd1{base eb g:Nat}{t t':TypeId}{w w':World}{v x:Value}{us:List Value}{l:List (Nat->Rat)}(h:GZ base eb t w v us l)(hx:SI x=false)(e:Bh w g t' #[x])(hg:g < base)(U:Cu [g] w w'):GZ base eb t w' v us l:=by
 have hb:=BJ.blk_ge h.out;have hne:∀ g'∈blk v,g'∉[g]:=fun g' hg' hm=>by
  have:=hb g' hg';have:g'=g:=by simpa using hm
  omega
 have hN:OP w (.slice (some ⟨g,0,none⟩) 1 1):=PU e.1 (by simpa using hx);refine⟨BJ.upd h.out U hne fun _ _ q=>q,h.len,fun g' hg' i c hc=>?_,fun i a b=>(h.el i a b).updB U fun g' hg'=>hN g' (by simpa[blk,Value.ownBlock] using hg')⟩;obtain⟨o,ho⟩:∃ o,w.heap[g']? = some o:=⟨_,Array.getElem?_eq_getElem (hb g' hg').2⟩
 have hk:=U.1 g' o (hne g' hg') ho;rw[World.cell?_of_block (hk.trans ho.symm)]at hc;exact h.nb g' hg' i c hc
theorem Gf.mem{W:Nat->Rat}{S D M K:Nat}(h:Gf W S D M)(hK:MM W (pd W) K):∀ F∈EH W (pd W) K,(∀ i,qsz (F i)<=M)/\pl F<=D/\Ae F:=by
 intro F hF;obtain⟨k,hk,rfl⟩:∃ k,k < K/\F=Ca W (pd W) k:=by
  unfold EH at hF;obtain⟨k,h1,h2⟩:=List.mem_map.1 hF;exact⟨k,List.mem_range.1 h1,h2.symm⟩
 have hst:∀ j,(∀ i,1<=i->i<=j->Ca W (pd W) i≠pz)->Fx W (pd W) D S (Ca W (pd W) j) (Ca W (pd W) (j+1)):=fun j hj=>by
  rw[<-h.e];exact IG h.f (BR h.f) h.z (Dn h.z) h.s h.d j hj
 obtain⟨f1,f2,z1,z2,hd,q1,q2⟩:=(hst k fun i a b=>hK.2.2 i a Aa).facts;exact⟨(h.m.2 k fun i a b=>hK.2.2 i a Aa).1,Aa,f1⟩
def Tv(F:Nat->Rat):Prop:=∃ i b,BL (F i).num.natAbs b/\4096 < b
noncomputable def Ct(F:Nat->Rat):Int:=open Classical in if F=pz then 5 else if 33 < pl F\/Tv F then 7 else 0
theorem Pt{F:Nat->Rat}(h:F=pz):Ct F=5:=by unfold Ct;rw[if_pos h]
theorem Kq{F:Nat->Rat}(h0:F≠pz)(h:33 < pl F\/Tv F):Ct F=7:=by unfold Ct;rw[if_neg h0,if_pos h]
theorem Li{F:Nat->Rat}(h0:F≠pz)(h1:¬ 33 < pl F)(h2:¬ Tv F):Ct F=0:=by unfold Ct;rw[if_neg h0,if_neg (fun q=>q.elim h1 h2)]
theorem DV(F:Nat->Rat):(F=pz/\Ct F=5)\/(F≠pz/\Ct F=7)\/(F≠pz/\pl F<=33/\¬ Tv F/\Ct F=0):=by
 by_cases h0:F=pz
 ·exact .inl ⟨h0,Pt h0⟩
 by_cases h:33 < pl F\/Tv F
 ·exact .inr (.inl ⟨h0,Kq h0 h⟩)
 ·exact .inr (.inr ⟨h0,Aa,fun q=>h (.inr q),Li h0 (fun q=>h (.inl q)) fun q=>h (.inr q)⟩)
theorem YX{F:Nat->Rat}(z:ZI F)(h:¬ Tv F)(i:Nat):qsz (F i)<=129:=by
 obtain⟨b,hb⟩:=BL.ex (F i).num.natAbs;have h1:b<=4096:=by
  rcases Nat.lt_or_ge 4096 b with q | q
  ·exact absurd ⟨i,b,hb,q⟩ h
  ·exact q
 have h2:(F i).num.natAbs < bp 129:=by
  obtain⟨E,hE⟩:∃ E,E=129:=⟨_,rfl⟩
  rw[<-hE,Cy];exact Nat.lt_of_lt_of_le hb.1 (Nat.pow_le_pow_right Ab Aa)
 have h3:=Cm h2;rw[z.num i,Bi];omega
def RA(F:Nat->Rat)(w:World)(r:Value):Prop:=∃ u,r = .tuple #[u,.int .i64 (Ct F)]/\(Ct F=0->AC 0 w u F)/\(Ct F≠0->u = .slice none 0 0)
def mD(b:Nat)(F:Nat->Rat)(w:World)(r:Value):Prop:=∃ u,r = .tuple #[u,.int .i64 (Ct F)]/\(Ct F=0->AC b w u F)/\(Ct F≠0->u = .slice none 0 0)
theorem RA.ext{F:Nat->Rat}{w w':World}{r:Value}(h:RA F w r)(x:Ext w w'):RA F w' r:=by
 obtain⟨u,h1,h2,h3⟩:=h;exact⟨u,h1,fun e=>(h2 e).ext x,h3⟩
def kX(F:Nat->Rat)(r:Value):Prop:=∃ b A n c,r = .tuple #[.agg #[.bool b,.slice A n c],.int .i64 (Ct F)]
theorem Wp(l:List (Nat->Rat))(x:Rat):V l x<=l.length:=by
 unfold V;have:=XB (l.map fun F=>BK (ev F x)) 0;simpa using this
def KM(w:World)(v:Value)(x y:Int):Prop:=∃ a b,v = .tuple #[a,b]/\AP w a x/\AP w b y
theorem KM.ext{w w':World}{v:Value}{x y:Int}(h:KM w v x y)(k:Ext w w'):KM w' v x y:=by
 obtain⟨a,b,h1,h2,h3⟩:=h;exact⟨a,b,h1,h2.kd k.kd,h3.kd k.kd⟩
def kL(F G:Nat->Rat)(r:Value)(w:World):Prop:=∃ q b,r = .tuple #[q,.bool b]/\(∃ A n c,q = .slice A n c)/\(b=true↔Ie F G)/\(b=true->AC 0 w q (pq F G))
theorem EZ.lower{F G:Nat->Rat}{n s t i j:Nat}{Q R:Nat->Rat}(h:EZ F G n s t i Q R)(hj:j<=i)(hs:BA (j+pl G - 1) R):EZ F G n s t j Q R:=
 ⟨fun m hm=>h.1 m Aa,h.2.1,hs,h.2.2.2.1,h.2.2.2.2.1,h.2.2.2.2.2.1,fun m=>by
  have h1:=h.2.2.2.2.2.2 m;have h2:(n - i)*(t+1)<=(n - j)*(t+1):=Nat.mul_le_mul_right _ Aa;omega⟩
theorem Sw{x y:Int}:((x % y).sign != 0)=!decide (y∣x):=by
 by_cases h:y∣x
 ·rw[Int.emod_eq_zero_of_dvd h];simp[h]
 ·have:x % y≠0:=fun e=>h (Int.dvd_of_emod_eq_zero e)
  have h2:(x % y).sign≠0:=fun e=>this (Int.sign_eq_zero_iff_zero.1 e);simp[h,h2]
end Go.Hp
namespace Go.Proofs.YtmhgnigpmompmaaGreat
open Go.RowKit Go.Hp Go.Deep Go.ChangeShapes Go.ChangeAt
section
variable{H:Type}{enc:TypeId×Value->H}{w:World}{spare:Nat->Bool}{held:Bool}
theorem VQ{fuel:Nat}{cs:List Value}{x:DataW H×List MemPlace}(h:DataW.trod enc Tryz.prog w 0 spare held fuel 24 cs=some x):∃ A n c ds,cs=[.slice A n c]/\BM w (.slice A n c) ds:=by
 rcases open_ints Tryz.underlying24 Tryz.underlying113 EQ h with⟨rfl,_⟩ | ⟨a,n,c,zs,rfl,_,hl,hm,hz,_,hcell,hwz⟩
 ·exact⟨none,0,0,[],rfl,none,0,rfl,Nat.le_refl _,Aa,fun d hd=>by simp at hd,fun h=>by simp at h⟩
 ·have hzl:n<=zs.length:=by rw[hz];split<;>omega
  have hw:∀ z∈zs,0<=z/\z < 4294967296:=fun z hz=>by
   have:=hwz z hz;simp[Lit.wf]at this;have e1:IntKind.u32.min=0:=rfl;have e2:IntKind.u32.max=4294967295:=rfl;omega
  have hlen:((zs.take n).map Int.toNat).length=n:=by simp;omega
  refine⟨some a,n,c,(zs.take n).map Int.toNat,rfl,some a,c,by rw[hlen],by rw[hlen];exact hl,GM hm,?_,fun _=>⟨a,rfl,fun j hj=>?_⟩⟩
  ·intro d hd
   obtain⟨z,hz1,rfl⟩:=List.mem_map.1 hd;have:=hw z (List.mem_of_mem_take hz1);omega
  ·rw[hlen]at hj
   have hjz:j < zs.length:=by omega
   rw[hcell j hjz,List.getElem_map,List.getElem_take];have:=hw zs[j] (List.getElem_mem hjz);rw[show zs.getD j 0=zs[j]from by rw[List.getD_eq_getElem?_getD,List.getElem?_eq_getElem hjz];rfl];congr 2;omega
set_option maxRecDepth 100000 in
theorem X4{fuel:Nat}{cs:List Value}{x:DataW H×List MemPlace}(h:DataW.trod enc Tryz.prog w 0 spare held fuel 26 cs=some x):∃ b A n c ds,cs=[.bool b,.slice A n c]/\BM w (.slice A n c) ds:=by
 obtain⟨y0,y1,n,_,hl,h0,h1⟩:=trod_struct2 Tryz.underlying26 h;rw[show Tryz.prog.cellsOf 26=2 from by kernel_rfl]at hl
 match cs,hl with
 | [c0,c1],_ =>
  rw[show Tryz.prog.cellsOf 4=1 from by kernel_rfl]at h0;rw[show Tryz.prog.cellsOf 24=1 from by kernel_rfl]at h1;obtain⟨b,e0,_⟩:=DataW.trod_bool Tryz.underlying4 h0;obtain⟨A,m,c,ds,e1,hd⟩:=VQ h1;simp at e0 e1;subst e0 e1;exact⟨b,A,m,c,ds,rfl,hd⟩
end
section
variable{H:Type}{enc:TypeId×Value->H}{w:World}{spare:Nat->Bool}{held:Bool}
theorem VI{α:Type}{k E:Nat}(hk:0 < k){rd:World->Value->α->Prop}(hsz:Tryz.prog.cellsOf E=k)
  (hop:∀ {fuel:Nat} {cs:List Value} {x:DataW H×List MemPlace},DataW.trod enc Tryz.prog w 0 spare held fuel E cs=some x->∃ r:α,∃ cs':Array Value,cs=cs'.toList/\cs'.size=k/\rd w (.agg cs') r)
  {T fuel:Nat} {v:Value} {x:DataW H×List MemPlace} (hT:Tryz.prog.underlying T=some (.slice E)) (h:DataW.trod enc Tryz.prog w 0 spare held fuel T v.cells.toList=some x) (hv:∃ a n c,v = .slice a n c):∃ l:List α,Da k rd 0 w v l:=by
 obtain⟨a0,n0,c0,rfl⟩:=hv;rcases open_slice hT h with⟨hcs,_⟩ | ⟨a,n,c,m,k',D,Pl,hcs,_,hl,hm,hmm,_,hel⟩
 ·simp[Value.cells]at hcs
  obtain⟨rfl,rfl,rfl⟩:=hcs;exact⟨[],Da.nil k rd 0 w⟩
 ·simp[Value.cells]at hcs
  obtain⟨rfl,rfl,rfl⟩:=hcs;have hnm:n0<=m:=by rw[hmm];split<;>omega
  rw[hsz]at hel;have key:∀ i,i < n0->∃ r:α,∃ cs:Array Value,cs.size=k/\(∀ j,j < k->w.cell? ((a.add (i*k)).add j)=cs[j]?)/\rd w (.agg cs) r:=fun i hi=>by
   obtain⟨cs',h1,h2⟩:=hel i Aa;obtain⟨r,cs,rfl,h3,h4⟩:=hop h2;obtain⟨_,h5,h6⟩:=World.cells?_some h1;exact⟨r,cs,h3,fun j hj=>by rw[h6 j hj];simp,h4⟩
  have hc:∀ n',n'<=n0->∃ l:List α,l.length=n'/\∀ i (h:i < l.length),∃ cs:Array Value,cs.size=k/\(∀ j,j < k->w.cell? ((a.add (i*k)).add j)=cs[j]?)/\rd w (.agg cs) l[i]:=by
   intro n';induction n' with
   | zero=>intro _;exact⟨[],rfl,fun i h=>by simp at h⟩
   | succ n' ih =>
    intro hn;obtain⟨l,hl1,hl2⟩:=ih Aa;obtain⟨r,cs,k1,k2,k3⟩:=key n' Aa;refine⟨l ++ [r],by simp[hl1],fun i hi=>?_⟩;rcases Nat.lt_or_ge i l.length with h' | h'
    ·rw[List.getElem_append_left h'];exact hl2 i h'
    ·have e:i=n':=by simp at hi;omega
     subst e;refine⟨cs,k1,k2,?_⟩;rw[List.getElem_append_right h'];simpa[hl1] using k3
  obtain⟨l,hl1,hl2⟩:=hc n0 (Nat.le_refl _);refine⟨l,some a,c0,by rw[hl1],Aa,GM hm,fun h0=>?_⟩;obtain⟨b,off,spot⟩:=a;obtain⟨cs,k1,k2,k3⟩:=hl2 0 h0;have hs:spot=none:=by
   have:=k2 0 hk;rw[Array.getElem?_eq_getElem Aa]at this;simpa[Addr.add] using World.cell?_spot this
  subst hs;refine⟨b,off,rfl,Nat.zero_le _,fun j hj=>?_⟩;obtain⟨cs,k1,k2,k3⟩:=hl2 j hj;refine⟨cs,k1,fun i hi=>?_,k3⟩;rw[<-k2 i hi,Lt,Lt]
set_option maxRecDepth 100000 in
theorem bR{fuel:Nat}{cs:List Value}{x:DataW H×List MemPlace}(h:DataW.trod enc Tryz.prog w 0 spare held fuel 26 cs=some x):∃ r:Kj,∃ cs':Array Value,cs=cs'.toList/\cs'.size=2/\PW w (.agg cs') r:=by
 obtain⟨b,A,n,c,ds,rfl,hd⟩:=X4 h;exact⟨(b,ds),#[.bool b,.slice A n c],rfl,rfl,_,rfl,hd⟩
theorem Ku{T fuel:Nat}{v:Value}{x:DataW H×List MemPlace}(hT:Tryz.prog.underlying T=some (.slice 26))(h:DataW.trod enc Tryz.prog w 0 spare held fuel T v.cells.toList=some x)(hv:∃ a n c,v = .slice a n c):∃ l:List Kj,Dx w v l:=
 VI Ab EQ (fun h=>bR h) hT h hv
end
theorem FR(W:World)(base ty g:Nat)(v:Value)(l:List Int)(q:Int){b:Bool}{A:Option Addr}{n c:Nat}(h:CK base 26 W v l)(hq:AP W (.agg #[.bool b,.slice A n c]) q)(hn:l.length<=1099511627776)(hb:base<=W.heap.size)(hg:g=W.heap.size) :
  ∃ v' w',(Builtin.append_ #[22,22] ty #[v,.slice (some ⟨g,0,none⟩) 1 1]).run Tryz.prog (W.alloc (.cells #[.bool b,.slice A n c] 26)) = .ok v' w'/\(CK base 26 w' v' (l ++ [q])/\Cu (blk v) (W.alloc (.cells #[.bool b,.slice A n c] 26)) w'):=by
 subst hg;obtain⟨g,cs,e1,h1,h2,h3,h4⟩:=EI.mk hq (base:=W.heap.size) (Nat.le_refl _) 26;cases e1;obtain⟨i0,hi,hz0,hz1,hz2⟩:=info_parts I6;have ho:=AP.one h4;have hx:=(Ext.refl W).alloc (.cells #[.bool b,.slice A n c] 26);obtain⟨v',w',a,b,c⟩:=BJ.append (P:=Tryz.prog) (h.ext hx) 22 ty i0 _ 32 Tryz.underlying22 hi hz0 hz1 hz2 rfl (by simp[nodig,Af,Value.cells]) Ab ⟨W.heap.size,0,none⟩ 1 cs h3 h4 h2.news ho.1 ho.2.1 (FW hn) Aa (Nat.le_trans hb hx.size) (fun _ _ _ k hq=>AP.kd hq k)
 exact⟨v',w',a,b,c⟩
theorem D5(v:Value)(l:List Int)(w:World)(hv:De 0 w v l)(hn:l.length<=1099511627776):Bc 47 #[v] w (fun r w'=>AC w.heap.size w' r (cz l)):=by
 have hqs:=hv.sz;obtain⟨A,c,rfl,hl,hc,hA⟩:=hv;have HA:Hid (GL 0 w A l):=Ad hA;clear hA;have HQ:=Ad hqs;clear hqs
 go_enter Tryz.func47,Tryz.ntmps47
 go_wp2
 go_loopw [3,4] (fun ov iv wr=>∃ (k:Nat),k<=l.length/\iv = .int .i64 k/\CK w.heap.size 26 wr ov (DN k (cz l))/\Ext w wr) (fun _ iv _=>l.length - (intOf iv).toNat)
 case atStart=>exact⟨0,Nat.zero_le _,rfl,BJ.nil _ _ _ _ _,Ext.refl _⟩
 case round =>
  obtain⟨k,hk,rfl,hown,hx⟩:=hrel;by_cases hkl:k < l.length
  ·obtain⟨g,o,b,A1,n,c1,rfl,_,q0,q1,hq⟩:=HA.out.at_ (j:=k) hkl
   replace q0:=hx.cell q0;replace q1:=hx.cell q1;have Hq:=Ad (hq.kd hx.kd);clear hq
   go_wp2_with fail
   refine AB (F8 _ _ _ Hq.out) ?_;rintro r w2 hr hx2;obtain⟨b5,A5,n5,c5,rfl⟩:=hr.cells;have Hr:=Ad hr;clear hr;replace hown:=hown.ext hx2;replace hx:=hx.trans hx2;have Hown:=Ad hown;clear hown;have hsz:=hx.size;clear hx2 q0 q1 Hq
   go_wp2_with (at_builtin;refine Av rfl _ _ 22 rfl u3 (.slice (some ⟨w2.heap.size,0,none⟩) 1 1) rfl rfl (FR w2 w.heap.size _ _ _ _ _ Hown.out Hr.out (by first | (rw[AX];omega) | omega) hsz rfl) ?_)
   first | intro v' w5 hown U | rintro v' w5 ⟨hown,U⟩
   replace hx:=(Hown.out.ext ((Ext.refl w2).alloc _)).from_ U (hx.alloc _) (Nat.le_refl _);have Hown':=Ad hown;clear hown U;go_wp2
   go_roundw
   case rel=>exact⟨k+1,Aa,by go_num,by rw[Es,Cn hkl];exact Hown'.out,hx⟩
   case measure=>simp[intOf]<;>omega
  ·obtain rfl:k=l.length:=by omega
   rw[jS]at hown;obtain⟨A2,c2,rfl,h2,h3,h4⟩:=CK.row hown;have Hrow:Hid (Mw w.heap.size wr A2 l):=Ad h4;clear h4 hown;have hx0:=hx;go_wp2;clear hx
   go_loopw [5] (fun nv wx=>∃ m:Nat,m<=l.length/\nv = .int .i64 m/\(∀ j,m<=j->(h:j < l.length)->l[j]=0)/\Ext wr wx) (fun nv _=>(intOf nv).toNat)
   case atStart=>exact⟨l.length,Nat.le_refl _,rfl,fun j h1 h2=>Aa,Ext.refl _⟩
   case round =>
    obtain⟨m,hm,rfl,hz,hx⟩:=hrel;have Hz:=Ad hz;clear hz;by_cases h0:0 < m
    ·obtain⟨m,rfl⟩:∃ k,m=k+1:=⟨m - 1,Aa⟩
     have hml:m < l.length:=by omega
     have Hrow':Hid (Mw w.heap.size _ A2 l):=Ad Hrow.out;obtain⟨g,o,b,A1,n,c1,rfl,hb,q0,q1,hq⟩:=Hrow'.out.at_ (j:=m) hml;replace q0:=hx.cell q0;replace q1:=hx.cell q1;have Hq:=Ad ((hq.has (HQ.out _ (List.getElem_mem hml))).kd hx.kd);clear hq
     go_wp2_with fail
     refine AB (J9 _ l[m] _ Hq.out) ?_;rintro r w2 rfl hx2;by_cases hd0:l[m]'(Aa)=0
     ·have hb:(l[m].sign==0)=true:=by rw[hd0];rfl
      have Hd:=Ad hd0;clear hd0;go_wp2
      go_roundw
      case rel=>exact⟨m,Aa,by go_num,fun j h1 h2=>by
       rcases Nat.eq_or_lt_of_le h1 with e | e
       ·subst e;exact Hd.out
       ·exact Hz.out j Aa h2,hx.trans hx2⟩
      case measure=>simp[intOf]<;>omega
     ·have hb:(l[m].sign==0)=false:=by
       have:l[m].sign≠0:=fun e=>hd0 (Int.sign_eq_zero_iff_zero.1 e);simpa using this
      have Hd:=Ad hd0;clear hd0;go_wp2
      go_ret
      have hlen:=Io hm Hz.out (fun h _=>by simpa using Hd.out);have hR:=(Mo.trim (Hrow.out.ext (hx.trans hx2)) h2 h3)
      rw[hlen]at hR;exact Ag.mk (AC.of_trim hR rfl) ((hx0.trans hx).trans hx2)
    ·obtain rfl:m=0:=by omega
     have hlen:=Io hm Hz.out (fun h hh=>Aa);have hR:=(Mo.trim (Hrow.out.ext hx) h2 h3)
     rw[hlen]at hR;have HR:=Ad (Ai hR hlen);clear hR hlen;go_wp2
     go_ret
     exact Ag.mk (AC.of_trim HR.out.1 rfl) (hx0.trans hx)
theorem Ee(v:Value)(l:List Int)(w:World)(hv:De 0 w v l)(hn:l.length<=1099511627776):Bc 15 #[v] w (fun r _=>r = .int .i64 ((pl (cz l):Int) - 1)):=by
 have HV:=Ad hv;obtain⟨A,c,rfl⟩:=hv.len;clear hv;have hpl:pl (cz l)<=l.length:=Bj (BG l)
 go_enter Tryz.func15,Tryz.ntmps15
 go_wp2_with fail
 refine AB (D5 _ l _ HV.out hn) ?_;rintro r w1 hr hx1;obtain⟨A2,c2,rfl,-⟩:=hr.shape;clear hr;go_wp2
 go_ret
 exact Ag.mk rfl hx1
theorem RG(v:Value)(l:List Int)(k:Nat)(w:World)(hv:De 0 w v l)(hk:k<=9223372036854775807):Bc 131 #[v,.int .i64 (k:Nat)] w (fun r w'=>AP w' r (cz l k).num):=by
 obtain⟨A,c,rfl,hl,hc,hA⟩:=hv;by_cases hkl:k < l.length
 ·obtain⟨g,o,b,A1,n,c1,rfl,_,q0,q1,hq⟩:=GL.at_ hA (j:=k) hkl
  rw[Cn hkl];have Hq:=Ad hq;clear hq hA;have hkc:(k:Int) < l.length:=by omega
  replace q0:=((Ext.refl w).alloc (.cells #[.bool false,.slice none 0 0] 26)).cell q0;replace q1:=((Ext.refl w).alloc (.cells #[.bool false,.slice none 0 0] 26)).cell q1
  go_enter Tryz.func131,Tryz.ntmps131
  go_wp2_with fail
  refine AB (F8 _ _ _ (Hq.out.kd ((Ext.refl w).alloc _).kd)) ?_;rintro r w1 hr hx1;clear q0 q1;obtain⟨b5,A5,n5,c5,rfl⟩:=hr.cells;have hc1:=hx1.cells;have hf1:=hx1.frozens;have Hfin:=Ad (Ck hr hx1.a1 (AU.at_ hx1 (g:=w.heap.size+0) Ac (by simp[Af])) Aa);clear hr;go_wp2;refine bodyPost_ret (v := .agg #[.bool b5,.slice A5 n5 c5]) (by simp[results,Tryz.results131,go_sem,hc1]) rfl ?_;exact Hfin.out
 ·have hz:(cz l k).num=0:=by rw[IP Aa];rfl
  have hkc:¬ (k:Int) < l.length:=by omega
  have Hz:=Ad hz;clear hz hA;rw[Hz.out]
  go_enter Tryz.func131,Tryz.ntmps131
  go_wp2_with fail
  refine AB (Kw 0 _ Aa Aa) ?_;rintro r w1 hr hx1;obtain⟨b5,A5,n5,c5,rfl⟩:=hr.cells;have hc1:=hx1.cells;have hf1:=hx1.frozens;have Hfin:=Ad (Ck hr hx1.a1 (AU.at_ hx1 (g:=w.heap.size+0) Ac (by simp[Af])) Aa);clear hr;go_wp2;refine bodyPost_ret (v := .agg #[.bool b5,.slice A5 n5 c5]) (by simp[results,Tryz.results131,go_sem,hc1]) rfl ?_;exact Hfin.out
theorem ZH(v:Value)(l:List Int)(w:World)(hv:De 0 w v l):Bc 131 #[v,.int .i64 (-1)] w (fun r w'=>AP w' r 0):=by
 obtain⟨A,c,rfl,hl,hc,hA⟩:=hv;clear hA
 go_enter Tryz.func131,Tryz.ntmps131
 go_wp2_with fail
 refine AB (Kw 0 _ Aa Aa) ?_;rintro r w1 hr hx1;obtain⟨b5,A5,n5,c5,rfl⟩:=hr.cells;have hc1:=hx1.cells;have hf1:=hx1.frozens;have Hfin:=Ad (Ck hr hx1.a1 (AU.at_ hx1 (g:=w.heap.size+0) Ac (by simp[Af])) Aa);clear hr;go_wp2;refine bodyPost_ret (v := .agg #[.bool b5,.slice A5 n5 c5]) (by simp[results,Tryz.results131,go_sem,hc1]) rfl ?_;exact Hfin.out
theorem MH(v:Value)(l:List Int)(w:World)(hv:De 0 w v l)(hn:l.length<=1099511627776):Bc 74 #[v] w (fun r w'=>AP w' r (ld (cz l)).num):=by
 have HV:=Ad hv;obtain⟨A,c,rfl⟩:=hv.len;clear hv;have hpl:pl (cz l)<=l.length:=Bj (BG l);obtain⟨X,hX⟩:∃ X,X=(ld (cz l)).num:=⟨_,rfl⟩
 rw[<-hX];have HX:=Ad hX;clear hX
 go_enter Tryz.func74,Tryz.ntmps74
 go_wp2_with fail
 refine AB (Ee _ l _ (HV.out.ext ((Ext.refl w).alloc _)) hn) ?_;rintro r w1 rfl hx;by_cases h0:0 < pl (cz l)
 ·obtain⟨k,hk⟩:∃ k:Nat,k=pl (cz l) - 1:=⟨_,rfl⟩
  have e1:(pl (cz l):Int) - 1=(k:Nat):=by omega
  have hl:X=(cz l k).num:=by rw[HX.out];unfold ld;rw[hk]
  have HL:=Ad hl;rw[e1];have hk9:k<=9223372036854775807:=by omega
  clear e1 hl hk
  go_wp2_with fail
  refine AB (RG _ l k _ (HV.out.ext hx.a1) hk9) ?_;rintro r w2 hr hx2;rw[<-HL.out]at hr;have hx1:=hx.trans hx2;clear hx hx2;obtain⟨b5,A5,n5,c5,rfl⟩:=hr.cells;have hc1:=hx1.cells;have hf1:=hx1.frozens;have Hfin:=Ad (Ck hr hx1.a1 (AU.at_ hx1 (g:=w.heap.size+0) Ac (by simp[Af])) Aa);clear hr;go_wp2;refine bodyPost_ret (v := .agg #[.bool b5,.slice A5 n5 c5]) (by simp[results,Tryz.results74,go_sem,hc1]) rfl ?_
  exact Hfin.out
 ·have e1:(pl (cz l):Int) - 1 = -1:=by omega
  have hl:X=0:=by rw[HX.out];unfold ld;rw[show pl (cz l) - 1=0 from Aa,(Bt (Ae.cz l)).1 Aa];rfl
  have HL:=Ad hl;rw[e1];clear e1 hl
  go_wp2_with fail
  refine AB (ZH _ l _ (HV.out.ext hx.a1)) ?_;rintro r w2 hr hx2;rw[<-HL.out]at hr;have hx1:=hx.trans hx2;clear hx hx2;obtain⟨b5,A5,n5,c5,rfl⟩:=hr.cells;have hc1:=hx1.cells;have hf1:=hx1.frozens;have Hfin:=Ad (Ck hr hx1.a1 (AU.at_ hx1 (g:=w.heap.size+0) Ac (by simp[Af])) Aa);clear hr;go_wp2;refine bodyPost_ret (v := .agg #[.bool b5,.slice A5 n5 c5]) (by simp[results,Tryz.results74,go_sem,hc1]) rfl ?_
  exact Hfin.out
theorem JI(W:World)(v x:Value)(base b ty:Nat)(l:List Int)(q:Int)(h:CK base 26 W v l)(hx:EI W x b q 26)(hn:l.length<=1099511627776)(hb:base<=W.heap.size) :
  ∃ v' w',(Builtin.append_ #[22,22] ty #[v,x]).run Tryz.prog W = .ok v' w'/\(CK base 26 w' v' (l ++ [q])/\Cu (blk v) W w'):=by
 obtain⟨g,cs,rfl,h1,h2,h3,h4⟩:=hx;obtain⟨i0,hi,hz0,hz1,hz2⟩:=info_parts I6;have ho:=AP.one h4;obtain⟨v',w',a,b,c⟩:=BJ.append (P:=Tryz.prog) h 22 ty i0 _ 32 Tryz.underlying22 hi hz0 hz1 hz2 rfl (by simp[nodig,Af,Value.cells]) Ab ⟨g,0,none⟩ 1 cs h3 h4 h2.news ho.1 ho.2.1 (FW hn) Aa hb (fun _ _ _ k hq=>AP.kd hq k);exact⟨v',w',a,b,c⟩
theorem IJ(v:Value)(l:List Int)(w:World)(hv:De 0 w v l)(hs:∀ i,qsz (cz l i)<=549755813888)(hn:l.length<=1099511627776):Bc 126 #[v] w (fun r w'=>AP w' r (cn (cz l):Nat)):=by
 obtain⟨A,c,rfl,hl,hc,hA⟩:=hv;have HA:Hid (GL 0 w A l):=Ad hA;clear hA;have HS:=Ad hs;clear hs;rw[fK (BG l)]
 go_enter Tryz.func126,Tryz.ntmps126
 go_wp2_with fail
 refine AB (Kw 0 _ Aa Aa) ?_;rintro r w1 hr hx1;obtain⟨b5,A5,n5,c5,rfl⟩:=hr.cells;have ea:=(Bh.new w 26 #[.bool false,.slice none 0 0] (by simp[Af])).ext hx1;obtain⟨W0,eW,eb,x0⟩:=Bh.made w1 26 #[.bool b5,.slice A5 n5 c5] (by simp[Af]);replace hr:=hr.kd x0.kd;replace ea:=ea.ext x0;have hs1:=hx1.size;have hx:=hx1.a1.trans x0;have hgb:w.heap.size < w1.heap.size:=by simp at hs1;omega
 go_wp2;rw[<-eW];clear eW x0 hx1 hs1;generalize w1.heap.size=gb at *
 go_loopw [4] (fun iv wr=>∃ k:Nat,k<=l.length/\iv = .int .i64 k/\Bh wr w.heap.size 26 #[.bool false,.slice none 0 0]/\Bp wr gb 26 (ct k (cz l):Nat)/\Ext w wr) (fun iv _=>l.length - (intOf iv).toNat)
 case atStart=>exact⟨0,Nat.zero_le _,rfl,ea,Bp.mk eb hr,hx⟩
 case round =>
  clear hx ea eb hr;obtain⟨k,hk,rfl,ea,⟨b,B,bn,bc,eb,hb⟩,hx⟩:=hrel;have Hb:=Ad hb;clear hb;by_cases hkl:k < l.length
  ·obtain⟨g,o,b1,A1,n,c1,rfl,_,q0,q1,hq⟩:=HA.out.at_ (j:=k) hkl
   replace q0:=hx.cell q0;replace q1:=hx.cell q1;have Hq:=Ad (hq.kd hx.kd);clear hq;have hsk:=G5 HS.out k;have hqk:=HS.out k;rw[Cn hkl,Bi]at hqk;have HK:=Ad (Ai hsk hqk);clear hsk hqk;obtain⟨r0,r1⟩:=eb.cells2;have e1:Int.gcd (ct k (cz l):Nat) l[k]=ct (k+1) (cz l):=by rw[Gx,Cn hkl];rfl
   have He:=Ad e1;clear e1
   go_wp2_with fail
   refine CP 6 [12,13,14,15,16,17] [3,0,4] [_,_,_] [(kv ?_),(kv ?_),(kv ?_),(kv ?_),(kv ?_),(fun γ=>γ 5)] (fun γ w'=>[True,True,True,True,True,AP w' (γ 5) (ct (k+1) (cz l):Nat)]) ?s1 ?_
   case s1 =>
    iterate 6 refine⟨?_,?_⟩
    trivial
    iterate 5 focus
     refine AY fun _ w' he R hR=>?_;have hc:=he.cells;have cq0:=he.cell q0;have cq1:=he.cell q1;have cq2:=he.cell r0;have cq3:=he.cell r1;go_simp;(try go_ints);(try(rw[if_neg Aa]));(try(rw[if_pos Aa]));(try go_simp);(try go_ints)
     exact Br hR
    ·refine AY fun _ w' he R hR=>?_
     go_simp;exact Bf (He.out▸Ut _ _ (ct k (cz l):Nat) l[k] w' ((Hb.out.kd he.kd).has (by have:=HK.out.1;simp;omega)) (Hq.out.kd he.kd) (by have:=HK.out.1;simp;omega) (by have:=HK.out.2;omega)) hR
   intro γ w2 hx2 hF;have p5:AP w2 (γ 5) (ct (k+1) (cz l):Nat):=Ak.get hF 5 Ab;clear hF;simp only[Bg,Nat.reduceAdd];generalize γ 5=g5 at *;clear γ;obtain⟨b6,A6,n6,c6,rfl⟩:=p5.cells;replace ea:=ea.ext hx2;replace eb:=eb.ext hx2;replace hx:=hx.trans hx2;clear hx2 q0 q1 r0 r1 He HK Hb Hq;have ceb:=eb.cells2;have feb:=eb.frozen;go_wp2;obtain⟨W3,eW,eb',U⟩:=eb.put2 (.bool b6) (.slice A6 n6 c6);rw[<-eW];clear eW eb
   replace p5:=p5.kd U.kd;replace ea:=ea.upd U Aj;replace hx:=U.from_ hx Aj;have eb:=eb';clear U eb'
   go_roundw
   case rel=>exact⟨k+1,Aa,by go_num,ea,Bp.mk eb p5,hx⟩
   case measure=>simp[intOf];omega
  ·obtain rfl:k=l.length:=by omega
   have cea:=ea.cells2;have fea:=ea.frozen;have ceb:=eb.cells2;have feb:=eb.frozen;go_wp2;have hr:=Hb.out;obtain⟨W3,eW,ea',U⟩:=ea.put2 (.bool b) (.slice B bn bc);rw[<-eW];clear eW ea;replace hr:=hr.kd U.kd;replace hx:=U.from_ hx Aj;have ea:=ea';clear U ea';clear cea;have cea:=ea.cells2;have fea:=ea.frozen;refine bodyPost_ret (v := .agg #[.bool b,.slice B bn bc]) (by simp[results,Tryz.results126,go_sem,cea]) rfl ?_
   exact Ag.mk hr hx
set_option maxRecDepth 20000 in
theorem Qo(v u:Value)(l:List Int)(a:Int)(w:World)(hv:De 0 w v l)(hu:Bq w u a)(hs:∀ i,qsz (cz l i)<=549755813888)(sa:sz a.natAbs<=549755813888)(ha:a≠0)(hd:∀ i,a∣(cz l i).num)(hn:l.length<=549755813888) :
  Bc 125 #[v,u] w (fun r w'=>AC w.heap.size w' r (psc (1 / (a:Rat)) (cz l))):=by
 have HU:=Ad hu;obtain⟨b1,A1,n1,c1,rfl⟩:=hu.cells;obtain⟨A,c,rfl,hl,hc,hA⟩:=hv;clear hu;have HA:Hid (GL 0 w A l):=Ad hA;clear hA;obtain⟨G,hG⟩:∃ G,G=psc (1 / (a:Rat)) (cz l):=⟨_,rfl⟩
 have hGi:∀ i,G i=(((cz l i).num / a:Int):Rat):=fun i=>by rw[hG];exact jP (ZI.cz l) ha i (hd i)
 have hGs:BA l.length G:=by rw[hG];exact(BG l).psc _
 have hGq:∀ i,qsz (G i)<=549755813888:=fun i=>by
  rw[hGi,Bi];have h1:=KE (hd i);have h2:=hs i;unfold qsz at h2;omega
 rw[<-hG];have HG:=Ad (Ai hGi (Ai hGs (Ai hGq (show ZI G from fun i=>⟨_,hGi i⟩))));clear hG hGi hGs hGq;have HS:=Ad (Ai hs (Ai ha hd));clear hs ha hd
 go_enter Tryz.func125,Tryz.ntmps125
 go_wp2
 go_loopw [5,6] (fun ov iv wr=>∃ (k:Nat),k<=l.length/\iv = .int .i64 k/\CK (w.heap.size+1) 26 wr ov (DN k G)/\Ext (w.alloc (.cells #[.bool b1,.slice A1 n1 c1] 26)) wr) (fun _ iv _=>l.length - (intOf iv).toNat)
 case atStart=>exact⟨0,Nat.zero_le _,rfl,BJ.nil _ _ _ _ _,Ext.refl _⟩
 case round =>
  obtain⟨k,hk,rfl,hown,hx⟩:=hrel;by_cases hkl:k < l.length
  ·obtain⟨g,o,b,A2,n,c2,rfl,_,q0,q1,hq⟩:=HA.out.at_ (j:=k) hkl
   replace q0:=hx.a1.cell q0;replace q1:=hx.a1.cell q1;have ca0:=hx.box (g:=w.heap.size) (i:=0) rfl rfl;have ca1:=hx.box (g:=w.heap.size) (i:=1) rfl rfl;have hqk:=HS.out.1 k;rw[Cn hkl,Bi]at hqk;have hGk:l[k] / a=(G k).num:=by rw[HG.out.1,Cn hkl];rfl
   have Hq:=Ad (Ai hq (Ai hqk hGk));clear hq hqk hGk;have Hown:=Ad hown;clear hown
   go_wp2_with fail
   refine CP 8 [13,14,15,16,17,18,19,20] [5,0,6,3] [_,_,_,_] [(kv ?_),(kv ?_),(kv ?_),(kv ?_),(kv ?_),(kv ?_),(fun γ=>γ 6),(fun γ=>γ 7)] (fun γ w'=>[True,True,True,True,True,True,AP w' (γ 6) (G k).num,EI w' (γ 7) (wr.heap.size) ((G k).num) 26]) ?s2 ?_
   case s2 =>
    iterate 8 refine⟨?_,?_⟩
    trivial
    iterate 6 focus
     refine AY fun _ w' he R hR=>?_;have hc:=he.cells;have cq0:=he.cell q0;have cq1:=he.cell q1;have cq2:=he.cell ca0;have cq3:=he.cell ca1;go_simp;(try go_ints);(try(rw[if_neg Aa]));(try(rw[if_pos Aa]));(try go_simp);(try go_ints)
     exact Br hR
    ·refine AY fun _ w' he R hR=>?_
     go_simp;exact Bf (Hq.out.2.2▸I7 _ _ _ _ w' (Hq.out.1.kd (hx.a1.trans he).kd) (HU.out.kd (hx.a1.trans he).kd) HS.out.2.1 (by have:=Hq.out.2.1;omega) sa) hR
    ·refine EF fun γ w' he hf R hR=>?_;have f6:AP w' (γ 6) (G k).num:=hf 6 Ab;clear hf
     refine AP.el f6 fun b5 A5 n5 c5 e6 f6'=>?_;clear f6;go_simp;exact hR _ _ ((Ext.refl _).alloc _) rfl (EI.mk f6' (Nat.le_trans Ac he.size) _)
   intro γ w1 hx1 hF;have p6:AP w1 (γ 6) (G k).num:=Ak.get hF 6 Ab;have p7:EI w1 (γ 7) (wr.heap.size) ((G k).num) 26:=Ak.get hF 7 Ab;clear hF;simp only[Bg,Nat.reduceAdd];generalize γ 6=g6 at *;generalize γ 7=g7 at *;clear γ;have hs:w.heap.size+1<=wr.heap.size:=by have:=hx.size;simpa using this
   have hs1:=hx1.size;refine Av rfl _ _ 22 rfl u5 g7 rfl rfl (JI w1 _ _ (w.heap.size+1) _ _ _ _ (Hown.out.ext hx1) p7 (by rw[AX];omega) Aa) ?_;rintro v' w2 ⟨hown,U⟩;replace hx:=(Hown.out.ext hx1).from_ U (hx.trans hx1) Ac;have Hown':=Ad hown;clear hown U p7 p6 q0 q1 ca0 ca1;go_wp2
   go_roundw
   case rel=>exact⟨k+1,Aa,by go_num,by rw[Es];exact Hown'.out,hx⟩
   case measure=>simp[intOf]<;>omega
  ·obtain rfl:k=l.length:=by omega
   have hh:=TP hown (fun i=>by have:=HG.out.2.2.1 i;omega);obtain⟨A2,c2,e2⟩:=hh.len;rw[AX]at e2;rw[e2]at hh;clear hown;subst e2;have hczl:=EU HG.out.2.2.2 HG.out.2.1;have HH:=Ad (Ai hh hczl);clear hh hczl
   go_wp2_with fail
   refine AB (D5 _ _ _ HH.out.1 (by rw[AX];omega)) ?_;rintro r w9 hr hx9;rw[HH.out.2]at hr;have hsz:=hx.a1.size;have Hr:=Ad hr;clear hr;go_wp2
   go_ret
   exact Ag.mk (Hr.out.base_le hsz) (hx.a1.trans hx9)
theorem EP(v:Value)(l:List Int)(w:World)(hv:De 0 w v l)(hs:∀ i,qsz (cz l i)<=549755813888)(hn:l.length<=549755813888) :
  Bc 104 #[v] w (fun r w'=>AC w.heap.size w' r (pp (cz l))):=by
 have HV:=Ad hv;obtain⟨A,c,rfl⟩:=hv.len;clear hv;have hfin:=Ae.cz l;have hzi:=ZI.cz l;have HX:=Ad (Ai hs (Ai hfin hzi));clear hs hfin hzi
 go_enter Tryz.func104,Tryz.ntmps104
 go_wp2_with fail
 refine AB (IJ _ l _ HV.out HX.out.1 Aa) ?_;rintro r1 w1 hr1 hx1;obtain⟨b5,A5,n5,c5,rfl⟩:=hr1.cells;obtain⟨W0,eW,eb,x0⟩:=Bh.made w1 26 #[.bool b5,.slice A5 n5 c5] (by simp[Af]);replace hr1:=hr1.kd x0.kd;have hs1:=hx1.size;replace hx1:=hx1.trans x0;have hcz:sz ((cn (cz l):Nat):Int).natAbs<=549755813888:=by have:=G5 HX.out.1 (pl (cz l));simpa[cn] using this
 have Hr1:=Ad (Ai hr1 hcz);clear hr1 hcz;subst eW;clear x0;obtain⟨C,hC⟩:∃ C,C=cn (cz l):=⟨_,rfl⟩
 rw[<-hC]at Hr1;have HC:=Ad hC;clear hC
 go_upto_region 2 with(fail)
 generalize w1.alloc (.cells #[.bool b5,.slice A5 n5 c5] 26)=W0 at *;generalize w1.heap.size=gb at *;have ceb:=eb.cells2;have feb:=eb.frozen
 go_wp2_with fail
 refine AB (J9 _ (C:Int) _ (Hr1.out.1.has (by have:=Hr1.out.2;omega))) ?_;rintro r2 w2 rfl hx2;by_cases h0:C=0
 ·have hb:((C:Int).sign==0)=true:=by rw[h0];rfl
  have hF:cz l=pz:=Classical.byContradiction fun h=>IW HX.out.2.2 HX.out.2.1 h (by rw[<-HC.out,h0]);have HF:=Ad hF;clear hF h0;go_wp2
  go_ret
  rw[HF.out,I4];exact Ag.mk (AC.nil _ _) (hx1.trans hx2)
 ·have hb:((C:Int).sign==0)=false:=by
   have:(C:Int).sign≠0:=fun e=>h0 (by have:=Int.sign_eq_zero_iff_zero.1 e;omega);simpa using this
  have hF:cz l≠pz:=fun h=>h0 (by rw[HC.out,h,Nn]);have HF:=Ad hF;clear hF h0;replace eb:=eb.ext hx2;have Hr2:=Ad (Hr1.out.1.kd hx2.kd);replace hx1:=hx1.trans hx2;have hHC:=Hr1.out.2;clear hx2 ceb feb
  go_wp2_with fail
  refine AB (MH _ l _ (HV.out.ext hx1) Aa) ?_;rintro r3 w3 hr3 hx3;have hlz:sz (ld (cz l)).num.natAbs<=1099511627776:=by have:=HX.out.1 (pl (cz l) - 1);unfold qsz at this;show sz (cz l (pl (cz l) - 1)).num.natAbs<=_;omega
  have Hr3:=Ad (hr3.has hlz);clear hr3 hlz;replace eb:=eb.ext hx3;have Hr4:=Ad (Hr2.out.kd hx3.kd);replace hx1:=hx1.trans hx3;clear hx3 Hr2
  go_wp2_with fail
  refine AB (J9 _ (ld (cz l)).num _ Hr3.out) ?_;rintro r4 w4 rfl hx4;replace eb:=eb.ext hx4;have Hr2:=Ad (Hr4.out.kd hx4.kd);replace hx1:=hx1.trans hx4;clear hx4 Hr3 Hr4;have hldz:ld (cz l)=((ld (cz l)).num:Rat):=HX.out.2.2.num _;have hpd:=fun i=>Il HX.out.2.1 i;have hpn:=ED HX.out.2.2 HX.out.2.1 HF.out;have hpa:sz (pcn (cz l)).natAbs<=549755813888:=by rw[Fh];simpa[HC.out] using hHC
  by_cases hneg:(ld (cz l)).num < 0
  ·have hb2:decide ((ld (cz l)).num < 0)=true:=by simpa using hneg
   have hpc:pcn (cz l) = -(C:Int):=by
    unfold pcn;rw[hldz,if_pos (by exact_mod_cast hneg),HC.out]
   have Hpc:=Ad (Ai hpc (Ai hpd (Ai hpn hpa)));clear hpc hldz hpd hpn hpa hneg;have ceb:=eb.cells2;have feb:=eb.frozen
   go_wp2_with fail
   refine AB (Uo _ (C:Int) _ (Hr2.out.has Aa)) ?_;rintro r5 w5 hr5 hx5;obtain⟨b6,A6,n6,c6,rfl⟩:=hr5.cells;replace eb:=eb.ext hx5;replace hx1:=hx1.trans hx5;clear hx5 ceb feb Hr2;have ceb:=eb.cells2;have feb:=eb.frozen
   go_upto_region 6 with(fail)
   obtain⟨W3,eW,eb',U⟩:=eb.put2 (.bool b6) (.slice A6 n6 c6);rw[<-eW];clear eW eb;replace hr5:=hr5.kd U.kd;replace hx1:=U.from_ hx1 Aj;have eb:=eb';clear U eb';clear ceb feb;have ceb:=eb.cells2;have feb:=eb.frozen;rw[<-Hpc.out.1]at hr5;have Hr5:=Ad (hr5.has (by have:=Hpc.out.2.2.2;omega));clear hr5
   go_wp2_with fail
   refine AB (Qo _ _ l (pcn (cz l)) _ (HV.out.ext hx1) Hr5.out HX.out.1 Hpc.out.2.2.2 Hpc.out.2.2.1 Hpc.out.2.1 hn) ?_;rintro r6 w6 hr6 hx6;have hsz:=hx1.size;have Hr6:=Ad hr6;clear hr6;go_wp2
   go_ret
   exact Ag.mk (Hr6.out.base_le hsz) (hx1.trans hx6)
  ·have hb2:decide ((ld (cz l)).num < 0)=false:=by simpa using hneg
   have hpc:pcn (cz l)=(C:Int):=by
    unfold pcn;rw[hldz,if_neg (by intro h;exact hneg (by exact_mod_cast h)),HC.out]
   have Hpc:=Ad (Ai hpc (Ai hpd (Ai hpn hpa)));clear hpc hldz hpd hpn hpa hneg;have ceb:=eb.cells2;have feb:=eb.frozen;have hr5:=Hr2.out;rw[<-Hpc.out.1]at hr5;have Hr5:=Ad (hr5.has (by have:=Hpc.out.2.2.2;omega));clear hr5
   go_wp2_with fail
   refine AB (Qo _ _ l (pcn (cz l)) _ (HV.out.ext hx1) Hr5.out HX.out.1 Hpc.out.2.2.2 Hpc.out.2.2.1 Hpc.out.2.1 hn) ?_;rintro r6 w6 hr6 hx6;have hsz:=hx1.size;have Hr6:=Ad hr6;clear hr6;go_wp2
   go_ret
   exact Ag.mk (Hr6.out.base_le hsz) (hx1.trans hx6)
theorem Xh(W:World)(base ty g:Nat)(v:Value)(l:List Int)(q:Int){b:Bool}{A:Option Addr}{n c:Nat}(h:CK base 26 W v l)(hq:AP W (.agg #[.bool b,.slice A n c]) q)(hn:l.length<=1099511627776)(hb:base<=W.heap.size)(hg:g=W.heap.size) :
  ∃ v' w',(Builtin.append_ #[23,23] ty #[v,.slice (some ⟨g,0,none⟩) 1 1]).run Tryz.prog (W.alloc (.cells #[.bool b,.slice A n c] 26)) = .ok v' w'/\(CK base 26 w' v' (l ++ [q])/\Cu (blk v) (W.alloc (.cells #[.bool b,.slice A n c] 26)) w'):=by
 subst hg;obtain⟨g,cs,e1,h1,h2,h3,h4⟩:=EI.mk hq (base:=W.heap.size) (Nat.le_refl _) 26;cases e1;obtain⟨i0,hi,hz0,hz1,hz2⟩:=info_parts I6;have ho:=AP.one h4;have hx:=(Ext.refl W).alloc (.cells #[.bool b,.slice A n c] 26);obtain⟨v',w',a,b,c⟩:=BJ.append (P:=Tryz.prog) (h.ext hx) 23 ty i0 _ 32 Tryz.underlying23 hi hz0 hz1 hz2 rfl (by simp[nodig,Af,Value.cells]) Ab ⟨W.heap.size,0,none⟩ 1 cs h3 h4 h2.news ho.1 ho.2.1 (FW hn) Aa (Nat.le_trans hb hx.size) (fun _ _ _ k hq=>AP.kd hq k)
 exact⟨v',w',a,b,c⟩
set_option maxRecDepth 20000 in
theorem Tt(v:Value)(l:List Rat)(w:World)(hv:Lv 0 w v l)(hn:l.length<=1099511627776)(h0:co l=pz) :
  Bc 116 #[v] w (fun r w'=>Mj w.heap.size 0 pz r w'):=by
 have HV:=Ad hv;obtain⟨A0,c0,rfl⟩:=hv.len;have H0:=Ad h0;clear hv h0
 go_enter Tryz.func116,Tryz.ntmps116
 go_wp2_with fail
 refine AB (KH _ l _ (HV.out.ext ((Ext.refl w).alloc _)) hn) ?_;rintro r1 w1 hr1 hx1;rw[H0.out]at hr1;obtain⟨A1,c1,l1,rfl,k1,k2,-⟩:=hr1.form;rw[BH];clear hr1 HV k1
 go_wp2_with fail
 refine AB (XF 0 _ Aa Aa) ?_;rintro r2 w2 hr2 hx2;obtain⟨b5,A5,n5,c5,b6,A6,n6,c6,rfl⟩:=hr2.cells;have ea:=((Bh.new w 28 #[.bool false,.slice none 0 0,.bool false,.slice none 0 0] (by simp[Af])).ext hx1).ext hx2;have hx:=hx1.a1.trans hx2;have cea:=ea.cells4;have fea:=ea.frozen;clear hx1 hx2;go_wp2;obtain⟨W3,eW,ea',U⟩:=ea.put4 (.bool b5) (.slice A5 n5 c5) (.bool b6) (.slice A6 n6 c6);rw[<-eW];clear eW ea
 replace hr2:=hr2.kd U.kd;replace hx:=U.from_ hx Aj;have ea:=ea';clear U ea';clear cea;have cea:=ea.cells4;have fea:=ea.frozen;refine bodyPost_ret (v := .tuple #[.slice none 0 0,.agg #[.bool b5,.slice A5 n5 c5,.bool b6,.slice A6 n6 c6]]) (by simp[results,Tryz.results116,go_sem,cea]) rfl ?_;exact Ag.mk ⟨_,_,rfl,by rw[Qj,I4];exact AC.nil _ _,by rw[Ti];exact hr2⟩ hx
set_option maxRecDepth 20000 in
theorem aA(v:Value)(l:List Rat)(s:Nat)(w:World)(hv:Lv 0 w v l)(hn:l.length<=1000)(hs:∀ i,qsz (co l i)<=s)(hs0:s<=1000000)(h0:co l≠pz) :
  Bc 116 #[v] w (fun r w'=>Mj w.heap.size (pl (co l)) (co l) r w'):=by
 have HV:=Ad hv;obtain⟨A0,c0,rfl⟩:=hv.len;have hfin:=Ae.co l;have hNorm:=fun w' (e:Ext w w')=>KH _ l w' (hv.ext e) Aa;have hplen:=Bj (Gi l);obtain⟨F,hF⟩:∃ F,F=co l:=⟨_,rfl⟩
 rw[<-hF]at hfin h0 hs hplen hNorm;rw[<-hF];have hpos:=AZ hfin h0;obtain⟨n,hn0⟩:∃ n,n=pl F:=⟨_,rfl⟩
 have hsup:BA n F:=by rw[hn0];exact AJ hfin
 have hdl:∀ k,k<=n->sz (dl k F)<=1+1000*1000000:=fun k hk=>by
  have:=Vo hs k;have h2:k*s<=1000*1000000:=Nat.mul_le_mul Aa hs0;omega
 have hcq:∀ i,qsz (CQ n F i)<=1+1000*1000000+1+1000000:=fun i=>by
  have:=KN (n:=n) hs i;have h2:n*s<=1000*1000000:=Nat.mul_le_mul Aa hs0;omega
 rw[<-hn0]at hpos ⊢;have hn3:n<=1000:=by omega
 have HX:=Ad (Ai hn0 (Ai hfin (Ai h0 (Ai hs (Ai hs0 (Ai hsup (Ai hdl hcq)))))));have HN:=Ad hNorm;clear hn0 hfin h0 hs hs0 hsup hdl hcq hNorm hF hv HV hplen hn
 go_enter Tryz.func116,Tryz.ntmps116
 go_wp2_with fail
 refine AB (HN.out _ ((Ext.refl w).alloc _)) ?_;rintro r1 w1 hr1 hx1;obtain⟨A1,c1,l1,rfl,k1,k2,hA,k3,-,k5⟩:=hr1.form;rw[<-HX.out.1]at k1 k3 ⊢;have HA:=Ad (Ai hA (Ai k3 k5));clear hA k3 k5 hr1 HN;have ea:=(Bh.new w 28 #[.bool false,.slice none 0 0,.bool false,.slice none 0 0] (by simp[Af])).ext hx1;have hx:=hx1.a1;have hs1:=hx1.size;rw[World.size_alloc]at hs1;clear hx1
 go_wp2_with fail
 refine AB (JR 1 _ Aa Aa) ?_;rintro r2 w2 hr2 hx2;obtain⟨b5,A5,n5,c5,rfl⟩:=hr2.cells;obtain⟨W0,eW,eb,x0⟩:=Bh.made w2 26 #[.bool b5,.slice A5 n5 c5] (by simp[Af]);replace hr2:=hr2.kd x0.kd;have hs2:=hx2.size;have Hx1:=Ad (hx2.trans x0);replace ea:=ea.ext (hx2.trans x0);have hgb:w.heap.size < w2.heap.size:=by omega
 clear hx2;go_wp2;rw[<-eW];clear eW x0;generalize w2.heap.size=gb at *
 go_loopw [28] (fun iv wr=>∃ k:Nat,k<=n/\iv = .int .i64 k/\Bh wr w.heap.size 28 #[.bool false,.slice none 0 0,.bool false,.slice none 0 0]/\Bp wr gb 26 (dl k F:Nat)/\Ext w1 wr) (fun iv _=>n - (intOf iv).toNat)
 case atStart=>exact⟨0,Nat.zero_le _,rfl,ea,Bp.mk eb hr2,Hx1.out⟩
 case round =>
  clear ea eb hr2 Hx1;obtain⟨k,hk,rfl,ea,⟨b,B,bn,bc,eb,hb⟩,hx2⟩:=hrel;have Hb:=Ad hb;clear hb;by_cases hkn:k < n
  ·have hkl1:k < l1.length:=by have:=HA.out.2.1;omega
   obtain⟨g,o,b1,B1,n1,d1,b2,B2,n2,d2,rfl,_,q0,q1,q2,q3,hq⟩:=HA.out.1.at_ (j:=k) hkl1;rw[<-El,HA.out.2.2]at hq;replace q0:=hx2.cell q0;replace q1:=hx2.cell q1;replace q2:=hx2.cell q2;replace q3:=hx2.cell q3;have hqs:=HX.out.2.2.2.1 k;have hqd:=(hq.ext hx2).dens (by have:=HX.out.2.2.2.2.1;omega);have hdk:=HX.out.2.2.2.2.2.2.1 k Aa;obtain⟨L,hL⟩:∃ L,L=dl k F:=⟨_,rfl⟩
   obtain⟨D,hD⟩:∃ D,D=(F k).den:=⟨_,rfl⟩
   have hDp:0 < D:=by rw[hD];exact(F k).den_pos
   have hLp:0 < L:=by rw[hL];exact LF F k
   have hG:Int.gcd (L:Int) (D:Int)=Nat.gcd L D:=Int.gcd_natCast_natCast L D;have hGp:0 < Nat.gcd L D:=Nat.gcd_pos_of_pos_left _ hLp;have hGd:((Nat.gcd L D:Nat):Int)∣(D:Int):=Int.natCast_dvd_natCast.2 (Nat.gcd_dvd_right L D);have hGn:((Nat.gcd L D:Nat):Int)≠0:=by omega
   have hGs:sz ((Nat.gcd L D:Nat):Int).natAbs<=1099511627776:=by
    rw[Int.natAbs_natCast];have:=Bl (Nat.le_of_dvd hLp (Nat.gcd_dvd_left L D));rw[<-hL]at hdk;omega
   have hstep:(L:Int)*((D:Int) / ((Nat.gcd L D:Nat):Int))=(dl (k+1) F:Nat):=by
    rw[<-ZY,hL,hD];norm_cast
   obtain⟨X,hX⟩:∃ X:Int,X=(D:Int) / ((Nat.gcd L D:Nat):Int):=⟨_,rfl⟩
   rw[<-hX]at hstep;have hXs:sz X.natAbs<=1099511627776:=by
    have h1:=KE hGd;rw[<-hX]at h1;have h2:=FO (F k);rw[<-hD]at h2;have:=HX.out.2.2.2.2.1;omega
   have hLs:sz ((L:Nat):Int).natAbs<=1099511627776:=by rw[Int.natAbs_natCast,hL];omega
   rw[<-hL]at Hb;rw[<-hD]at hqd;have HG:=Ad (Ai hX (Ai hG (Ai hGd (Ai hGn (Ai hGs (Ai hstep (Ai hXs hLs)))))));have Hq:=Ad hqd.1;clear hq hqs hqd hdk hG hGp hGd hGn hGs hstep hXs hX hL hD hDp hLp hLs;go_wp2;obtain⟨W9,eW9,e9,x9⟩:=Bh.made wr 28 #[.bool b1,.slice B1 n1 d1,.bool b2,.slice B2 n2 d2] (by simp[Af]);rw[<-eW9];clear eW9 q0 q1 q2 q3;replace hx2:=hx2.trans x9;replace ea:=ea.ext x9;replace eb:=eb.ext x9
   have Hq':=Ad (Hq.out.kd x9.kd);have Hb':=Ad ((Hb.out.kd x9.kd).has HG.out.2.2.2.2.2.2.2);clear Hq Hb x9;generalize wr.heap.size=gp at e9 ⊢;have s0:=e9.cell (i:=0) rfl;have s1:=e9.cell (i:=1) rfl;have s2:=e9.cell (i:=2) rfl;have s3:=e9.cell (i:=3) rfl;clear e9;obtain⟨r0,r1⟩:=eb.cells2
   go_cut [7] (fun pv wy=>∃ gc,pv = .pointer (some ⟨gc,0,none⟩)/\Bp wy gc 26 X/\Ext W9 wy)
   case first =>
    refine Bu 11 [9] (fun x=>12) [33,34,35,36,37,38,39,32,40,41,7] [[],[0],[],[],[3],[2,3,4],[0,1,2,3,4,5],[0,1,2,3,4,5,6],[0,1,2,3,4,5,6,7],[0,1,2,3,4,5,6,7],[],[0,1,2,3,4,5,6,7,8,10],[0,1,2,3,4,5,6,7,8,9,10,11]] [6,4] [_,_] [(kv ?_),(kv ?_),(kv ?_),(kv ?_),(kv ?_),(fun γ=>γ 5),(fun γ=>γ 6),(fun γ=>γ 6),(fun γ=>γ 8),(kv ?_),(fun γ=>γ 10)] (fun γ w'=>[True,True,True,True,True,AP w' (γ 5) (Nat.gcd L D:Nat),KA w' (γ 6) X,True,AP w' (γ 8) X,True,Bb w' (γ 10) W9.heap.size #[.bool false,.slice none 0 0] 26]) Ko BP BP BP BP BP LJ BP Ka ?m1 ?s1 ?_ ?l1
    case s1 =>
     iterate 11 refine⟨?_,?_⟩
     trivial
     iterate 5 focus
      refine AY fun _ w' he R hR=>?_;have hc:=he.cells;have cq0:=he.cell s0;have cq1:=he.cell s1;have cq2:=he.cell s2;have cq3:=he.cell s3;have cq4:=he.cell r0;have cq5:=he.cell r1;go_simp;exact Br hR
     ·refine AY fun _ w' he R hR=>?_
      go_simp;exact Bf (HG.out.2.1▸UV _ _ (L:Int) (D:Int) w' (Hb'.out.kd he.kd) (Hq'.out.kd he.kd)) hR
     ·refine EF fun γ w' he hf R hR=>?_;have f5:AP w' (γ 5) (Nat.gcd L D:Nat):=hf 5 Ab;clear hf
      go_simp;exact Bf (HG.out.1▸II _ _ (D:Int) (Nat.gcd L D:Nat) w' (Hq'.out.kd he.kd) (f5.has HG.out.2.2.2.2.1) HG.out.2.2.2.1 HG.out.2.2.1) hR
     ·refine AY fun _ w' he R hR=>?_
      have hc:=he.cells;go_simp
      (try go_ints);(try(rw[if_neg Aa]));(try(rw[if_pos Aa]));(try go_simp);(try go_ints)
      exact Br hR
     ·refine EF fun γ w' he hf R hR=>?_;have f6:KA w' (γ 6) X:=hf 6 Ab;clear hf
      obtain⟨a,e,ha⟩:=f6;go_simp;exact hR _ _ (Ext.refl _) rfl ha
     ·refine EF fun γ w' he hf R hR=>?_;have f6:KA w' (γ 6) X:=hf 6 Ab;clear hf
      obtain⟨a,e,ha⟩:=f6;have hc:=he.cells;go_simp
      (try go_ints);(try(rw[if_neg Aa]));(try(rw[if_pos Aa]));(try go_simp);(try go_ints)
      exact Br hR
     ·refine AY fun _ w' he R hR=>?_
      go_simp;exact hR _ _ ((Ext.refl _).alloc _) rfl (Bb.mk (Nat.le_trans Ac he.size) (by simp[Af]))
    case m1 =>
     exact⟨⟨⟨⟨⟨⟨⟨⟨⟨⟨⟨trivial,(fun γ wA w' e h=>h)⟩,(fun γ wA w' e h=>h)⟩,(fun γ wA w' e h=>h)⟩,(fun γ wA w' e h=>h)⟩,(fun γ wA w' e h=>h)⟩,(fun γ wA w' e h=>(show AP wA (γ 5) (Nat.gcd L D:Nat)from h).ext e)⟩,(fun γ wA w' e h=>(show KA wA (γ 6) X from h).ext e)⟩,(fun γ wA w' e h=>h)⟩,(fun γ w w' e h=>AP.ext_ h e)⟩,(fun γ wA w' e h=>h)⟩,(fun γ wA w' e h=>(show Bb wA (γ 10) W9.heap.size #[.bool false,.slice none 0 0] 26 from h).ext e)⟩
    case l1 =>
     intro Pn hPs hPn;obtain rfl:=Gr hPs hPn;clear hPs hPn
     ·intro γ w8 hx8 hF hA
      clear hA;have p5:AP w8 (γ 5) (Nat.gcd L D:Nat):=(Ak.get hF 5 Ab).resolve_left Ab;have p6:KA w8 (γ 6) X:=(Ak.get hF 6 Ab).resolve_left Ab;have p8:AP w8 (γ 8) X:=(Ak.get hF 8 Ab).resolve_left Ab;have p10:Bb w8 (γ 10) W9.heap.size #[.bool false,.slice none 0 0] 26:=(Ak.get hF 10 Ab).resolve_left Ab;clear hF;show AV _ _ _ _ 3 [9] 11 _ _;simp only[Bg,Nat.reduceAdd,Co,SN];generalize γ 5=g5 at *;generalize γ 6=g6 at *
      generalize γ 8=g8 at *;generalize γ 10=g10 at *;clear γ;obtain⟨a6,rfl,-⟩:=p6;obtain⟨gc,rfl,hgc,ec⟩:=p10;obtain⟨b7,A7,n7,c7,rfl⟩:=p8.cells;clear s0 s1 s2 s3 r0 r1 p5;have cec:=ec.cells2;have fec:=ec.frozen
      repeat' first
       | (refine AV.nil ?_;simp only[Gj];go_wp2;done)
       | (refine AV.nil ?_;(try simp only[Gj]);go_wp2)
       | (refine AV.mk _ ⟨?_,trivial⟩ (fun h=>?_)<;>first | exact absurd h Ab | ((try clear h);simp only[CX,Gj];go_wp2;first | show AV _ _ _ _ _ [9] _ _ _ | show AV _ _ _ _ _ [] _ _ _))
      all_goals
       skip;obtain⟨W4,eW,ec',U⟩:=ec.put2 (.bool b7) (.slice A7 n7 c7);rw[<-eW];clear eW ec;replace p8:=p8.kd U.kd;replace hx8:=U.from_ hx8 Aj;have ec:=ec';clear U ec'
       go_meet
       case rel=>exact⟨gc,rfl,Bp.mk ec p8,hx8⟩
    intro γ w8 hx8 hF hA;clear hA;have p5:AP w8 (γ 5) (Nat.gcd L D:Nat):=Ak.get hF 5 Ab;have p6:KA w8 (γ 6) X:=Ak.get hF 6 Ab;have p8:AP w8 (γ 8) X:=Ak.get hF 8 Ab;have p10:Bb w8 (γ 10) W9.heap.size #[.bool false,.slice none 0 0] 26:=Ak.get hF 10 Ab;clear hF;simp only[Bg,Nat.reduceAdd];generalize γ 5=g5 at *;generalize γ 6=g6 at *;generalize γ 8=g8 at *;generalize γ 10=g10 at *;clear γ;obtain⟨a6,rfl,-⟩:=p6
    obtain⟨gc,rfl,hgc,ec⟩:=p10;obtain⟨b7,A7,n7,c7,rfl⟩:=p8.cells;clear s0 s1 s2 s3 r0 r1 p5;have cec:=ec.cells2;have fec:=ec.frozen;go_wp2;skip;obtain⟨W4,eW,ec',U⟩:=ec.put2 (.bool b7) (.slice A7 n7 c7);rw[<-eW];clear eW ec;replace p8:=p8.kd U.kd;replace hx8:=U.from_ hx8 Aj;have ec:=ec';clear U ec'
    go_meet
    case rel=>exact⟨gc,rfl,Bp.mk ec p8,hx8⟩
   case rest =>
    clear s0 s1 s2 s3 r0 r1;obtain⟨gc,rfl,⟨b7,A7,n7,c7,ec,hc⟩,hx3⟩:=hcut;have Hc:=Ad (hc.has HG.out.2.2.2.2.2.2.1);clear hc;replace ea:=ea.ext hx3;replace eb:=eb.ext hx3;replace hx2:=hx2.trans hx3;have cec:=ec.cells2;have fec:=ec.frozen;have ceb:=eb.cells2;have feb:=eb.frozen
    go_wp2_with fail
    refine AB (E8 _ _ (L:Int) X _ (Hb'.out.kd hx3.kd) Hc.out) ?_;rintro r4 w4 hr4 hx4;rw[HG.out.2.2.2.2.2.1]at hr4;obtain⟨b8,A8,n8,c8,rfl⟩:=hr4.cells;replace ea:=ea.ext hx4;replace eb:=eb.ext hx4;replace hx2:=hx2.trans hx4;clear ceb feb cec fec ec hx3 hx4 Hc Hb' Hq';have ceb:=eb.cells2;have feb:=eb.frozen;go_wp2;obtain⟨W5,eW,eb',U⟩:=eb.put2 (.bool b8) (.slice A8 n8 c8);rw[<-eW];clear eW eb;replace hr4:=hr4.kd U.kd
    replace ea:=ea.upd U Aj;replace hx2:=U.from_ hx2 Aj;have eb:=eb';clear U eb'
    go_roundw
    case rel=>exact⟨k+1,Aa,by go_num,ea,Bp.mk eb hr4,hx2⟩
    case measure=>simp[intOf]<;>omega
  ·obtain rfl:n=k:=by omega
   have hgbl:=eb.lt;have hb0:=Hb.out;go_wp2
   go_loopw [9,48] (fun zv iv wr=>∃ k:Nat,k<=n/\iv = .int .i64 k/\CK (gb+1) 26 wr zv (DN k (CQ n F))/\Bh wr w.heap.size 28 #[.bool false,.slice none 0 0,.bool false,.slice none 0 0]/\Bh wr gb 26 #[.bool b,.slice B bn bc]/\AP wr (.agg #[.bool b,.slice B bn bc]) (dl n F:Nat)/\Ext w1 wr) (fun _ iv _=>n - (intOf iv).toNat)
   case atStart=>exact⟨0,Nat.zero_le _,rfl,BJ.nil _ _ _ _ _,ea,eb,hb0,hx2⟩
   case round =>
    clear ea eb hx2 hgbl hb0 Hb;obtain⟨k,hk,rfl,hown,ea,eb,hb,hx2⟩:=hrel;have Hb:=Ad hb;clear hb;have hgbl:=eb.lt;by_cases hkn:k < n
    ·have hkl1:k < l1.length:=by have:=HA.out.2.1;omega
     obtain⟨g,o,b1,B1,n1,d1,b2,B2,n2,d2,rfl,_,q0,q1,q2,q3,hq⟩:=HA.out.1.at_ (j:=k) hkl1;rw[<-El,HA.out.2.2]at hq;replace q0:=hx2.cell q0;replace q1:=hx2.cell q1;replace q2:=hx2.cell q2;replace q3:=hx2.cell q3;have hqs:=HX.out.2.2.2.1 k;have hqd:=(hq.ext hx2).dens (by have:=HX.out.2.2.2.2.1;omega);have hdk:=HX.out.2.2.2.2.2.2.1 n (Nat.le_refl _);obtain⟨L,hL⟩:∃ L,L=dl n F:=⟨_,rfl⟩
     obtain⟨D,hD⟩:∃ D,D=(F k).den:=⟨_,rfl⟩
     have hDn:(D:Int)≠0:=by have:=(F k).den_pos;omega
     have hDd:(D:Int)∣(L:Int):=by rw[hD,hL];exact Int.natCast_dvd_natCast.2 (Q0 F n k hkn)
     have hval:(F k).num*((L:Int) / (D:Int))=(CQ n F k).num:=by rw[Uu HX.out.2.2.2.2.2.1,hL,hD]
     obtain⟨X,hX⟩:∃ X:Int,X=(L:Int) / (D:Int):=⟨_,rfl⟩
     rw[<-hX]at hval;have hLs:sz ((L:Nat):Int).natAbs<=1099511627776:=by rw[Int.natAbs_natCast,hL];omega
     have hXs:sz X.natAbs<=1099511627776:=by
      have h1:=KE hDd;rw[<-hX]at h1;omega
     rw[<-hL]at Hb;rw[<-hD]at hqd;have HG:=Ad (Ai hX (Ai hDn (Ai hDd (Ai hval (Ai hLs (Ai hXs hL))))));have Hq:=Ad hqd;have Hown:=Ad hown;clear hq hqs hqd hdk hDn hDd hval hX hL hD hLs hXs hown;have hB9:=Bh.made wr 28 #[.bool b1,.slice B1 n1 d1,.bool b2,.slice B2 n2 d2] (by simp[Af]);obtain⟨W9,eW9,e9,x9⟩:=hB9
     go_upto_region 15 with(fail)
     rw[<-eW9];clear eW9 q0 q1 q2 q3;replace hx2:=hx2.trans x9;replace ea:=ea.ext x9;replace eb:=eb.ext x9;have Hq':=Ad (Ai (Hq.out.1.kd x9.kd) (Hq.out.2.kd x9.kd));have Hb':=Ad (Hb.out.kd x9.kd);have Hown':=Ad (Hown.out.ext x9);have hgb9:=eb.lt;clear Hq Hb Hown x9;generalize wr.heap.size=gp at e9 ⊢;have s0:=e9.cell (i:=0) rfl;have s1:=e9.cell (i:=1) rfl;have s2:=e9.cell (i:=2) rfl;have s3:=e9.cell (i:=3) rfl
     clear e9;obtain⟨r0,r1⟩:=eb.cells2
     go_wp2_with fail
     refine AB (II _ _ (L:Int) (D:Int) _ (Hb'.out.has HG.out.2.2.2.2.1) Hq'.out.1 HG.out.2.1 HG.out.2.2.1) ?_;rintro r3 w3 ⟨a3,rfl,hr3⟩ hx3;rw[<-HG.out.1]at hr3;obtain⟨b7,A7,n7,c7,rfl⟩:=hr3.cells;have hBa:=Bh.made w3 26 #[.bool b7,.slice A7 n7 c7] (by simp[Af]);obtain⟨Wa,eWa,e5,xa⟩:=hBa;clear r0 r1
     go_upto_region 16 with(fail)
     rw[<-eWa];replace hx3:=hx3.trans xa;have Hr3:=Ad ((hr3.kd xa.kd).has HG.out.2.2.2.2.2.1);clear eWa xa hr3;generalize w3.heap.size=gq at e5 ⊢;obtain⟨ce50,ce51⟩:=e5.cells2;have fe5:=e5.frozen;replace s0:=hx3.cell s0;replace s1:=hx3.cell s1;replace s2:=hx3.cell s2;replace s3:=hx3.cell s3;replace ea:=ea.ext hx3;replace eb:=eb.ext hx3;replace hx2:=hx2.trans hx3;have Hb:=Ad (Hb'.out.kd hx3.kd);have Hown:=Ad (Hown'.out.ext hx3)
     go_wp2_with fail
     refine AB (E8 _ _ (F k).num X _ (Hq'.out.2.kd hx3.kd) Hr3.out) ?_;rintro r4 w4 hr4 hx4;rw[HG.out.2.2.2.1]at hr4;obtain⟨b8,A8,n8,c8,rfl⟩:=hr4.cells;have Hr:=Ad hr4;clear hr4;replace ea:=ea.ext hx4;replace eb:=eb.ext hx4;replace hx2:=hx2.trans hx4;have Hb':=Ad (Hb.out.kd hx4.kd);have Hown':=Ad (Hown.out.ext hx4);have hsz:=eb.lt;clear s0 s1 s2 s3 hx3 hx4 e5 ce50 ce51 fe5 Hr3 Hq' Hb Hown
     go_wp2_with (at_builtin;refine Av rfl _ _ 23 rfl u9 (.slice (some ⟨w4.heap.size,0,none⟩) 1 1) rfl rfl (Xh w4 (gb+1) _ _ _ _ _ Hown'.out Hr.out (by rw[AX];omega) Aa rfl) ?_)
     first | intro v' w5 hown U | rintro v' w5 ⟨hown,U⟩
     have hb2:=BJ.blk_ge (Hown'.out.ext ((Ext.refl w4).alloc (.cells #[.bool b8,.slice A8 n8 c8] 26)));have hx5:=(Ext.refl w4).alloc (.cells #[.bool b8,.slice A8 n8 c8] 26);replace ea:=(ea.ext hx5).upd U (fun hm=>by have:=(hb2 _ hm).1;omega);replace eb:=(eb.ext hx5).upd U (fun hm=>by have:=(hb2 _ hm).1;omega);have Hb:=Ad ((Hb'.out.kd hx5.kd).kd U.kd);replace hx2:=U.from_ (hx2.trans hx5) (fun g hg=>by have:=(hb2 _ hg).1;omega)
     have Hown:=Ad hown;clear hown U hb2 hx5 Hb' Hown';go_wp2
     go_roundw
     case rel=>exact⟨k+1,Aa,by go_num,by rw[Es];exact Hown.out,ea,eb,by rw[<-HG.out.2.2.2.2.2.2];exact Hb.out,hx2⟩
     case measure=>simp[intOf]<;>omega
    ·obtain rfl:n=k:=by omega
     obtain⟨A2,c2,hv2⟩:=(CK.row hown).len;rw[AX]at hv2;have hz2:=TP hown (fun i=>by have:=HX.out.2.2.2.2.2.2.2 i;omega);have hzs:=CK.row hown;rw[hv2]at hz2 hzs;have hczl:=EU (Ep HX.out.2.2.2.2.2.1) (show BA n (CQ n F)from(HX.out.2.2.2.2.2.1).psc _);have Hz:=Ad (Ai hz2 (Ai hzs hczl));clear hz2 hzs hczl hown;subst hv2
     go_wp2_with fail
     refine AB (FJ _ _ _ Hz.out.1 (by rw[AX];omega)) ?_;rintro r2 w2 hr2 hx3;rw[Hz.out.2.2]at hr2;replace ea:=ea.ext hx3;replace eb:=eb.ext hx3;replace hx2:=hx2.trans hx3;have Hb':=Ad (Hb.out.kd hx3.kd);have hzz:=Hz.out.2.1.ext hx3;obtain⟨A3,c3,l3,rfl,k3,k4,hA3,k5,-,k6⟩:=hr2.form;have hppl:pl (pp (CQ n F))=n:=by
      rw[Dq (Ep HX.out.2.2.2.2.2.1) (DT HX.out.2.1),LD HX.out.2.1,<-HX.out.1]
     rw[hppl]at k3 k5 hr2 ⊢;have hlast:n - 1 < (DN n (CQ n F)).length:=by rw[AX];omega
     obtain⟨gz,oz,y1,Y1,yn1,yc1,rfl,_,q0,q1,hqz⟩:=hzz.at_ (j:=n - 1) hlast;obtain⟨gg,og,z1,Z1,zn1,zc1,rfl,_,p0,p1,hqg⟩:=hA3.at_ (j:=n - 1) Aa;rw[Ch]at hqz;have hg3:l3[n - 1]'(by omega)=(pp (CQ n F) (n - 1)).num:=by
      have:=Cn (l:=l3) (i:=n - 1) Aa;rw[k6]at this;rw[this];rfl
     rw[hg3]at hqg;have hzn:=Ep HX.out.2.2.2.2.2.1;have hfn:=DT (n:=n) HX.out.2.1;have hne:=NA (n:=n) HX.out.2.1 HX.out.2.2.1;have hpn:=ED hzn hfn hne;have hpd:=Il hfn (n - 1);have hpa:(pp (CQ n F) (n - 1)).num=(CQ n F (n - 1)).num / pcn (CQ n F):=by rw[Nl hzn hfn hne];rfl
     have htop:(CQ n F (n - 1)).num≠0:=by
      have h1:=Ez hfn (by rw[LD HX.out.2.1,<-HX.out.1];exact hpos);rw[LD HX.out.2.1,<-HX.out.1]at h1;intro e;exact h1 (by rw[hzn.num,e];rfl)
     obtain⟨u,hu⟩:=hpd;have hpu:(pp (CQ n F) (n - 1)).num=u:=by rw[hpa,hu,Int.mul_ediv_cancel_left _ hpn]
     have hun:u≠0:=fun e=>htop (by rw[hu,e,Int.mul_zero]);rw[hpu]at hqg;have hquo:(CQ n F (n - 1)).num / u=pcn (CQ n F):=by rw[hu,Int.mul_ediv_cancel _ hun]
     have hdv:u∣(CQ n F (n - 1)).num:=⟨pcn (CQ n F),by rw[hu,Int.mul_comm]⟩
     have hcs:=HX.out.2.2.2.2.2.2.2 (n - 1);have hzs1:sz (CQ n F (n - 1)).num.natAbs<=1099511627776:=by unfold qsz at hcs;omega
     have hus:sz u.natAbs<=1099511627776:=by
      have h1:=Ey hzn hfn HX.out.2.2.2.2.2.2.2 (n - 1);unfold qsz at h1;rw[hpu]at h1;omega
     have hpcs:sz (pcn (CQ n F)).natAbs<=1099511627776:=by
      rw[Fh];have:=G5 HX.out.2.2.2.2.2.2.2 (pl (CQ n F));show sz (ct _ _)<=_;omega
     have hdl:=HX.out.2.2.2.2.2.2.1 n (Nat.le_refl _);have hdl2:sz (((dl n F:Nat):Int)).natAbs<=1099511627776:=by rw[Int.natAbs_natCast];omega
     have hdln:((dl n F:Nat):Int)≠0:=by have:=LF F n;omega
     have hcf:=(TC HX.out.2.2.2.2.2.1 HX.out.2.2.1).1;have hcf2:Rat.divInt (pcn (CQ n F)) ((dl n F:Nat):Int)=KU n F:=by rw[hcf];exact(Jz _ _).symm
     have HQ:=Ad (Ai (hqz.has hzs1) (Ai (hqg.has hus) (Ai hun (Ai hdv (Ai hquo (Ai hpcs (Ai hdl2 (Ai hdln hcf2))))))));have HP:=Ad hr2;clear hqz hqg hg3 hzn hfn hne hpn hpa htop hu hpu hun hquo hdv hcs hzs1 hus hpcs hdl hdl2 hdln hcf hcf2 hr2 hA3 k5 k6 hppl hzz hlast hx3
     go_upto_region 19 with(fail)
     obtain⟨wt,hwt⟩:∃ wt:World,wt=w2:=⟨_,rfl⟩
     subst hwt
     go_cut [15] (fun pv wy=>∃ gc,pv = .pointer (some ⟨gc,0,none⟩)/\Bp wy gc 26 (pcn (CQ n F))/\Ext wt wy)
     case first =>
      refine Bu 17 [15] (fun x=>18) [70,71,72,73,74,75,76,77,78,79,80,81,82,69,83,84,15] [[],[],[1],[1,2],[0,1,2,3],[0,1,2,3,4],[],[],[7],[7,8],[6,7,8,9],[6,7,8,9,10],[0,1,2,3,4,5,6,7,8,9,10,11],[0,1,2,3,4,5,6,7,8,9,10,11,12],[0,1,2,3,4,5,6,7,8,9,10,11,12,13],[0,1,2,3,4,5,6,7,8,9,10,11,12,13],[],[0,1,2,3,4,5,6,7,8,9,10,11,12,13,14,16],[0,1,2,3,4,5,6,7,8,9,10,11,12,13,14,15,16,17]] [9,14] [_,_] [(kv ?_),(kv ?_),(kv ?_),(kv ?_),(kv ?_),(kv ?_),(kv ?_),(kv ?_),(kv ?_),(kv ?_),(kv ?_),(kv ?_),(fun γ=>γ 12),(fun γ=>γ 12),(fun γ=>γ 14),(kv ?_),(fun γ=>γ 16)] (fun γ w'=>[True,True,True,True,True,True,True,True,True,True,True,True,KA w' (γ 12) (pcn (CQ n F)),True,AP w' (γ 14) (pcn (CQ n F)),True,Bb w' (γ 16) wt.heap.size #[.bool false,.slice none 0 0] 26]) Ko BP BP BP BP BP LJ BP Ka ?m2 ?s2 ?_ ?l2
      case s2 =>
       iterate 17 refine⟨?_,?_⟩
       trivial
       iterate 12 focus
        refine AY fun _ w' he R hR=>?_;have hc:=he.cells;have cq0:=he.cell q0;have cq1:=he.cell q1;have cq2:=he.cell p0;have cq3:=he.cell p1;go_simp;(try go_ints);(try(rw[if_neg Aa]));(try(rw[if_pos Aa]));(try go_simp);(try go_ints)
        exact Br hR
       ·refine AY fun _ w' he R hR=>?_
        go_simp;exact Bf (HQ.out.2.2.2.2.1▸II _ _ _ _ w' (HQ.out.1.kd he.kd) (HQ.out.2.1.kd he.kd) HQ.out.2.2.1 HQ.out.2.2.2.1) hR
       ·refine AY fun _ w' he R hR=>?_
        have hc:=he.cells;go_simp
        (try go_ints);(try(rw[if_neg Aa]));(try(rw[if_pos Aa]));(try go_simp);(try go_ints)
        exact Br hR
       ·refine EF fun γ w' he hf R hR=>?_;have f12:KA w' (γ 12) (pcn (CQ n F)):=hf 12 Ab;clear hf
        obtain⟨a,e,ha⟩:=f12;go_simp;exact hR _ _ (Ext.refl _) rfl ha
       ·refine EF fun γ w' he hf R hR=>?_;have f12:KA w' (γ 12) (pcn (CQ n F)):=hf 12 Ab;clear hf
        obtain⟨a,e,ha⟩:=f12;have hc:=he.cells;go_simp
        (try go_ints);(try(rw[if_neg Aa]));(try(rw[if_pos Aa]));(try go_simp);(try go_ints)
        exact Br hR
       ·refine AY fun _ w' he R hR=>?_
        go_simp;exact hR _ _ ((Ext.refl _).alloc _) rfl (Bb.mk (Nat.le_trans Ac he.size) (by simp[Af]))
      case m2 =>
       exact⟨⟨⟨⟨⟨⟨⟨⟨⟨⟨⟨⟨⟨⟨⟨⟨⟨trivial,(fun γ wA w' e h=>h)⟩,(fun γ wA w' e h=>h)⟩,(fun γ wA w' e h=>h)⟩,(fun γ wA w' e h=>h)⟩,(fun γ wA w' e h=>h)⟩,(fun γ wA w' e h=>h)⟩,(fun γ wA w' e h=>h)⟩,(fun γ wA w' e h=>h)⟩,(fun γ wA w' e h=>h)⟩,(fun γ wA w' e h=>h)⟩,(fun γ wA w' e h=>h)⟩,(fun γ wA w' e h=>h)⟩,(fun γ wA w' e h=>(show KA wA (γ 12) (pcn (CQ n F))from h).ext e)⟩,(fun γ wA w' e h=>h)⟩,(fun γ w w' e h=>AP.ext_ h e)⟩,(fun γ wA w' e h=>h)⟩,(fun γ wA w' e h=>(show Bb wA (γ 16) wt.heap.size #[.bool false,.slice none 0 0] 26 from h).ext e)⟩
      case l2 =>
       intro Pn hPs hPn;obtain rfl:=Gr hPs hPn;clear hPs hPn
       ·intro γ w8 hx8 hF hA
        clear hA;have pf12:KA w8 (γ 12) (pcn (CQ n F)):=(Ak.get hF 12 Ab).resolve_left Ab;have pf14:AP w8 (γ 14) (pcn (CQ n F)):=(Ak.get hF 14 Ab).resolve_left Ab;have pf16:Bb w8 (γ 16) wt.heap.size #[.bool false,.slice none 0 0] 26:=(Ak.get hF 16 Ab).resolve_left Ab;clear hF;show AV _ _ _ _ 3 [15] 17 _ _;simp only[Bg,Nat.reduceAdd,Co,SN];generalize γ 12=g12 at *;generalize γ 14=g14 at *;generalize γ 16=g16 at *
        clear γ;obtain⟨a6,rfl,-⟩:=pf12;obtain⟨gc,rfl,hgc,ec⟩:=pf16;obtain⟨b7,A7,n7,c7,rfl⟩:=pf14.cells;clear q0 q1 p0 p1;have cec:=ec.cells2;have fec:=ec.frozen
        repeat' first
         | (refine AV.nil ?_;simp only[Gj];go_wp2;done)
         | (refine AV.nil ?_;(try simp only[Gj]);go_wp2)
         | (refine AV.mk _ ⟨?_,trivial⟩ (fun h=>?_)<;>first | exact absurd h Ab | ((try clear h);simp only[CX,Gj];go_wp2;first | show AV _ _ _ _ _ [15] _ _ _ | show AV _ _ _ _ _ [] _ _ _))
        all_goals
         skip;obtain⟨W4,eW,ec',U⟩:=ec.put2 (.bool b7) (.slice A7 n7 c7);rw[<-eW];clear eW ec;replace pf14:=pf14.kd U.kd;replace hx8:=U.from_ hx8 Aj;have ec:=ec';clear U ec'
         go_meet
         case rel=>exact⟨gc,rfl,Bp.mk ec pf14,hx8⟩
      intro γ w8 hx8 hF hA;clear hA;have pf12:KA w8 (γ 12) (pcn (CQ n F)):=Ak.get hF 12 Ab;have pf14:AP w8 (γ 14) (pcn (CQ n F)):=Ak.get hF 14 Ab;have pf16:Bb w8 (γ 16) wt.heap.size #[.bool false,.slice none 0 0] 26:=Ak.get hF 16 Ab;clear hF;simp only[Bg,Nat.reduceAdd];generalize γ 12=g12 at *;generalize γ 14=g14 at *;generalize γ 16=g16 at *;clear γ;obtain⟨a6,rfl,-⟩:=pf12;obtain⟨gc,rfl,hgc,ec⟩:=pf16
      obtain⟨b7,A7,n7,c7,rfl⟩:=pf14.cells;clear q0 q1 p0 p1;have cec:=ec.cells2;have fec:=ec.frozen;go_wp2;skip;obtain⟨W4,eW,ec',U⟩:=ec.put2 (.bool b7) (.slice A7 n7 c7);rw[<-eW];clear eW ec;replace pf14:=pf14.kd U.kd;replace hx8:=U.from_ hx8 Aj;have ec:=ec';clear U ec'
      go_meet
      case rel=>exact⟨gc,rfl,Bp.mk ec pf14,hx8⟩
     case rest =>
      clear q0 q1 p0 p1;obtain⟨gc,rfl,⟨b7,A7,n7,c7,ec,hc⟩,hx3⟩:=hcut;have Hc:=Ad (hc.has HQ.out.2.2.2.2.2.1);clear hc;have HbL:=Ad ((Hb'.out.kd hx3.kd).has HQ.out.2.2.2.2.2.2.1);replace ea:=ea.ext hx3;replace eb:=eb.ext hx3;have cec:=ec.cells2;have fec:=ec.frozen;have ceb:=eb.cells2;have feb:=eb.frozen
      go_wp2_with fail
      refine AB (jD _ _ (pcn (CQ n F)) ((dl n F:Nat):Int) _ Hc.out HbL.out HQ.out.2.2.2.2.2.2.2.1) ?_;rintro r4 w4 ⟨a4,rfl,hr4⟩ hx4;rw[HQ.out.2.2.2.2.2.2.2.2]at hr4;obtain⟨b8,A8,n8,c8,b9,A9,n9,c9,rfl⟩:=hr4.cells;replace ea:=ea.ext hx4;replace hx3:=hx3.trans hx4;clear ceb feb cec fec ec eb Hc HbL hx4;have hBa:=Bh.made w4 28 #[.bool b8,.slice A8 n8 c8,.bool b9,.slice A9 n9 c9] (by simp[Af]);obtain⟨Wa,eWa,e5,xa⟩:=hBa
      go_upto_region 21 with(fail)
      rw[<-eWa];replace hr4:=hr4.ext xa;replace ea:=ea.ext xa;replace hx3:=hx3.trans xa;clear eWa xa;generalize w4.heap.size=gr at e5 ⊢;have HP':=Ad (HP.out.ext hx3);have hxx:=hx.trans (hx2.trans hx3);clear HP hx3 hx2;obtain⟨ce50,ce51,ce52,ce53⟩:=e5.cells4;have fe5:=e5.frozen;refine CP 3 [91,92,2] [14,17] [_,_] [(kv ?_),(kv ?_),(kv ?_)] (fun γ w'=>[True,True,True]) ?s3 ?_
      case s3 =>
       iterate 3 refine⟨?_,?_⟩
       trivial
       iterate 3 focus
        refine AY fun _ w' he R hR=>?_;have hc:=he.cells;have cq0:=he.cell ce50;have cq1:=he.cell ce51;have cq2:=he.cell ce52;have cq3:=he.cell ce53;go_simp;(try go_ints);(try(rw[if_neg Aa]));(try(rw[if_pos Aa]));(try go_simp);(try go_ints)
        exact Br hR
      intro γ w9 hx9 hF;clear hF;simp only[Bg,Nat.reduceAdd];clear γ;replace ea:=ea.ext hx9;replace hr4:=hr4.ext hx9;replace hxx:=hxx.trans hx9;have hp:=HP'.out.ext hx9;clear hx9 ce50 ce51 ce52 ce53 fe5 e5 HP';have cea:=ea.cells4;have fea:=ea.frozen;go_wp2;obtain⟨W3,eW,ea',U⟩:=ea.put4 (.bool b8) (.slice A8 n8 c8) (.bool b9) (.slice A9 n9 c9);rw[<-eW];clear eW ea;replace hr4:=hr4.kd U.kd;replace hp:=hp.upd U Aj
      replace hxx:=U.from_ hxx Aj;have ea:=ea';clear U ea';have HP:=Ad (hp.base_le (show w.heap.size<=_ by omega));clear hp;clear cea;have cea:=ea.cells4;have fea:=ea.frozen;refine bodyPost_ret (v := .tuple #[_,.agg #[.bool b8,.slice A8 n8 c8,.bool b9,.slice A9 n9 c9]]) (by simp[results,Tryz.results116,go_sem,cea];rfl) rfl ?_;exact Ag.mk ⟨_,_,rfl,HP.out,hr4⟩ hxx
theorem AP.cast{w:World}{v:Value}{x y:Int}(h:AP w v x)(e:x=y):AP w v y:=e▸h
set_option maxRecDepth 20000 in
theorem SB(v:Value)(l:List Rat)(w:World)(hv:Lv 0 w v l)(hn:l.length<=1099511627776)(h0:co l=pz) :
  Bc 72 #[v] w (fun r w'=>Mj 0 0 pz r w'):=by
 have HV:=Ad hv;obtain⟨A0,c0,rfl⟩:=hv.len;have H0:=Ad h0;clear hv h0
 go_enter Tryz.func72,Tryz.ntmps72
 go_wp2_with fail
 refine AB (FT _ l _ (HV.out.ext ((Ext.refl w).alloc _)) hn) ?_;rintro r1 w1 hr1 hx1;rw[H0.out]at hr1;obtain⟨A1,c1,l1,rfl,k1,k2,-⟩:=hr1.form;rw[BH];clear hr1 HV k1
 go_wp2_with fail
 refine AB (P6 0 _ Aa Aa) ?_;rintro r2 w2 hr2 hx2;obtain⟨b5,A5,n5,c5,b6,A6,n6,c6,rfl⟩:=hr2.cells;have ea:=((Bh.new w 28 #[.bool false,.slice none 0 0,.bool false,.slice none 0 0] (by simp[Af])).ext hx1).ext hx2;have hx:=hx1.a1.trans hx2;have cea:=ea.cells4;have fea:=ea.frozen;clear hx1 hx2;go_wp2;obtain⟨W3,eW,ea',U⟩:=ea.put4 (.bool b5) (.slice A5 n5 c5) (.bool b6) (.slice A6 n6 c6);rw[<-eW];clear eW ea
 replace hr2:=hr2.kd U.kd;replace hx:=U.from_ hx Aj;have ea:=ea';clear U ea';clear cea;have cea:=ea.cells4;have fea:=ea.frozen;refine bodyPost_ret (v := .tuple #[.slice none 0 0,.agg #[.bool b5,.slice A5 n5 c5,.bool b6,.slice A6 n6 c6]]) (by simp[results,Tryz.results72,go_sem,cea]) rfl ?_;exact Ag.mk ⟨_,_,rfl,by rw[Qj,I4];exact AC.nil _ _,by rw[Ti];exact hr2⟩ hx
set_option maxRecDepth 20000 in
theorem XH(v:Value)(l:List Rat)(s:Nat)(w:World)(hv:Lv 0 w v l)(hn:l.length<=1000)(hs:∀ i,qsz (co l i)<=s)(hs0:s<=1000000)(h0:co l≠pz) :
  Bc 72 #[v] w (fun r w'=>Mj 0 (pl (co l)) (co l) r w'):=by
 have HV:=Ad hv;obtain⟨A0,c0,rfl⟩:=hv.len;have hfin:=Ae.co l;have hNorm:=fun w' (e:Ext w w')=>FT _ l w' (hv.ext e) Aa;have hplen:=Bj (Gi l);obtain⟨F,hF⟩:∃ F,F=co l:=⟨_,rfl⟩
 rw[<-hF]at hfin h0 hs hplen hNorm;rw[<-hF];have hpos:=AZ hfin h0;obtain⟨n,hn0⟩:∃ n,n=pl F:=⟨_,rfl⟩
 have hsup:BA n F:=by rw[hn0];exact AJ hfin
 have hdl:∀ k,k<=n->sz (dl k F)<=1+1000*1000000:=fun k hk=>by
  have:=Vo hs k;have h2:k*s<=1000*1000000:=Nat.mul_le_mul Aa hs0;omega
 have hcq:∀ i,qsz (CQ n F i)<=1+1000*1000000+1+1000000:=fun i=>by
  have:=KN (n:=n) hs i;have h2:n*s<=1000*1000000:=Nat.mul_le_mul Aa hs0;omega
 rw[<-hn0]at hpos ⊢;have hn3:n<=1000:=by omega
 have HX:=Ad (Ai hn0 (Ai hfin (Ai h0 (Ai hs (Ai hs0 (Ai hsup (Ai hdl hcq)))))));have HN:=Ad hNorm;clear hn0 hfin h0 hs hs0 hsup hdl hcq hNorm hF hv HV hplen hn
 go_enter Tryz.func72,Tryz.ntmps72
 go_wp2_with fail
 refine AB (HN.out _ ((Ext.refl w).alloc _)) ?_;rintro r1 w1 hr1 hx1;obtain⟨lh,hh1,hh2,-,hh4⟩:=hr1.hs (fun i=>by have:=HX.out.2.2.2.1 i;have:=HX.out.2.2.2.2.1;omega);obtain⟨A1,c1,l1,rfl,k1,k2,hA,k3,-,k5⟩:=hr1.form;rw[<-HX.out.1]at k1 k3 hh1 hh2 ⊢;have HA:=Ad (Ai hA (Ai k3 k5));have HH:=Ad (Ai hh1 (Ai hh2 hh4));clear hA k3 k5 hr1 HN hh1 hh2 hh4;have ea:=(Bh.new w 28 #[.bool false,.slice none 0 0,.bool false,.slice none 0 0] (by simp[Af])).ext hx1
 have hx:=hx1.a1;have hs1:=hx1.size;rw[World.size_alloc]at hs1;clear hx1
 go_wp2_with fail
 refine AB (Kw 1 _ Aa Aa) ?_;rintro r2 w2 hr2 hx2;obtain⟨b5,A5,n5,c5,rfl⟩:=hr2.cells;obtain⟨W0,eW,eb,x0⟩:=Bh.made w2 26 #[.bool b5,.slice A5 n5 c5] (by simp[Af]);replace hr2:=hr2.kd x0.kd;have hs2:=hx2.size;have Hx1:=Ad (hx2.trans x0);replace ea:=ea.ext (hx2.trans x0);have hgb:w.heap.size < w2.heap.size:=by omega
 clear hx2;go_wp2;rw[<-eW];clear eW x0;generalize w2.heap.size=gb at *
 go_loopw [6] (fun iv wr=>∃ k:Nat,k<=n/\iv = .int .i64 k/\Bh wr w.heap.size 28 #[.bool false,.slice none 0 0,.bool false,.slice none 0 0]/\Bp wr gb 26 (dl k F:Nat)/\Ext w1 wr) (fun iv _=>n - (intOf iv).toNat)
 case atStart=>exact⟨0,Nat.zero_le _,rfl,ea,Bp.mk eb hr2,Hx1.out⟩
 case round =>
  clear ea eb hr2 Hx1;obtain⟨k,hk,rfl,ea,⟨b,B,bn,bc,eb,hb⟩,hx2⟩:=hrel;have Hb:=Ad hb;clear hb;by_cases hkn:k < n
  ·have hkl1:k < l1.length:=by have:=HA.out.2.1;omega
   obtain⟨g,o,b1,B1,n1,d1,b2,B2,n2,d2,rfl,_,q0,q1,q2,q3,hq⟩:=HA.out.1.at_ (j:=k) hkl1;rw[<-El,HA.out.2.2]at hq;replace q0:=hx2.cell q0;replace q1:=hx2.cell q1;replace q2:=hx2.cell q2;replace q3:=hx2.cell q3;have hqs:=HX.out.2.2.2.1 k;have hqd:=(hq.ext hx2).dens (by have:=HX.out.2.2.2.2.1;omega);have hdk:=HX.out.2.2.2.2.2.2.1 k Aa;obtain⟨L,hL⟩:∃ L,L=dl k F:=⟨_,rfl⟩
   obtain⟨D,hD⟩:∃ D,D=(F k).den:=⟨_,rfl⟩
   have hDp:0 < D:=by rw[hD];exact(F k).den_pos
   have hLp:0 < L:=by rw[hL];exact LF F k
   have hG:Int.gcd (L:Int) (D:Int)=Nat.gcd L D:=Int.gcd_natCast_natCast L D;have hGp:0 < Nat.gcd L D:=Nat.gcd_pos_of_pos_left _ hLp;have hGn:((Nat.gcd L D:Nat):Int)≠0:=by omega
   have hLs:sz ((L:Nat):Int).natAbs<=4294967296:=by rw[Int.natAbs_natCast,hL];omega
   have hDs:sz ((D:Nat):Int).natAbs<=1000000:=by
    have h2:=FO (F k);rw[<-hD]at h2;have:=HX.out.2.2.2.2.1;omega
   have hGs:sz ((Nat.gcd L D:Nat):Int).natAbs<=4294967296:=by
    rw[Int.natAbs_natCast];have:=Bl (Nat.le_of_dvd hLp (Nat.gcd_dvd_left L D));rw[<-hL]at hdk;omega
   have hMs:sz ((L:Int)*(D:Int)).natAbs<=4294967296+1000000:=FK hLs hDs;have hstep:(L:Int)*(D:Int) / ((Nat.gcd L D:Nat):Int)=(dl (k+1) F:Nat):=by
    rw[<-YA,hL,hD];norm_cast
   rw[<-hL]at Hb;rw[<-hD]at hqd;have HG:=Ad (Ai hG (Ai hGn (Ai hLs (Ai hDs (Ai hGs (Ai hMs hstep))))));have Hq:=Ad hqd.1;clear hq hqs hqd hdk hG hGp hGn hGs hstep hL hD hDp hLp hLs hDs hMs;obtain⟨r0,r1⟩:=eb.cells2
   go_wp2_with fail
   refine CP 15 [23,24,25,26,27,28,29,30,31,32,33,34,35,36,37] [5,4,6] [_,_,_] [(kv ?_),(kv ?_),(kv ?_),(kv ?_),(kv ?_),(kv ?_),(fun γ=>γ 6),(kv ?_),(kv ?_),(kv ?_),(kv ?_),(kv ?_),(kv ?_),(fun γ=>γ 13),(fun γ=>γ 14)] (fun γ w'=>[True,True,True,True,True,True,AP w' (γ 6) ((L:Int)*(D:Int)),True,True,True,True,True,True,AP w' (γ 13) (Nat.gcd L D:Nat),AP w' (γ 14) (dl (k+1) F:Nat)]) ?s1 ?_
   case s1 =>
    iterate 15 refine⟨?_,?_⟩
    trivial
    iterate 6 focus
     refine AY fun _ w' he R hR=>?_;have hc:=he.cells;have cq0:=he.cell q0;have cq1:=he.cell q1;have cq2:=he.cell q2;have cq3:=he.cell q3;have cq4:=he.cell r0;have cq5:=he.cell r1;go_simp;(try go_ints);(try(rw[if_neg Aa]));(try(rw[if_pos Aa]));(try go_simp);(try go_ints)
     exact Br hR
    ·refine AY fun _ w' he R hR=>?_
     go_simp;exact Bf (FY _ _ (L:Int) (D:Int) w' ((Hb.out.kd he.kd).has (by have:=HG.out.2.2.1;omega)) (Hq.out.kd he.kd) (by have:=HG.out.2.2.1;omega) (by have:=HG.out.2.2.2.1;omega)) hR
    iterate 6 focus
     refine AY fun _ w' he R hR=>?_;have hc:=he.cells;have cq0:=he.cell q0;have cq1:=he.cell q1;have cq2:=he.cell q2;have cq3:=he.cell q3;have cq4:=he.cell r0;have cq5:=he.cell r1;go_simp;(try go_ints);(try(rw[if_neg Aa]));(try(rw[if_pos Aa]));(try go_simp);(try go_ints)
     exact Br hR
    ·refine AY fun _ w' he R hR=>?_
     go_simp;exact Bf (F:=fun r w''=>AP w'' (r) (Nat.gcd L D:Nat)) (Ag.imp (Ut _ _ (L:Int) (D:Int) w' ((Hb.out.kd he.kd).has (by have:=HG.out.2.2.1;omega)) (Hq.out.kd he.kd) (by have:=HG.out.2.2.1;omega) (by have:=HG.out.2.2.2.1;omega)) fun _ _ h=>AP.cast h (congrArg _ HG.out.1)) hR
    ·refine EF fun γ w' he hf R hR=>?_;have f6:AP w' (γ 6) ((L:Int)*(D:Int)):=hf 6 Ab;have f13:AP w' (γ 13) (Nat.gcd L D:Nat):=hf 13 Ab;clear hf
     go_simp;exact Bf (F:=fun r w''=>AP w'' (r) (dl (k+1) F:Nat)) (Ag.imp (I7 _ _ ((L:Int)*(D:Int)) (Nat.gcd L D:Nat) w' (f6.has (by have:=HG.out.2.2.2.2.2.1;omega)) (f13.has (by have:=HG.out.2.2.2.2.1;omega)) HG.out.2.1 (by have:=HG.out.2.2.2.2.2.1;omega) (by have:=HG.out.2.2.2.2.1;omega)) fun _ _ h=>AP.cast h HG.out.2.2.2.2.2.2) hR
   intro γ w8 hx8 hF;have p6:AP w8 (γ 6) ((L:Int)*(D:Int)):=Ak.get hF 6 Ab;have p13:AP w8 (γ 13) (Nat.gcd L D:Nat):=Ak.get hF 13 Ab;have p14:AP w8 (γ 14) (dl (k+1) F:Nat):=Ak.get hF 14 Ab;clear hF;simp only[Bg,Nat.reduceAdd];generalize γ 6=g6 at *;generalize γ 13=g13 at *;generalize γ 14=g14 at *;clear γ;obtain⟨b8,A8,n8,c8,rfl⟩:=p14.cells;replace ea:=ea.ext hx8;replace eb:=eb.ext hx8;replace hx2:=hx2.trans hx8
   clear q0 q1 q2 q3 r0 r1 p6 p13 hx8 Hb Hq;have ceb:=eb.cells2;have feb:=eb.frozen;go_wp2;obtain⟨W5,eW,eb',U⟩:=eb.put2 (.bool b8) (.slice A8 n8 c8);rw[<-eW];clear eW eb;replace p14:=p14.kd U.kd;replace ea:=ea.upd U Aj;replace hx2:=U.from_ hx2 Aj;have eb:=eb';clear U eb'
   go_roundw
   case rel=>exact⟨k+1,Aa,by go_num,ea,Bp.mk eb p14,hx2⟩
   case measure=>simp[intOf]<;>omega
  ·obtain rfl:n=k:=by omega
   have hgbl:=eb.lt;have hb0:=Hb.out;go_wp2
   go_loopw [7,8] (fun zv iv wr=>∃ k:Nat,k<=n/\iv = .int .i64 k/\CK (gb+1) 26 wr zv (DN k (CQ n F))/\Bh wr w.heap.size 28 #[.bool false,.slice none 0 0,.bool false,.slice none 0 0]/\Bh wr gb 26 #[.bool b,.slice B bn bc]/\AP wr (.agg #[.bool b,.slice B bn bc]) (dl n F:Nat)/\Ext w1 wr) (fun _ iv _=>n - (intOf iv).toNat)
   case atStart=>exact⟨0,Nat.zero_le _,rfl,BJ.nil _ _ _ _ _,ea,eb,hb0,hx2⟩
   case round =>
    clear ea eb hx2 hgbl hb0 Hb;obtain⟨k,hk,rfl,hown,ea,eb,hb,hx2⟩:=hrel;have Hb:=Ad hb;clear hb;have hgbl:=eb.lt;by_cases hkn:k < n
    ·have hkl1:k < l1.length:=by have:=HA.out.2.1;omega
     obtain⟨g,o,b1,B1,n1,d1,b2,B2,n2,d2,rfl,_,q0,q1,q2,q3,hq⟩:=HA.out.1.at_ (j:=k) hkl1;rw[<-El,HA.out.2.2]at hq;replace q0:=hx2.cell q0;replace q1:=hx2.cell q1;replace q2:=hx2.cell q2;replace q3:=hx2.cell q3;have hqs:=HX.out.2.2.2.1 k;have hqd:=(hq.ext hx2).dens (by have:=HX.out.2.2.2.2.1;omega);have hdk:=HX.out.2.2.2.2.2.2.1 n (Nat.le_refl _);obtain⟨L,hL⟩:∃ L,L=dl n F:=⟨_,rfl⟩
     obtain⟨D,hD⟩:∃ D,D=(F k).den:=⟨_,rfl⟩
     have hDn:(D:Int)≠0:=by have:=(F k).den_pos;omega
     have hDd:(D:Int)∣(L:Int):=by rw[hD,hL];exact Int.natCast_dvd_natCast.2 (Q0 F n k hkn)
     have hval:(F k).num*((L:Int) / (D:Int))=(CQ n F k).num:=by rw[Uu HX.out.2.2.2.2.2.1,hL,hD]
     obtain⟨X,hX⟩:∃ X:Int,X=(L:Int) / (D:Int):=⟨_,rfl⟩
     rw[<-hX]at hval;have hLs:sz ((L:Nat):Int).natAbs<=4294967296:=by rw[Int.natAbs_natCast,hL];omega
     have hDs:sz ((D:Nat):Int).natAbs<=1000000:=by
      have h2:=FO (F k);rw[<-hD]at h2;have:=HX.out.2.2.2.2.1;omega
     have hNs:sz (F k).num.natAbs<=1000000:=by
      have h2:=Ia (F k);have:=HX.out.2.2.2.2.1;omega
     have hXs:sz X.natAbs<=4294967296:=by
      have h1:=KE hDd;rw[<-hX]at h1;omega
     rw[<-hL]at Hb;rw[<-hD]at hqd;have HG:=Ad (Ai hX (Ai hDn (Ai hDs (Ai hval (Ai hLs (Ai hXs (Ai hL hNs)))))));have Hq:=Ad hqd;have Hown:=Ad hown;clear hq hqs hqd hdk hDn hDd hval hX hL hD hLs hXs hDs hNs hown
     go_wp2_with fail
     have ceb:=eb.cells2;have feb:=eb.frozen;refine CP 15 [44,45,46,47,48,49,50,51,52,53,54,55,56,57,58] [7,4,8,5] [_,_,_,_] [(kv ?_),(kv ?_),(kv ?_),(kv ?_),(kv ?_),(kv ?_),(kv ?_),(kv ?_),(kv ?_),(kv ?_),(kv ?_),(kv ?_),(fun γ=>γ 12),(fun γ=>γ 13),(fun γ=>γ 14)] (fun γ w'=>[True,True,True,True,True,True,True,True,True,True,True,True,AP w' (γ 12) X,AP w' (γ 13) (CQ n F k).num,EI w' (γ 14) (wr.heap.size) ((CQ n F k).num) 26]) ?s2 ?_
     case s2 =>
      iterate 15 refine⟨?_,?_⟩
      trivial
      iterate 12 focus
       refine AY fun _ w' he R hR=>?_;have hc:=he.cells;have cq0:=he.cell q0;have cq1:=he.cell q1;have cq2:=he.cell q2;have cq3:=he.cell q3;have cq4:=(eb.ext he).cells2;go_simp;(try go_ints);(try(rw[if_neg Aa]));(try(rw[if_pos Aa]));(try go_simp);(try go_ints)
       exact Br hR
      ·refine AY fun _ w' he R hR=>?_
       go_simp;exact Bf (F:=fun r w''=>AP w'' (r) X) (Ag.imp (I7 _ _ (L:Int) (D:Int) w' ((Hb.out.kd he.kd).has (by have:=HG.out.2.2.2.2.1;omega)) (Hq.out.1.kd he.kd) HG.out.2.1 (by have:=HG.out.2.2.2.2.1;omega) (by have:=HG.out.2.2.1;omega)) fun _ _ h=>AP.cast h HG.out.1.symm) hR
      ·refine EF fun γ w' he hf R hR=>?_;have f12:AP w' (γ 12) X:=hf 12 Ab;clear hf
       go_simp;exact Bf (F:=fun r w''=>AP w'' (r) (CQ n F k).num) (Ag.imp (FY _ _ (F k).num X w' (Hq.out.2.kd he.kd) (f12.has (by have:=HG.out.2.2.2.2.2.1;omega)) (by have:=HG.out.2.2.2.2.2.2.2;omega) (by have:=HG.out.2.2.2.2.2.1;omega)) fun _ _ h=>AP.cast h HG.out.2.2.2.1) hR
      ·refine EF fun γ w' he hf R hR=>?_;have f13:AP w' (γ 13) (CQ n F k).num:=hf 13 Ab;clear hf
       refine AP.el f13 fun b5 A5 n5 c5 e13 f13'=>?_;clear f13;go_simp;exact hR _ _ ((Ext.refl _).alloc _) rfl (EI.mk f13' (Nat.le_trans Ac he.size) _)
     intro γ w8 hx8 hF;have p12:AP w8 (γ 12) X:=Ak.get hF 12 Ab;have p13:AP w8 (γ 13) (CQ n F k).num:=Ak.get hF 13 Ab;have p14:EI w8 (γ 14) (wr.heap.size) ((CQ n F k).num) 26:=Ak.get hF 14 Ab;clear hF;simp only[Bg,Nat.reduceAdd];generalize γ 12=g12 at *;generalize γ 13=g13 at *;generalize γ 14=g14 at *;clear γ;have hs8:=hx8.size;refine Av rfl _ _ 22 rfl u7 g14 rfl rfl (JI w8 _ _ (gb+1) _ _ _ _ (Hown.out.ext hx8) p14 (by rw[AX];omega) Aa) ?_
     rintro v' w5 ⟨hown,U⟩;have hb2:=BJ.blk_ge (Hown.out.ext hx8);replace ea:=(ea.ext hx8).upd U (fun hm=>by have:=(hb2 _ hm).1;omega);replace eb:=(eb.ext hx8).upd U (fun hm=>by have:=(hb2 _ hm).1;omega);have Hb':=Ad ((Hb.out.kd hx8.kd).kd U.kd);replace hx2:=U.from_ (hx2.trans hx8) (fun g hg=>by have:=(hb2 _ hg).1;omega);have Hown':=Ad hown;clear hown U hb2 hx8 Hb Hown p12 p13 p14 q0 q1 q2 q3 Hq;go_wp2
     go_roundw
     case rel=>exact⟨k+1,Aa,by go_num,by rw[Es];exact Hown'.out,ea,eb,by rw[<-HG.out.2.2.2.2.2.2.1];exact Hb'.out,hx2⟩
     case measure=>simp[intOf]<;>omega
    ·obtain rfl:n=k:=by omega
     obtain⟨A2,c2,hv2⟩:=(CK.row hown).len;rw[AX]at hv2;have hz2:=TP hown (fun i=>by have:=HX.out.2.2.2.2.2.2.2 i;omega);rw[hv2]at hz2;have hzn:=Ep HX.out.2.2.2.2.2.1;have hfn:=DT (n:=n) HX.out.2.1;have hczl:=EU hzn (show BA n (CQ n F)from(HX.out.2.2.2.2.2.1).psc _);have hppz:=IY hzn hfn;have hppq:=fun i=>Ey hzn hfn HX.out.2.2.2.2.2.2.2 i;have hppl:pl (pp (CQ n F))<=1000:=by
      rw[Dq hzn hfn,LD HX.out.2.1,<-HX.out.1];exact hn3
     have Hz:=Ad (Ai hz2 (Ai hczl (Ai hppz (Ai hppq hppl))));clear hz2 hczl hown hzn hfn hppz hppq hppl;subst hv2
     go_wp2_with fail
     refine AB (EP _ _ _ Hz.out.1 (by rw[Hz.out.2.1];intro i;have:=HX.out.2.2.2.2.2.2.2 i;omega) (by rw[AX];omega)) ?_;rintro r2 w2 hr2 hx3;rw[Hz.out.2.1]at hr2;replace ea:=ea.ext hx3;have hz4:=hx2.size;replace hx2:=hx2.trans hx3;have Hp:=Ad hr2;obtain⟨A3,c3,rfl,k3,k4⟩:=hr2.shape;clear hr2 hx3 Hb eb
     go_wp2_with fail
     refine AB (ZX _ lh _ (HH.out.1.ext hx2) (by have:=HH.out.2.1;omega)) ?_;rintro r3 w3 hr3 hx3;rw[HH.out.2.2]at hr3;have hldq:qsz (ld F)<=1000000:=by have:=HX.out.2.2.2.1 (pl F - 1);have:=HX.out.2.2.2.2.1;show qsz (F (pl F - 1))<=_;omega
     have Hr3:=Ad (hr3.has (by omega:qsz (ld F)<=274877906944));clear hr3 hldq;have Hp':=Ad (Hp.out.ext hx3);replace ea:=ea.ext hx3;replace hx2:=hx2.trans hx3;clear hx3 Hp;obtain⟨lp,hp1,hp2,-,hp4⟩:=Hp'.out.hz (fun i=>by have:=Hz.out.2.2.2.1 i;omega);have HP:=Ad (Ai hp1 (Ai hp2 hp4));clear hp1 hp2 hp4
     go_wp2_with fail
     refine AB (MH _ lp _ HP.out.1 (by have:=HP.out.2.1;have:=Hz.out.2.2.2.2;omega)) ?_;rintro r4 w4 hr4 hx4;rw[HP.out.2.2]at hr4;have hlq:sz (ld (pp (CQ n F))).num.natAbs<=1099511627776:=by
      have:=Hz.out.2.2.2.1 (pl (pp (CQ n F)) - 1);unfold qsz at this;show sz (pp (CQ n F) (pl (pp (CQ n F)) - 1)).num.natAbs<=_;omega
     have Hr4:=Ad (hr4.has hlq);clear hr4 hlq;have Hp:=Ad (Hp'.out.ext hx4);have Hr3':=Ad (Hr3.out.ext hx4);replace ea:=ea.ext hx4;replace hx2:=hx2.trans hx4;clear hx4 Hp' Hr3 HP
     go_wp2_with fail
     refine AB (Na _ _ _ Hr4.out) ?_;rintro r5 w5 hr5 hx5;rw[show(((ld (pp (CQ n F))).num:Int):Rat)=ld (pp (CQ n F))from(Hz.out.2.2.1.num _).symm]at hr5;have hlq:qsz (ld (pp (CQ n F)))<=274877906944:=by
      have:=Hz.out.2.2.2.1 (pl (pp (CQ n F)) - 1);show qsz (pp (CQ n F) (pl (pp (CQ n F)) - 1))<=_;omega
     have Hr5:=Ad (hr5.has hlq);clear hr5 hlq;have Hp':=Ad (Hp.out.ext hx5);have Hr3:=Ad (Hr3'.out.ext hx5);replace ea:=ea.ext hx5;replace hx2:=hx2.trans hx5;clear hx5 Hp Hr3' Hr4
     go_wp2_with fail
     refine AB (NK _ _ _ _ _ Hr3.out Hr5.out) ?_;rintro r6 w6 hr6 hx6;obtain⟨b8,A8,n8,c8,b9,A9,n9,c9,rfl⟩:=hr6.cells;have hp:=Hp'.out.ext hx6;replace ea:=ea.ext hx6;have hxx:=hx.trans (hx2.trans hx6);clear hx6 Hp' Hr3 Hr5 hx2;have cea:=ea.cells4;have fea:=ea.frozen;go_wp2;obtain⟨W3,eW,ea',U⟩:=ea.put4 (.bool b8) (.slice A8 n8 c8) (.bool b9) (.slice A9 n9 c9);rw[<-eW];clear eW ea;replace hr6:=hr6.kd U.kd
     replace hp:=hp.upd U Aj;replace hxx:=U.from_ hxx Aj;have ea:=ea';clear U ea';have HP:=Ad (hp.base_le (Nat.zero_le _));clear hp;clear cea;have cea:=ea.cells4;have fea:=ea.frozen;refine bodyPost_ret (v := .tuple #[_,.agg #[.bool b8,.slice A8 n8 c8,.bool b9,.slice A9 n9 c9]]) (by simp[results,Tryz.results72,go_sem,cea];rfl) rfl ?_;exact Ag.mk ⟨_,_,rfl,HP.out,hr6⟩ hxx
theorem kM(v:Value)(l:List Int)(w:World)(hv:De 0 w v l)(hn:l.length<=1099511627776):Bc 115 #[v] w (fun r w'=>Di w.heap.size w' r (cz l)):=by
 obtain⟨A,c,rfl,hl,hc,hA⟩:=hv;obtain⟨W0,hmk,ea,hx⟩:=LG l.length (l.length:Int) rfl hn w;have HA:Hid (GL 0 w A l):=Ad hA;clear hA;have hzl:=Ex l;have Hzl:=Ad hzl;clear hzl
 go_enter Tryz.func115,Tryz.ntmps115
 go_wp2
 go_loopw [11] (fun iv wr=>∃ (k:Nat) (la:List (Option Rat)),k<=l.length/\iv = .int .i64 k/\CE wr w.heap.size 28 la/\la.length=l.length/\la=((zq l).take k).map some ++ List.replicate (l.length - k) none/\Ext w wr) (fun iv _=>l.length - (intOf iv).toNat)
 case atStart=>exact⟨0,_,Nat.zero_le _,rfl,ea,Ac,Ac,hx⟩
 case round =>
  obtain⟨k,la,hk,rfl,ea,hlen,hla,hx⟩:=hrel;have Hla:=Ad hla;clear hla;have Hlen:=Ad hlen;clear hlen;by_cases hkl:k < l.length
  ·obtain⟨g,o,b,A1,n,c1,rfl,_,q0,q1,hq⟩:=HA.out.at_ (j:=k) hkl
   replace q0:=hx.cell q0;replace q1:=hx.cell q1;have Hq:=Ad hq;clear hq
   go_wp2_with fail
   refine AB (Iy _ _ _ (Hq.out.kd (hx.alloc _).kd)) ?_;rintro r w2 hr hx2;replace ea:=ea.ext hx2.a1;replace hx:=hx.trans hx2.a1;clear hx2 q0 q1;obtain⟨b5,A5,n5,c5,b6,A6,n6,c6,rfl⟩:=hr.cells;have hkla:k < la.length:=by have:=Hlen.out;omega
   obtain⟨_,_,_,_,_,_,_,_,ca0,ca1,ca2,ca3,-⟩:=ea.at_ (j:=k) (by first | omega | (simp;omega));have fa0:=ea.frozen (k*4);have fa1:=ea.frozen (k*4+1);have fa2:=ea.frozen (k*4+2);have fa3:=ea.frozen (k*4+3);go_wp2;obtain⟨W3,eW,ea',U⟩:=ea.put (k:=k) (by first | omega | (simp;omega)) hr;rw[<-eW];clear eW ea;replace hx:=U.from_ hx Aj;have ea:=ea';clear U ea'
   go_roundw
   case rel=>exact⟨k+1,_,Aa,by go_num,ea,by simpa using Hlen.out,QS Hla.out hkl Hzl.out (Oc hkl),hx⟩
   case measure=>simp[intOf];omega
  ·obtain rfl:k=l.length:=by omega
   replace ea:CE wr w.heap.size 28 ((zq l).map some):=by
    have:=Hla.out;rw[Nat.sub_self,List.replicate_zero,List.append_nil,List.take_of_length_le (by rw[Hzl.out];exact Nat.le_refl _)]at this;rw[<-this];exact ea
   have hrow:=ea.row (m:=zq l) rfl (Nat.le_refl _);have hT:=IL w.heap.size (some ⟨w.heap.size,0,none⟩) l.length (zq l) wr (by rw[Hzl.out];exact Nat.le_refl _) Aa hrow;rw[Hzl.out]at hT;have Hrow:=Ad hrow;clear hrow
   go_wp2_with fail
   refine Calls.mono hT ?_;rintro e w2 ⟨rfl,rfl⟩;go_wp2
   go_ret
   exact Ag.mk (Di.of_trim (Qi.trim Hrow.out (by rw[Hzl.out];exact Nat.le_refl _)) rfl) hx
theorem kW(v:Value)(l:List Int)(w:World)(hv:De 0 w v l)(hs:∀ i,qsz (cz l i)<=274877906944)(hn:l.length<=274877906944):Bc 71 #[v] w (fun r w'=>Di w.heap.size w' r (cz l)):=by
 obtain⟨A,c,rfl,hl,hc,hA⟩:=hv;have HA:Hid (GL 0 w A l):=Ad hA;clear hA;have HS:=Ad hs;clear hs
 go_enter Tryz.func71,Tryz.ntmps71
 go_wp2
 go_loopw [3,4] (fun ov iv wr=>∃ (k:Nat),k<=l.length/\iv = .int .i64 k/\EB w.heap.size 28 wr ov ((List.range k).map (cz l))/\Ext w wr) (fun _ iv _=>l.length - (intOf iv).toNat)
 case atStart=>exact⟨0,Nat.zero_le _,rfl,BJ.nil _ _ _ _ _,Ext.refl _⟩
 case round =>
  obtain⟨k,hk,rfl,hown,hx⟩:=hrel;by_cases hkl:k < l.length
  ·obtain⟨g,o,b,A1,n,c1,rfl,_,q0,q1,hq⟩:=HA.out.at_ (j:=k) hkl
   replace q0:=hx.cell q0;replace q1:=hx.cell q1;have Hq:=Ad hq;clear hq
   go_wp2_with fail
   refine AB (Na _ _ _ (Hq.out.kd hx.kd)) ?_;rintro r w2 hr hx2;rw[<-Cn hkl]at hr;obtain⟨b5,A5,n5,c5,b6,A6,n6,c6,rfl⟩:=hr.cells;have Hr:=Ad hr;clear hr;replace hown:=hown.ext hx2;replace hx:=hx.trans hx2;have Hown:=Ad hown;clear hown;have hsz:=hx.size;clear hx2 q0 q1
   go_wp2_with (at_builtin;refine Av rfl _ _ 43 rfl u3 (.slice (some ⟨w2.heap.size,0,none⟩) 1 1) rfl rfl (Px w2 w.heap.size _ _ _ _ _ Hown.out Hr.out (by first | (rw[List.length_map,List.length_range];omega) | omega) hsz rfl) ?_)
   first | intro v' w5 hown U | rintro v' w5 ⟨hown,U⟩
   replace hx:=(Hown.out.ext ((Ext.refl w2).alloc _)).from_ U (hx.alloc _) (Nat.le_refl _);have Hown':=Ad hown;clear hown U;go_wp2
   go_roundw
   case rel=>exact⟨k+1,Aa,by go_num,by rw[Jj];exact Hown'.out,hx⟩
   case measure=>simp[intOf]<;>omega
  ·obtain rfl:k=l.length:=by omega
   have hz:BA l.length (cz l):=(BG l)
   have hco:=JM hz;have hh:=(EB.row hown).has (fun q hq=>by obtain⟨i,hi,rfl⟩:=List.mem_map.1 hq;have hi:=List.mem_range.1 hi;exact(HS.out i));have hln:((List.range l.length).map (cz l)).length<=1099511627776:=by rw[List.length_map,List.length_range];omega
   obtain⟨A2,c2,e2⟩:=hh.len;rw[Eh]at e2;subst e2;have HH:=Ad (Ai hh hco);clear hh hco hz hown
   go_wp2_with fail
   refine AB (FT _ _ _ HH.out.1 hln) ?_;rintro r w9 hr hx9;have hsz:=(hx).size;have Hr:=Ad hr;clear hr hln;go_wp2
   go_ret
   exact Ag.mk (by rw[<-HH.out.2];exact Hr.out.base_le Aa) ((hx).trans hx9)
end Go.Proofs.YtmhgnigpmompmaaGreat
namespace Go.Hp
theorem AC.cast{b:Nat}{w:World}{v:Value}{F G:Nat->Rat}(h:AC b w v F)(e:F=G):AC b w v G:=e▸h
theorem Di.cast{b:Nat}{w:World}{v:Value}{F G:Nat->Rat}(h:Di b w v F)(e:F=G):Di b w v G:=e▸h
theorem UT{n:Nat}{F:Nat->Rat}{s:Nat}(hs:BA n F)(hq:∀ i,qsz (F i)<=s):qsz (KU n F)<=s+(1+n*s+1+s):=by
 unfold KU;have h1:=IK (ld F) (ld (pp (CQ n F)));have h2:=hq (pl F - 1);have h3:=Ey (Ep hs) (DT (n:=n) ⟨n,hs⟩) (fun i=>KN (n:=n) hq i) (pl (pp (CQ n F)) - 1);have e1:ld F=F (pl F - 1):=rfl;have e2:ld (pp (CQ n F))=pp (CQ n F) (pl (pp (CQ n F)) - 1):=rfl;rw[e1,e2]at h1;show qsz (F (pl F - 1) / pp (CQ n F) (pl (pp (CQ n F)) - 1))<=_;omega
end Go.Hp
namespace Go.Proofs.YtmhgnigpmompmaaGreat
open Go.RowKit Go.Hp
theorem X6(v:Value)(l:List Rat)(s:Nat)(w:World)(hv:Lv 0 w v l)(hn:l.length<=1000)(hs:∀ i,qsz (co l i)<=s)(hs0:s<=1000000) :
  Bc 116 #[v] w (fun r w'=>Mj w.heap.size (pl (co l)) (co l) r w'):=by
 by_cases h0:co l=pz
 ·have:=Tt v l w hv Aa h0
  rw[h0,BH];exact this
 ·exact aA v l s w hv hn hs hs0 h0
theorem TG(v:Value)(l:List Rat)(s:Nat)(w:World)(hv:Lv 0 w v l)(hn:l.length<=1000)(hs:∀ i,qsz (co l i)<=s)(hs0:s<=1000000) :
  Bc 72 #[v] w (fun r w'=>Mj 0 (pl (co l)) (co l) r w'):=by
 by_cases h0:co l=pz
 ·have:=SB v l w hv Aa h0
  rw[h0,BH];exact this
 ·exact XH v l s w hv hn hs hs0 h0
theorem Zq(v:Value)(F:Nat->Rat)(w:World)(hv:AC 0 w v F)(hs:∀ i,qsz (F i)<=1099511627776)(hn:pl F<=1099511627776):Bc 115 #[v] w (fun r w'=>Di 0 w' r F):=by
 obtain⟨l,h1,h2,-,rfl⟩:=hv.hz hs;exact Ag.imp (kM v l w h1 Aa) fun _ _ h=>h.base_le (Nat.zero_le _)
theorem X5(v u:Value)(F G:Nat->Rat)(s:Nat)(w:World)(hv:Di 0 w v F)(hu:Di 0 w u G)(h0:G≠pz)(hF:CD s F)(hG:CD s G)(hs:s<=1000000)(hn:pl F<=1000)(hm:pl G<=1000) :
  Bc 114 #[v,u] w (fun r w'=>∃ a b,r = .tuple #[a,b,.int .i64 0]/\Di 0 w' a (pq F G)/\Di 0 w' b (pr F G)):=by
 obtain⟨l,h1,h2,-,rfl⟩:=hv.hs fun i=>by have:=hF.elem i;omega
 obtain⟨m,k1,k2,-,rfl⟩:=hu.hs fun i=>by have:=hG.elem i;omega
 have:(pl (co l)+2)*(s+1)<=1002*1000001:=Nat.mul_le_mul Aa Aa;exact Ag.imp (XN v u l m s s w h1 k1 h0 hF hG Aa Aa Aa) fun r w' ⟨a,b,e,h,k⟩=>⟨a,b,e,h.base_le (Nat.zero_le _),k.base_le (Nat.zero_le _)⟩
theorem Xn(v:Value)(F:Nat->Rat)(s:Nat)(w:World)(hv:Di 0 w v F)(hF:CD s F)(hs:s<=1000000)(hn:pl F<=1000) :
  Bc 116 #[v] w (fun r w'=>Mj w.heap.size (pl F) F r w'):=by
 obtain⟨l,h1,h2,-,rfl⟩:=hv.hs fun i=>by have:=hF.elem i;omega
 exact X6 v l s w h1 Aa hF.elem hs
theorem NB(v u:Value)(F:Nat->Rat)(a:Int)(w:World)(hv:AC 0 w v F)(hs:∀ i,qsz (F i)<=1099511627776)(hu:Bq w u a)(hn:pl F<=1099511627776) :
  Bc 96 #[v,u] w (fun r w'=>AC w.heap.size w' r (psc (a:Rat) F)):=by
 obtain⟨l,h1,h2,-,rfl⟩:=hv.hz hs;exact R7 v u l a w h1 hu Aa
theorem P8(v:Value)(F:Nat->Rat)(w:World)(hv:AC 0 w v F)(hs:∀ i,qsz (F i)<=274877906944)(hn:pl F<=274877906944)(zF:ZI F)(fF:Ae F) :
  Bc 113 #[v] w (fun r w'=>AC w.heap.size w' r (rd F)):=by
 have HP:=Ad (Jn v F w hv (fun i=>by have:=hs i;omega) Aa);have HS:=Ad (Ai (fun W u (hu:AC 0 W u (pp F)) z (hz:Bq W z (-1))=>NB u z (pp F) (-1) W hu (fun i=>by have:=Ey zF fF hs i;omega) hz (by rw[Dq zF fF];omega)) (L9 F));have HZ:=Ad (show pl F=0->¬ ld F < 0 from fun h=>by rw[(Bt fF).1 h];show ¬ (0:Rat) < 0;decide);obtain⟨A,c,l,rfl,k1,k2,hA,k3,k4,k5⟩:=hv.form;have HA:=Ad (Ai hA (Ai k3 k5));clear hv hA k3 k4 k5 hs zF fF
 go_enter Tryz.func113,Tryz.ntmps113
 go_wp2_with fail
 refine AB HP.out ?_;rintro r1 w1 hr1 hx1;obtain⟨A1,c1,rfl,-⟩:=hr1.shape;have hr:=hr1;clear hr1;by_cases hp:0 < pl F
 ·obtain⟨g,o,b,A2,n,c2,rfl,_,q0,q1,hq⟩:=HA.out.1.at_ (j:=pl F - 1) (by have:=HA.out.2.1;omega)
  have hbb:=hq.two.2;have hld:ld F=(l[pl F - 1]'(by have:=HA.out.2.1;omega):Rat):=by rw[<-Cn,HA.out.2.2];rfl
  have hrd:rd F=psc (if b=true then -1 else 1) (pp F):=by
   rw[HS.out.2,hld,hbb];by_cases hneg:l[pl F - 1]'(by have:=HA.out.2.1;omega) < 0
   ·rw[if_pos (by exact_mod_cast hneg),if_pos (by simpa using hneg)]
   ·rw[if_neg (fun h=>hneg (by exact_mod_cast h)),if_neg (by simpa using hneg)]
  replace q0:=hx1.cell q0;have Hrd:=Ad hrd;have Hr:=Ad hr;clear hrd hld hbb hq q1 hr;cases b with
  | true =>
   go_wp2_with fail
   refine AB (JR (-1) _ Aa Aa) ?_;rintro r2 w2 hr2 hx2
   go_wp2_with fail
   refine AB (HS.out.1 _ _ ((Hr.out.ext hx2).base_le (Nat.zero_le _)) _ (hr2.has Ab)) ?_;rintro r3 w3 hr3 hx3;go_wp2
   go_ret
   exact Ag.mk ((hr3.base_le (hx1.trans hx2).size).cast (by rw[Hrd.out];simp)) ((hx1.trans hx2).trans hx3)
  | false =>
   go_wp2
   go_ret
   exact Ag.mk (Hr.out.cast (by rw[Hrd.out];simp[Cq])) hx1
 ·have h0:pl F=0:=by omega
  have e:rd F=pp F:=by
   rw[HS.out.2,if_neg (HZ.out h0),Cq]
  have Hr:=Ad (hr.cast e.symm);clear hr e;rw[h0];clear h0 hp;go_wp2
  go_ret
  exact Ag.mk Hr.out hx1
theorem jB:(Tryz.prog.info? 23).map (fun i=>(i.zero,i.size,i.bytes))=some (some (.slice none 0 0),1,24):=by kernel_rfl
theorem VK(W:World)(v:Value)(base eb ty n c g:Nat)(A:Option Addr)(us:List Value)(l:List (Nat->Rat))(F:Nat->Rat)(h:GZ base eb 23 W v us l)(hu:AC eb W (.slice A n c) F)(hg:g=W.heap.size)(hn:l.length<=1000000)(hb:base<=W.heap.size) :
  ∃ v' w',(Builtin.append_ #[55,55] ty #[v,.slice (some ⟨g,0,none⟩) 1 1]).run Tryz.prog (W.alloc (.cells #[.slice A n c] 23)) = .ok v' w' /\
   (GZ base eb 23 w' v' (us ++ [.slice A n c]) (l ++ [F])/\Cu (blk v) (W.alloc (.cells #[.slice A n c] 23)) w'/\OP (W.alloc (.cells #[.slice A n c] 23)) v):=by
 subst hg;obtain⟨i0,hi,hz0,hz1,hz2⟩:=info_parts jB;obtain⟨v',w',a,b,U,N⟩:=GZ.append (P:=Tryz.prog) h hu 55 ty i0 _ 24 Tryz.underlying55 hi hz0 hz1 hz2 rfl (by simp[nodig,Af,Value.cells]) (by simp[SI,Value.cells]) (by simp only[maxLen];omega) Aa hb;exact⟨v',w',a,b,U,N⟩
set_option maxRecDepth 20000 in
theorem aS(v u:Value)(F G:Nat->Rat)(S D M:Nat)(w:World)(hv:AC 0 w v F)(hu:AC 0 w u G)(zF:ZI F)(zG:ZI G)(fF:Ae F)(fG:Ae G)(hs:∀ i,qsz (F i)<=S)(ht:∀ i,qsz (G i)<=S)
  (hD:pl F+pl G=D) (hM:jT F G S M) (hB:M+(D+1)*(M+1)<=1000000) (hD9:D<=900) :
  Bc 65 #[v,u] w (fun r w'=>∃ us K,MM F G K/\K<=pl G+1/\GZ w.heap.size w.heap.size 23 w' r us (EH F G K)):=by
 have hSM:=hM.1;have hDM:(D+1)*1<=(D+1)*(M+1):=Nat.mul_le_mul_left _ Aa;obtain⟨K0,hK0,hK1⟩:=Fq fF fG zF zG hs ht;have hR1:=fun W (x:Ext w W)=>P8 v F W (hv.ext x) (fun i=>by have:=hs i;omega) Aa zF fF;have hR2:=fun W (x:Ext w W)=>P8 u G W (hu.ext x) (fun i=>by have:=ht i;omega) Aa zG fG;have hst:∀ k,(∀ j,1<=j->j<=k->Ca F G j≠pz)->Fx F G D S (Ca F G k) (Ca F G (k+1)):=fun k h=>by rw[<-hD];exact IG fF fG zF zG hs ht k h
 have hlow:=fun k h=>ME fF fG zF zG hs ht k h;obtain⟨A0,c0,rfl,-⟩:=hv.shape;obtain⟨A1,c1,rfl,-⟩:=hu.shape;have HX:=Ad (Ai hst (Ai hlow (Ai hM (Ai hB (Ai hD9 (Ai hD hK1))))));have HR:=Ad (Ai hR1 hR2);clear hv hu zF zG fF fG hs ht hD hM hSM hDM hR1 hR2 hst hlow hK0 hK1 hB hD9
 go_enter Tryz.func65,Tryz.ntmps65
 go_wp2_with fail
 refine AB (HR.out.1 _ (Ext.refl w)) ?_;rintro r1 w1 hr1 hx1;obtain⟨A2,c2,rfl,-⟩:=hr1.shape;have hP1:=GZ.one (t:=23) (base:=w.heap.size) (hr1.base_le (b:=w.heap.size) (Nat.le_refl _)) hx1.size;have hx:=hx1.alloc (.cells #[.slice A2 (pl (rd F)) c2] 23);have H1:=Ad hP1;clear hP1 hr1 hx1
 go_wp2_with fail
 refine AB (HR.out.2 _ hx) ?_;rintro r2 w2 hr2 hx2;have hP2:=H1.out.ext hx2;replace hr2:=hr2.base_le (b:=w.heap.size) hx.size;replace hx:=hx.trans hx2;clear H1 hx2;go_wp2
 go_loopw [5,6] (fun ov nv wr=>∃ k us,GZ w.heap.size w.heap.size 23 wr ov us (EH F G (k+1))/\AC w.heap.size wr nv (Ca F G (k+1))/\(∀ j,1<=j->j<=k->Ca F G j≠pz)/\Ext w wr) (fun _ nv _=>OO nv)
 case atStart=>exact⟨0,_,hP2,hr2,fun j a b=>Aa,hx⟩
 case round =>
  clear hP2 hr2 hx;obtain⟨k,us,hP,hn,hk,hx⟩:=hrel;obtain⟨L,d,rfl⟩:=hP.shape;obtain⟨A3,c3,rfl,-⟩:=hn.shape;have HK:=Ad hk;clear hk;have hf:=(HX.out.1 k HK.out).facts;have hkl:=HX.out.2.1 k HK.out;have hkk:k<=900:=by have:=HX.out;omega
  by_cases h0:0 < pl (Ca F G (k+1))
  ·have hbn:Ca F G (k+1)≠pz:=fun e=>by rw[e,BH]at h0;omega
   obtain⟨fA,fB,zA,zB,hdd,qA,qB⟩:=hf;have hcl:=(HX.out.1 k HK.out).clear hbn (HX.out.2.2.1.2 k HK.out).1 (HX.out.2.2.1.2 k HK.out).2;have hall:=Km fA fB hbn;have hcx:=dL fA fB hbn;have hpr:=Eo fA fB hbn;rw[<-Ji]at hall hcx;obtain⟨X,hXe⟩:∃ X,X=Ca F G k:=⟨_,rfl⟩
   obtain⟨Y,hYe⟩:∃ Y,Y=Ca F G (k+1):=⟨_,rfl⟩
   obtain⟨Z,hZe⟩:∃ Z,Z=Ca F G (k+2):=⟨_,rfl⟩
   obtain⟨R,hRe⟩:∃ R,R=pr X Y:=⟨_,rfl⟩
   simp only[<-hXe,<-hYe,<-hZe]at hcl hall hcx hpr hkl hbn h0 fB zB qB fA zA qA hdd;simp only[<-hRe]at hcl hall hcx hpr;have hM9:M<=1000000:=by have:=HX.out.2.2.2.1;have:0<=(D+1)*(M+1):=Nat.zero_le _;omega
   have hplR:pl R<=1000:=by have:=Bj hpr;have:=HX.out.2.2.2.2.1;omega
   have hplXY:pl X<=1000/\pl Y<=1000:=by have:=HX.out.2.2.2.2.1;omega
   have hcR:KU (pl R) R=KU (pl R) R:=rfl;have hpR:∀ i,qsz (pp (CQ (pl R) R) i)<=1099511627776:=fun i=>by
    have fR:Ae R:=⟨_,hpr⟩
    have h1:=Ey (Ep (AJ fR)) (DT (n:=pl R) fR) (fun j=>KN (n:=pl R) hcl.2.2.elem j) i;have h2:pl R*(M+(D+1)*(M+1))<=1000*1000000:=Nat.mul_le_mul hplR HX.out.2.2.2.1;have:=HX.out.2.2.2.1;omega
   have hplc:pl (pp (CQ (pl R) R))<=1000:=by
    have fR:Ae R:=⟨_,hpr⟩
    rw[Dq (Ep (AJ fR)) (DT (n:=pl R) fR)];exact Nat.le_trans (Bj (show BA (pl R) (CQ (pl R) R)from(AJ fR).psc _)) hplR
   have HC:=Ad (Ai hcl (Ai hall (Ai hcx (Ai hM9 (Ai hplR (Ai hplXY (Ai hbn (Ai hpR hplc))))))));have HE:=Ad (Ai hXe (Ai hYe (Ai hZe hRe)));have hlt:(EH F G (k+1)).length=k+1:=CL _ _ _;have HN:=Ad (hYe▸hn);rw[<-hYe];rw[hlt]at hP ⊢;have HP:=Ad hP;have hbl:=Ad hP.out.blk_ge;clear hcl hall hcx hM9 hplR hplXY hcR hpR hplc hpr fA fB zA zB hdd qA qB hbn hXe hYe hZe hRe hn hP hlt
   go_wp2_with (at_builtin;refine Av rfl _ _ 55 rfl (.slice L (k+1) d) (.slice (some ⟨wr.heap.size,0,none⟩) 1 1) rfl rfl (VK wr _ w.heap.size w.heap.size _ _ _ _ _ us _ _ HP.out HN.out rfl (by rw[CL];omega) hx.size) ?_)
   intro v' w6 hP6 U hNB;have xa:=(Ext.refl wr).alloc (.cells #[.slice A3 (pl Y) c3] 23);have hP7:=hP6;rw[show EH F G (k+1) ++ [Y]=EH F G (k+1+1)from by rw[HE.out.2.1,<-RF]]at hP7;obtain⟨L2,d2,rfl⟩:=hP7.shape;have hn7:=(HN.out.ext xa).updB U hNB;have hx7:=U.from_ (hx.trans xa) (fun g' hg=>(hbl.out _ hg).1);have hlt:(EH F G (k+1+1)).length=k+2:=CL _ _ _;have hat:=hP7.at_ (i:=k) (by rw[hlt];omega);rw[Uw]at hat
   obtain⟨g5,o5,E5,d5,rfl,hc5,h5⟩:=hat;rw[<-HE.out.1]at hc5 h5;have H7:=Ad (Ai hP7 (Ai hn7 h5));rw[hlt];clear hP6 hP7 hn7 h5 U hNB xa hx HP HN hbl hlt
   go_wp2_with fail
   refine AB (Zq _ _ _ H7.out.2.2 (fun i=>by have:=HC.out.1.1.elem i;have:=HC.out.2.2.2.1;omega) (by have:=HC.out.2.2.2.2.2.1;omega)) ?_;rintro r8 w8 hr8 hx8;have H8:=Ad (Ai (H7.out.1.ext hx8) (Ai (H7.out.2.1.ext hx8) hr8));replace hx7:=hx7.trans hx8;clear hx8 hr8 H7 hc5
   go_wp2_with fail
   refine AB (Zq _ _ _ (H8.out.2.1.base_le (Nat.zero_le _)) (fun i=>by have:=HC.out.1.2.1.elem i;have:=HC.out.2.2.2.1;omega) (by have:=HC.out.2.2.2.2.2.1;omega)) ?_;rintro r9 w9 hr9 hx9;have H9:=Ad (Ai (H8.out.1.ext hx9) (Ai (H8.out.2.2.ext hx9) hr9));replace hx7:=hx7.trans hx9;clear hx9 hr9 H8
   go_wp2_with fail
   refine AB (X5 _ _ X Y M _ H9.out.2.1 H9.out.2.2 HC.out.2.2.2.2.2.2.1 HC.out.1.1 HC.out.1.2.1 HC.out.2.2.2.1 HC.out.2.2.2.2.2.1.1 HC.out.2.2.2.2.2.1.2) ?_;rintro r10 w10 ⟨qv,rv,rfl,hq10,hr10⟩ hx10;obtain⟨Aq,cq,_,rfl,-⟩:=hq10.form;obtain⟨Ar,cr,_,rfl,-⟩:=hr10.form;rw[<-HE.out.2.2.2]at hr10 ⊢;have H10:=Ad (Ai (H9.out.1.ext hx10) hr10);replace hx7:=hx7.trans hx10;clear hx10 hr10 hq10 H9
   go_wp2_with fail
   refine AB (Xn _ R (M+(D+1)*(M+1)) _ H10.out.2 HC.out.1.2.2 HX.out.2.2.2.1 HC.out.2.2.2.2.1) ?_;rintro r11 w11 ⟨pv,cv,rfl,hp11,hc11⟩ hx11;replace hp11:=hp11.base_le (b:=w.heap.size) hx7.size;obtain⟨Ap,cp,rfl,-⟩:=hp11.shape;obtain⟨b5,B5,n5,e5,b6,B6,n6,e6,rfl⟩:=hc11.cells;obtain⟨W12,eW,ec,x12⟩:=Bh.made w11 28 #[.bool b5,.slice B5 n5 e5,.bool b6,.slice B6 n6 e6] (by simp[Af]);have H12:=Ad (Ai ((H10.out.1.ext hx11).ext x12) (Ai (hp11.ext x12) (hc11.ext x12)))
   replace hx7:=(hx7.trans hx11).trans x12;clear hx11 hp11 hc11 x12 H10
   go_upto_region 7 with(fail)
   rw[<-eW];clear eW;generalize w11.heap.size=gc at *;have cec:=ec.cells4;have fec:=ec.frozen;have hqc:qsz (KU (pl R) R)<=274877906944:=by
    have h1:=UT (AJ ⟨_,(show BA (pl R) R from by
     have:=HC.out.2.1;exact AJ (by rw[HE.out.2.2.2];exact ES (HX.out.1 k HK.out |>.facts |> fun f=>by rw[HE.out.1];exact f.1) (HX.out.1 k HK.out |>.facts |> fun f=>by rw[HE.out.2.1];exact f.2.1)))⟩) HC.out.1.2.2.elem
    have h2:pl R*(M+(D+1)*(M+1))<=1000*1000000:=Nat.mul_le_mul HC.out.2.2.2.2.1 HX.out.2.2.2.1;have:=HX.out.2.2.2.1;omega
   have hcx:=HC.out.2.2.1;have hpx:=HC.out.2.2.2.2.2.2.2
   go_wp2_with fail
   refine AB (M7 _ (KU (pl R) R) _ (H12.out.2.2.has hqc)) ?_;rintro r13 w13 rfl hx13;replace hx7:=hx7.trans hx13;have H13a:=Ad (Ai (H12.out.1.ext hx13) (H12.out.2.1.ext hx13));have hZe:Ca F G (k+1+1)=Z:=HE.out.2.2.1.symm;clear hx13 H12 cec fec ec hqc;by_cases hc:0 < KU (pl R) R
   ·rw[PS hc]
    rw[if_pos hc]at hcx;have HCX:=Ad (Ai hcx (Ai hpx hZe));clear hcx hpx hc hZe
    go_wp2_with fail
    refine AB (JR (-1) _ Aa Aa) ?_;rintro r14 w14 hr14 hx14;have H14:=Ad (Ai (H13a.out.1.ext hx14) (H13a.out.2.ext hx14));replace hx7:=hx7.trans hx14;clear hx14 H13a
    go_wp2_with fail
    refine AB (NB _ _ _ (-1) _ (H14.out.2.base_le (Nat.zero_le _)) HCX.out.2.1.1 (hr14.has Ab) (by have:=HCX.out.2.1.2;omega)) ?_;rintro r15 w15 hr15 hx15;replace hr15:=(hr15.base_le (b:=w.heap.size) hx7.size).cast (show psc (((-1:Int):Rat)) (pp (CQ (pl R) R))=Z from by rw[HCX.out.1];rfl);obtain⟨A15,c15,rfl,-⟩:=hr15.shape;rw[<-HCX.out.2.2]at hr15 ⊢;have H13:=Ad (Ai (H14.out.1.ext hx15) hr15);replace hx7:=hx7.trans hx15
    have HCX:=Ad HCX.out.2.2.symm;clear hx15 H14 hr15 hr14;go_wp2
    go_roundw
    case rel=>exact⟨k+1,_,(by have:=H13.out.1;rw[CL]at this;exact this),H13.out.2,fun j a1 a2=>by
     rcases Nat.lt_or_ge j (k+1)with a3 | a3
     ·exact HK.out j a1 Aa
     ·obtain rfl:j=k+1:=by omega
      rw[<-HE.out.2.1];exact HC.out.2.2.2.2.2.2.1,hx7⟩
    case measure =>
     have h1:=HC.out.2.1.2.2.2.1;rw[HCX.out]at h1;simp only[OO];omega
   ·have hsg:=Z4 hc
    have hdec:decide (0 < GJ (KU (pl R) R))=false:=decide_eq_false Aa;rw[if_neg hc,Cq]at hcx;have hr15:=H13a.out.2;rw[<-hcx,<-hZe]at hr15;rw[<-hcx,<-hZe];have H13:=Ad (Ai H13a.out.1 hr15);have HCX:=Ad hZe.symm;clear hcx hpx hc hZe H13a hr15;go_wp2
    go_roundw
    case rel=>exact⟨k+1,_,(by have:=H13.out.1;rw[CL]at this;exact this),H13.out.2,fun j a1 a2=>by
     rcases Nat.lt_or_ge j (k+1)with a3 | a3
     ·exact HK.out j a1 Aa
     ·obtain rfl:j=k+1:=by omega
      rw[<-HE.out.2.1];exact HC.out.2.2.2.2.2.2.1,hx7⟩
    case measure =>
     have h1:=HC.out.2.1.2.2.2.1;rw[HCX.out]at h1;simp only[OO];omega
  ·have hz:Ca F G (k+1)=pz:=(Bt hf.2.1).1 Aa
   have hS:MM F G (k+1):=⟨Aa,hz,fun j a b=>HK.out j a Aa⟩
   have HS:=Ad hS;clear hS hz hf;have HP:=Ad hP;clear hP;have hlt:(EH F G (k+1)).length=k+1:=CL _ _ _;go_wp2
   go_ret
   exact Ag.mk ⟨us,k+1,HS.out,Aa,HP.out⟩ hx
theorem UN(v u:Value)(l m:List Int)(s t:Nat)(w:World)(hv:De 0 w v l)(hu:De 0 w u m)(hs:∀ i,qsz (cz l i)<=s)(ht:∀ i,qsz (cz m i)<=t)(hst:s+t+1<=549755813888)(hn:l.length<=549755813888)(hm:m.length<=549755813888) :
  Bc 152 #[v,u] w (fun r w'=>AC w.heap.size w' r (pad (cz l) (cz m))):=by
 have HV:=Ad hv;have HU:=Ad hu;obtain⟨A,c,rfl⟩:=hv.len;obtain⟨E,d,rfl⟩:=hu.len;clear hv hu;have HS:=Ad (Ai hs ht);clear hs ht;obtain⟨N,hN⟩:∃ N,N=max l.length m.length:=⟨_,rfl⟩
 have h1:l.length<=N:=by omega
 have h2:m.length<=N:=by omega
 have h3:N<=549755813888:=by omega
 have h4:∀ k,k < N->k < l.length\/k < m.length:=fun k hk=>by omega
 have H4:=Ad h4;clear h4 hN
 go_enter Tryz.func152,Tryz.ntmps152
 go_wp2
 go_loopw [5,6] (fun ov iv wr=>∃ (k:Nat),k<=N/\iv = .int .i64 k/\CK w.heap.size 26 wr ov (DN k (pad (cz l) (cz m)))/\Ext w wr) (fun _ iv _=>N - (intOf iv).toNat)
 case atStart=>exact⟨0,Nat.zero_le _,rfl,BJ.nil _ _ _ _ _,Ext.refl _⟩
 case round =>
  obtain⟨k,hk,rfl,hown,hx⟩:=hrel;by_cases hkN:k < N
  ·have Hown0:=Ad hown;clear hown
   by_cases hk1:k < l.length
   ·skip
    go_wp2_with fail
    refine AB (RG _ l k _ (HV.out.ext hx) Aa) ?_;rintro r2 w2 hr2 hx2;have Hr2:=Ad hr2;clear hr2;replace hx:=hx.trans hx2
    go_wp2_with fail
    refine AB (RG _ m k _ (HU.out.ext hx) Aa) ?_;rintro r3 w3 hr3 hx3;have Hr3:=Ad hr3;clear hr3;replace hx:=hx.trans hx3
    go_wp2_with fail
    refine AB (Rn _ _ _ _ _ ((Hr2.out.kd hx3.kd).has (by have:=F7 (HS.out.1 k);omega)) (Hr3.out.has (by have:=F7 (HS.out.2 k);omega)) (by have:=F7 (HS.out.1 k);omega) (by have:=F7 (HS.out.2 k);omega)) ?_;rintro r4 w4 hr4 hx4;obtain⟨b5,A5,n5,c5,rfl⟩:=hr4.cells;have Hr:=Ad hr4;clear hr4;replace hx:=hx.trans hx4;have hown:=((Hown0.out.ext hx2).ext hx3).ext hx4;have Hown:=Ad hown;clear hown;have hsz:=hx.size
    clear hx2 hx3 hx4
    go_wp2_with (at_builtin;refine Av rfl _ _ 22 rfl u5 (.slice (some ⟨w4.heap.size,0,none⟩) 1 1) rfl rfl (FR w4 w.heap.size _ _ _ _ _ Hown.out Hr.out (by first | (rw[AX];omega) | omega) hsz rfl) ?_)
    first | intro v' w5 hown U | rintro v' w5 ⟨hown,U⟩
    replace hx:=(Hown.out.ext ((Ext.refl w4).alloc _)).from_ U (hx.alloc _) (Nat.le_refl _);have Hown':=Ad hown;clear hown U;go_wp2
    go_roundw
    case rel=>exact⟨k+1,Aa,by go_num,by rw[Es,show(pad (cz l) (cz m) k).num=(cz l k).num+(cz m k).num from(ZI.cz l).num_add (ZI.cz m) k k];exact Hown'.out,hx⟩
    case measure=>simp[intOf]<;>omega
   ·have hk2:k < m.length:=by rcases H4.out k hkN with h | h<;>omega
    have hk1':¬ (k:Int) < l.length:=by omega
    go_wp2_with fail
    refine AB (RG _ l k _ (HV.out.ext hx) Aa) ?_;rintro r2 w2 hr2 hx2;have Hr2:=Ad hr2;clear hr2;replace hx:=hx.trans hx2
    go_wp2_with fail
    refine AB (RG _ m k _ (HU.out.ext hx) Aa) ?_;rintro r3 w3 hr3 hx3;have Hr3:=Ad hr3;clear hr3;replace hx:=hx.trans hx3
    go_wp2_with fail
    refine AB (Rn _ _ _ _ _ ((Hr2.out.kd hx3.kd).has (by have:=F7 (HS.out.1 k);omega)) (Hr3.out.has (by have:=F7 (HS.out.2 k);omega)) (by have:=F7 (HS.out.1 k);omega) (by have:=F7 (HS.out.2 k);omega)) ?_;rintro r4 w4 hr4 hx4;obtain⟨b5,A5,n5,c5,rfl⟩:=hr4.cells;have Hr:=Ad hr4;clear hr4;replace hx:=hx.trans hx4;have hown:=((Hown0.out.ext hx2).ext hx3).ext hx4;have Hown:=Ad hown;clear hown;have hsz:=hx.size
    clear hx2 hx3 hx4
    go_wp2_with (at_builtin;refine Av rfl _ _ 22 rfl u5 (.slice (some ⟨w4.heap.size,0,none⟩) 1 1) rfl rfl (FR w4 w.heap.size _ _ _ _ _ Hown.out Hr.out (by first | (rw[AX];omega) | omega) hsz rfl) ?_)
    first | intro v' w5 hown U | rintro v' w5 ⟨hown,U⟩
    replace hx:=(Hown.out.ext ((Ext.refl w4).alloc _)).from_ U (hx.alloc _) (Nat.le_refl _);have Hown':=Ad hown;clear hown U;go_wp2
    go_roundw
    case rel=>exact⟨k+1,Aa,by go_num,by rw[Es,show(pad (cz l) (cz m) k).num=(cz l k).num+(cz m k).num from(ZI.cz l).num_add (ZI.cz m) k k];exact Hown'.out,hx⟩
    case measure=>simp[intOf]<;>omega
  ·obtain rfl:k=N:=by omega
   have hk1':¬ (k:Int) < l.length:=by omega
   have hk2':¬ (k:Int) < m.length:=by omega
   have hh:=ML hown (fun i hi=>(by have h1:=SG (ZI.cz l) (ZI.cz m) i i;have h2:=HS.out.1 i;have h3:=HS.out.2 i;show qsz (cz l i+cz m i)<=_;omega));have hczl:=EU (n:=k) (F:=pad (cz l) (cz m)) ((ZI.cz l).pad (ZI.cz m)) (((BG l).mono Aa).pad ((BG m).mono Aa));obtain⟨A2,c2,e2⟩:=hh.len;rw[AX]at e2;rw[e2]at hh;clear hown;subst e2;have HH:=Ad (Ai hh hczl);clear hh hczl
   go_wp2_with fail
   refine AB (D5 _ _ _ HH.out.1 (by rw[AX];omega)) ?_;rintro r w9 hr hx9;rw[HH.out.2]at hr;have hsz:=(hx).size;have Hr:=Ad hr;clear hr;go_wp2
   go_ret
   exact Ag.mk (Hr.out.base_le Aa) ((hx).trans hx9)
set_option maxRecDepth 20000 in
theorem P7(v u:Value)(l:List Int)(ca:Int)(s:Nat)(w:World)(hv:De 0 w v l)(hu:Bq w u ca)(hs:∀ i,qsz (cz l i)<=s)(hst:s+qsz (ca:Rat)<=549755813888)(hn:l.length<=549755813888) :
  Bc 73 #[v,u] w (fun r w'=>AC w.heap.size w' r (psc (ca:Rat) (cz l))):=by
 have HU:=Ad hu;obtain⟨b1,A1,n1,c1,rfl⟩:=hu.cells;obtain⟨A,c,rfl,hl,hc,hA⟩:=hv;clear hu;have HA:Hid (GL 0 w A l):=Ad hA;clear hA;have HS:=Ad (Ai hs hst);clear hs hst
 go_enter Tryz.func73,Tryz.ntmps73
 go_wp2
 go_loopw [5,6] (fun ov iv wr=>∃ (k:Nat),k<=l.length/\iv = .int .i64 k/\CK (w.heap.size+1) 26 wr ov (DN k (psc (ca:Rat) (cz l)))/\Ext (w.alloc (.cells #[.bool b1,.slice A1 n1 c1] 26)) wr) (fun _ iv _=>l.length - (intOf iv).toNat)
 case atStart=>exact⟨0,Nat.zero_le _,rfl,BJ.nil _ _ _ _ _,Ext.refl _⟩
 case round =>
  obtain⟨k,hk,rfl,hown,hx⟩:=hrel;by_cases hkl:k < l.length
  ·obtain⟨g,o,b,A2,n,c2,rfl,_,q0,q1,hq⟩:=HA.out.at_ (j:=k) hkl
   replace q0:=hx.a1.cell q0;replace q1:=hx.a1.cell q1;have ca0:=hx.box (g:=w.heap.size) (i:=0) rfl rfl;have ca1:=hx.box (g:=w.heap.size) (i:=1) rfl rfl;have hval:(psc (ca:Rat) (cz l) k).num=l[k]*ca:=by
    show((ca:Rat)*cz l k).num=_;rw[Cn hkl,num_mul,Int.mul_comm]
   have hqk:=HS.out.1 k;rw[Cn hkl,Bi]at hqk;have hqa:=HS.out.2;rw[Bi]at hqa;have Hq:=Ad (Ai hq (Ai hval (Ai hqk hqa)));clear hq hval hqk hqa;have Hown:=Ad hown;clear hown
   go_wp2_with fail
   refine CP 8 [13,14,15,16,17,18,19,20] [5,0,6,3] [_,_,_,_] [(kv ?_),(kv ?_),(kv ?_),(kv ?_),(kv ?_),(kv ?_),(fun γ=>γ 6),(fun γ=>γ 7)] (fun γ w'=>[True,True,True,True,True,True,AP w' (γ 6) (psc (ca:Rat) (cz l) k).num,EI w' (γ 7) (wr.heap.size) ((psc (ca:Rat) (cz l) k).num) 26]) ?s1 ?_
   case s1 =>
    iterate 8 refine⟨?_,?_⟩
    trivial
    iterate 6 focus
     refine AY fun _ w' he R hR=>?_;have hc:=he.cells;have cq0:=he.cell q0;have cq1:=he.cell q1;have cq2:=he.cell ca0;have cq3:=he.cell ca1;go_simp;(try go_ints);(try(rw[if_neg Aa]));(try(rw[if_pos Aa]));(try go_simp);(try go_ints)
     exact Br hR
    ·refine AY fun _ w' he R hR=>?_
     go_simp;exact Bf (Hq.out.2.1▸FY _ _ _ _ w' (Hq.out.1.kd (hx.a1.trans he).kd) (HU.out.kd (hx.a1.trans he).kd) (by have:=Hq.out.2.2;omega) (by have:=Hq.out.2.2;omega)) hR
    ·refine EF fun γ w' he hf R hR=>?_;have f6:AP w' (γ 6) (psc (ca:Rat) (cz l) k).num:=hf 6 Ab;clear hf
     refine AP.el f6 fun b5 A5 n5 c5 e6 f6'=>?_;clear f6;go_simp;exact hR _ _ ((Ext.refl _).alloc _) rfl (EI.mk f6' (Nat.le_trans Ac he.size) _)
   intro γ w1 hx1 hF;have p6:AP w1 (γ 6) (psc (ca:Rat) (cz l) k).num:=Ak.get hF 6 Ab;have p7:EI w1 (γ 7) (wr.heap.size) ((psc (ca:Rat) (cz l) k).num) 26:=Ak.get hF 7 Ab;clear hF;simp only[Bg,Nat.reduceAdd];generalize γ 6=g6 at *;generalize γ 7=g7 at *;clear γ;have hs:w.heap.size+1<=wr.heap.size:=by have:=hx.size;simpa using this
   have hs1:=hx1.size;refine Av rfl _ _ 22 rfl u5 g7 rfl rfl (JI w1 _ _ (w.heap.size+1) _ _ _ _ (Hown.out.ext hx1) p7 (by rw[AX];omega) Aa) ?_;rintro v' w2 ⟨hown,U⟩;replace hx:=(Hown.out.ext hx1).from_ U (hx.trans hx1) Ac;have Hown':=Ad hown;clear hown U p7 p6 q0 q1 ca0 ca1;go_wp2
   go_roundw
   case rel=>exact⟨k+1,Aa,by go_num,by rw[Es];exact Hown'.out,hx⟩
   case measure=>simp[intOf]<;>omega
  ·obtain rfl:k=l.length:=by omega
   have hh:=ML hown (fun i hi=>(by have h1:=BS (ca:Rat) (cz l i);have h2:=HS.out.1 i;have h3:=HS.out.2;show qsz ((ca:Rat)*cz l i)<=_;omega));have hczl:=EU (n:=l.length) (F:=psc (ca:Rat) (cz l)) ((ZI.cz l).psc ca) ((BG l).psc _);obtain⟨A2,c2,e2⟩:=hh.len;rw[AX]at e2;rw[e2]at hh;clear hown;subst e2;have HH:=Ad (Ai hh hczl);clear hh hczl
   go_wp2_with fail
   refine AB (D5 _ _ _ HH.out.1 (by rw[AX];omega)) ?_;rintro r w9 hr hx9;rw[HH.out.2]at hr;have hsz:=(hx.a1).size;have Hr:=Ad hr;clear hr;go_wp2
   go_ret
   exact Ag.mk (Hr.out.base_le Aa) ((hx.a1).trans hx9)
theorem ZT(v u:Value)(l m:List Int)(s t:Nat)(w:World)(hv:De 0 w v l)(hu:De 0 w u m)(hs:∀ i,qsz (cz l i)<=s)(ht:∀ i,qsz (cz m i)<=t)(hst:s+t+2<=549755813888)(hn:l.length<=549755813888)(hm:m.length<=549755813888) :
  Bc 153 #[v,u] w (fun r w'=>AC w.heap.size w' r (psb (cz l) (cz m))):=by
 have HV:=Ad hv;have HU:=Ad hu;obtain⟨A,c,rfl⟩:=hv.len;obtain⟨E,d,rfl⟩:=hu.len;clear hv hu;have HS:=Ad (Ai hs ht);clear hs ht;have e1:qsz ((-1:Int):Rat)=1:=by decide
 have E1:=Ad e1;clear e1
 go_enter Tryz.func153,Tryz.ntmps153
 go_wp2_with fail
 refine AB (Kw (-1) _ Aa Aa) ?_;rintro r1 w1 hr1 hx1;have Hr1:=Ad hr1;clear hr1
 go_wp2_with fail
 refine AB (P7 _ _ m (-1) t _ (HU.out.ext hx1) (Hr1.out.has Ab) HS.out.2 (by rw[E1.out];omega) hm) ?_;rintro r2 w2 hr2 hx2;obtain⟨l2,h2,h3,h4,h5⟩:=hr2.hz (fun i=>by have h1:=BS ((-1:Int):Rat) (cz m i);rw[E1.out]at h1;have h2:=HS.out.2 i;show qsz (_*_)<=_;omega);replace hx1:=hx1.trans hx2;have H2:=Ad (Ai h2 (Ai h3 h5));clear h2 h3 h4 h5 hr2 hx2;have hl2:l2.length<=549755813888:=by rw[H2.out.2.1];exact Nat.le_trans (Bj ((BG m).psc _)) hm
 go_wp2_with fail
 refine AB (UN _ _ l l2 s (t+1) _ (HV.out.ext hx1) H2.out.1 HS.out.1 (fun i=>by rw[H2.out.2.2];have h1:=BS ((-1:Int):Rat) (cz m i);rw[E1.out]at h1;have h2:=HS.out.2 i;show qsz (_*_)<=_;omega) Aa hn hl2) ?_;rintro r3 w3 hr3 hx3;have hsz:=hx1.size;have Hr3:=Ad hr3;clear hr3;go_wp2
 go_ret
 refine Ag.mk ?_ (hx1.trans hx3);have:=Hr3.out.base_le (b:=w.heap.size) Aa;rw[H2.out.2.2]at this;rw[Om];exact this
set_option maxRecDepth 20000 in
theorem K4(v:Value)(l:List Int)(s:Nat)(w:World)(hv:De 0 w v l)(hs:∀ i,qsz (cz l i)<=s)(hst:s+2<=549755813888)(hn:l.length<=549755813888) :
  Bc 69 #[v] w (fun r w'=>AC w.heap.size w' r (pd (cz l))):=by
 obtain⟨A,c,rfl,hl,hc,hA⟩:=hv;have HA:Hid (GL 0 w A l):=Ad hA;clear hA;have HS:=Ad hs;clear hs
 go_enter Tryz.func69,Tryz.ntmps69
 go_wp2
 go_loopw [3,4] (fun ov iv wr=>∃ (k:Nat),1<=k/\k<=max l.length 1/\iv = .int .i64 k/\CK w.heap.size 26 wr ov (DN (k - 1) (pd (cz l)))/\Ext w wr) (fun _ iv _=>l.length - (intOf iv).toNat)
 case atStart=>exact⟨1,Aa,Aa,Ac,BJ.nil _ _ _ _ _,Ext.refl _⟩
 case round =>
  obtain⟨k,hk1,hk,rfl,hown,hx⟩:=hrel;by_cases hkl:k < l.length
  ·obtain⟨g,o,b,A1,n,c1,rfl,_,q0,q1,hq⟩:=HA.out.at_ (j:=k) hkl
   replace q0:=hx.cell q0;replace q1:=hx.cell q1;have hval:(pd (cz l) (k - 1)).num=l[k]*(k:Int):=by
    unfold pd;rw[show k - 1+1=k from Aa,Cn hkl];show(((k:Nat):Int)*((l[k]:Int):Rat):Rat).num=_;rw[num_mul,Int.mul_comm]
   have hqk:=HS.out k;rw[Cn hkl,Bi]at hqk;have Hq:=Ad (Ai hq (Ai hval hqk));clear hq hval hqk;have Hown:=Ad hown;clear hown;have HK:=Ad (show sz ((k:Nat):Int).natAbs<=2 from by
    have:=Vx (x:=(k:Int)) Aa Aa;rw[Bi]at this;omega)
   go_wp2_with fail
   refine CP 9 [11,12,13,14,15,16,17,18,19] [3,0,4] [_,_,_] [(kv ?_),(kv ?_),(kv ?_),(kv ?_),(kv ?_),(kv ?_),(fun γ=>γ 6),(fun γ=>γ 7),(fun γ=>γ 8)] (fun γ w'=>[True,True,True,True,True,True,AP w' (γ 6) (k:Int),AP w' (γ 7) (pd (cz l) (k - 1)).num,EI w' (γ 8) (wr.heap.size) ((pd (cz l) (k - 1)).num) 26]) ?s1 ?_
   case s1 =>
    iterate 9 refine⟨?_,?_⟩
    trivial
    iterate 6 focus
     refine AY fun _ w' he R hR=>?_;have hc:=he.cells;have cq0:=he.cell q0;have cq1:=he.cell q1;go_simp;(try go_ints);(try(rw[if_neg Aa]));(try(rw[if_pos Aa]));(try go_simp);(try go_ints)
     exact Br hR
    ·refine AY fun _ w' he R hR=>?_
     go_simp;exact Bf (Kw (k:Int) w' Aa Aa) hR
    ·refine EF fun γ w' he hf R hR=>?_;have f6:AP w' (γ 6) (k:Int):=hf 6 Ab;clear hf
     go_simp;exact Bf (Hq.out.2.1▸FY _ _ _ _ w' (Hq.out.1.kd (hx.trans he).kd) (f6.has (by have:=HK.out;omega)) (by have:=Hq.out.2.2;omega) (by have:=HK.out;omega)) hR
    ·refine EF fun γ w' he hf R hR=>?_;have f7:AP w' (γ 7) (pd (cz l) (k - 1)).num:=hf 7 Ab;clear hf
     refine AP.el f7 fun b5 A5 n5 c5 e7 f7'=>?_;clear f7;go_simp;exact hR _ _ ((Ext.refl _).alloc _) rfl (EI.mk f7' (Nat.le_trans Ac he.size) _)
   intro γ w1 hx1 hF;have p6:AP w1 (γ 6) (k:Int):=Ak.get hF 6 Ab;have p7:AP w1 (γ 7) (pd (cz l) (k - 1)).num:=Ak.get hF 7 Ab;have p8:EI w1 (γ 8) (wr.heap.size) ((pd (cz l) (k - 1)).num) 26:=Ak.get hF 8 Ab;clear hF;simp only[Bg,Nat.reduceAdd];generalize γ 6=g6 at *;generalize γ 7=g7 at *;generalize γ 8=g8 at *;clear γ;have hs:=hx.size;have hs1:=hx1.size;refine Av rfl _ _ 22 rfl u3 g8 rfl rfl (JI w1 _ _ w.heap.size _ _ _ _ (Hown.out.ext hx1) p8 (by rw[AX];omega) Aa) ?_
   rintro v' w2 ⟨hown,U⟩;replace hx:=(Hown.out.ext hx1).from_ U (hx.trans hx1) (Nat.le_refl _);have Hown':=Ad hown;clear hown U p8 p7 p6;go_wp2
   go_roundw
   case rel=>exact⟨k+1,Aa,Aa,by go_num,by
    have:=Hown'.out;rw[<-Es,show k - 1+1=k+1 - 1 from by omega]at this;exact this,hx⟩
   case measure=>simp[intOf]<;>omega
  ·skip
   have hh:=ML hown (fun i hi=>(by have h1:=BS ((i+1:Nat):Rat) (cz l (i+1));have h2:=HS.out (i+1);have h3:=UG (n:=i+1) Aa;show qsz (((i+1:Nat):Rat)*cz l (i+1))<=_;omega));have hczl:=EU (n:=(k - 1)) (F:=pd (cz l)) (fI (ZI.cz l)) (fun i hi=>by unfold pd;rw[IP Aa];exact Rat.mul_zero _);obtain⟨A2,c2,e2⟩:=hh.len;rw[AX]at e2;rw[e2]at hh;clear hown;subst e2;have HH:=Ad (Ai hh hczl);clear hh hczl
   go_wp2_with fail
   refine AB (D5 _ _ _ HH.out.1 (by rw[AX];omega)) ?_;rintro r w9 hr hx9;rw[HH.out.2]at hr;have hsz:=(hx).size;have Hr:=Ad hr;clear hr;go_wp2
   go_ret
   exact Ag.mk (Hr.out.base_le Aa) ((hx).trans hx9)
set_option maxRecDepth 20000 in
theorem PK(v u:Value)(l m:List Int)(s t:Nat)(w:World)(hv:De 0 w v l)(hu:De 0 w u m)(hs:∀ i,qsz (cz l i)<=s)(ht:∀ i,qsz (cz m i)<=t)(hst:1+(l.length+m.length)*(s+t+1)<=274877906944)(hn:l.length<=274877906944)(hm:m.length<=274877906944) :
  Bc 23 #[v,u] w (fun r w'=>AC w.heap.size w' r (cv (cz l) (cz m))):=by
 have HV:=Ad hv;have HU:=Ad hu;obtain⟨A,c,rfl⟩:=hv.len;obtain⟨E,d,rfl⟩:=hu.len;clear hv hu;have hp0:=Bj (BG l);have hq0:=Bj (BG m);have HF:=Ad (Ai (Ae.cz l) (Ae.cz m));have HI:=Ad (Ai (ZI.cz l) (ZI.cz m));obtain⟨F,hF⟩:∃ F,F=cz l:=⟨_,rfl⟩
 obtain⟨G,hG⟩:∃ G,G=cz m:=⟨_,rfl⟩
 rw[<-hF,<-hG]at HF HI;rw[<-hF]at hs hp0;rw[<-hG]at ht hq0;rw[<-hF,<-hG];have HN:=Ad (Ai (D5 _ l w HV.out Aa) (fun w' (e:Ext w w')=>D5 _ m w' (HU.out.ext e) Aa));rw[<-hF,<-hG]at HN;clear hF hG HV HU;have HS:=Ad (Ai hs (Ai ht hst));clear hs ht hst
 go_enter Tryz.func23,Tryz.ntmps23
 go_wp2_with fail
 refine AB HN.out.1 ?_;rintro r1 w1 hr1 hx1;have Hr1:=Ad hr1;clear hr1
 go_wp2_with fail
 refine AB (HN.out.2 w1 hx1) ?_;rintro r2 w2 hr2 hx2;obtain⟨A1,c1,la,rfl,k1,k2,hA,k3,k4,k5⟩:=(Hr1.out.ext hx2).form;obtain⟨A2,c2,lb,rfl,k6,k7,hB,k8,k9,k10⟩:=hr2.form;replace hx1:=hx1.trans hx2;have HA:=Ad (Ai hA (Ai k3 k5));have HB:=Ad (Ai hB (Ai k8 k10));clear hx2 Hr1 hr2 hA hB k3 k4 k5 k8 k9 k10 HN;obtain⟨p,hp⟩:∃ p,p=pl F:=⟨_,rfl⟩
 obtain⟨q,hq⟩:∃ q,q=pl G:=⟨_,rfl⟩
 rw[<-hp]at HA hp0 ⊢;rw[<-hp]at k1;rw[<-hq]at HB hq0 k6 ⊢;have HP:=Ad (Ai hp hq);clear hp hq;by_cases h0:p=0
 ·have b0:((p:Int)==0)=true:=by rw[h0];rfl
  have H0:=Ad h0;clear h0;go_wp2
  go_ret
  have:F=pz:=(Bt HF.out.1).1 (by rw[<-HP.out.1];exact H0.out);rw[this,Cx];exact Ag.mk (AC.nil _ _) hx1
 have b0:((p:Int)==0)=false:=by simpa using h0
 by_cases h1:q=0
 ·have b1:((q:Int)==0)=true:=by rw[h1];rfl
  have H1:=Ad h1;clear h0 h1;go_wp2
  go_ret
  have:G=pz:=(Bt HF.out.2).1 (by rw[<-HP.out.2];exact H1.out);rw[this,IR];exact Ag.mk (AC.nil _ _) hx1
 have b1:((q:Int)==0)=false:=by simpa using h1
 have sF:BA p F:=by rw[HP.out.1];exact AJ HF.out.1
 have sG:BA q G:=by rw[HP.out.2];exact AJ HF.out.2
 have HZ:=Ad (Ai sF sG);clear sF sG;obtain⟨N,hN⟩:∃ N,p+q=N+1:=⟨p+q - 1,Aa⟩
 have hN1:N<=549755813888:=by omega
 have HL:=Ad (show N+1<=l.length+m.length by omega);have hpb:p<=549755813888:=by omega
 have hqb:q<=549755813888:=by omega
 clear h0 h1 hp0 hq0;have HW:=Ad hx1;clear hx1;obtain⟨wb,hwb⟩:∃ wb:World,wb=w2:=⟨_,rfl⟩
 subst hwb;go_wp2
 go_loopw [7,8] (fun ov iv wr=>∃ (n:Nat),n<=N/\iv = .int .i64 n/\CK wb.heap.size 26 wr ov (DN n (cv F G))/\Ext wb wr) (fun _ iv _=>N - (intOf iv).toNat)
 case atStart=>exact⟨0,Nat.zero_le _,rfl,BJ.nil _ _ _ _ _,Ext.refl _⟩
 case round =>
  obtain⟨n,hn,rfl,hown,hx⟩:=hrel;by_cases hnN:n < N
  ·have Hown0:=Ad hown;clear hown
   go_wp2_with fail
   refine AB (Kw 0 _ Aa Aa) ?_;rintro r3 w3 hr3 hx3;obtain⟨b5,A5,n5,c5,rfl⟩:=hr3.cells;have hown:=Hown0.out.ext hx3;have Hbk:=Ad (fun g hg=>(BJ.blk_ge hown g hg).2);replace hx:=hx.trans hx3;clear hx3 Hown0
   go_upto_region 9 with(fail)
   obtain⟨W9,eW9,e9,x9⟩:=Bh.made w3 26 #[.bool b5,.slice A5 n5 c5] (by simp[Af]);rw[<-eW9];clear eW9;have eb:=Bp.mk e9 (hr3.kd x9.kd);replace hown:=CK.ext hown x9;have Hsz9:=Ad hx.size;replace hx:=hx.trans x9;have Hown:=Ad hown;clear x9 hr3 e9 hown;generalize w3.heap.size=gb at *;go_wp2
   go_loopw [10] (fun iv wx=>∃ (i:Nat),i<=n+1/\iv = .int .i64 i/\Bp wx gb 26 (sm i (fun j=>F j*G (n - j))).num/\CK wb.heap.size 26 wx u7 (DN n (cv F G))/\Ext wb wx) (fun iv _=>n+1 - (intOf iv).toNat)
   case atStart=>exact⟨0,Nat.zero_le _,rfl,eb,Hown.out,hx⟩
   case round =>
    clear eb hx Hown;obtain⟨i,hi,rfl,⟨z1,Z1,zn,zc,ez,hz⟩,hown,hx⟩:=hrel;have Hz:=Ad hz;clear hz;have Hown:=Ad hown;clear hown;by_cases hin:i < n+1
    ·by_cases hip:i < p
     ·by_cases hiq:n - i < q
      ·have hiq':(n:Int) - i < q:=by omega
       obtain⟨g,o,b,B1,n1,d1,rfl,_,q0,q1,hqa⟩:=HA.out.1.at_ (j:=i) (by rw[HA.out.2.1];exact hip);obtain⟨g',o',bb,B2,n2,d2,rfl,_,r0,r1,hqb'⟩:=HB.out.1.at_ (j:=n - i) (by rw[HB.out.2.1];exact hiq);have ea:=UO HA.out.2.2 (i:=i) (by rw[HA.out.2.1];exact hip);have eb':=UO HB.out.2.2 (i:=n - i) (by rw[HB.out.2.1];exact hiq);rw[ea]at hqa;rw[eb']at hqb';replace q0:=hx.cell q0;replace q1:=hx.cell q1;replace r0:=hx.cell r0
       replace r1:=hx.cell r1;have Hqa:=Ad (hqa.kd hx.kd);have Hqb:=Ad (hqb'.kd hx.kd);clear hqa hqb' ea eb';have HQ:=Ad (show sz (F i).num.natAbs<=274877906944/\sz (G (n - i)).num.natAbs<=274877906944/\sz ((F i).num*(G (n - i)).num).natAbs<=274877906944/\sz (sm i (fun j=>F j*G (n - j))).num.natAbs<=274877906944 by
        have h1:=HS.out.1 i;have h2:=HS.out.2.1 (n - i);have h3:=BS (F i) (G (n - i));have h4:=VB HS.out.1 HS.out.2.1 n i;have h5:=M5 (i:=i) (by have:=HL.out;omega) HS.out.2.2;have h6:=M5 (i:=1) (by have:=HL.out;omega) HS.out.2.2;have h7:=F7 h1;have h8:=F7 h2;have h9:=F7 h4;have h10:=F7 h3;rw[HI.out.1.num_mul HI.out.2]at h10;omega)
       have cez:=ez.cells2;have fez:=ez.frozen
       go_wp2_with fail
       refine CP 13 [51,52,53,54,55,56,57,58,59,60,61,62,63] [9,5,10,6,8] [_,_,_,_,_] [(kv ?_),(kv ?_),(kv ?_),(kv ?_),(kv ?_),(kv ?_),(kv ?_),(kv ?_),(kv ?_),(kv ?_),(kv ?_),(fun γ=>γ 11),(fun γ=>γ 12)] (fun γ w'=>[True,True,True,True,True,True,True,True,True,True,True,AP w' (γ 11) ((F i).num*(G (n - i)).num),AP w' (γ 12) ((sm i (fun j=>F j*G (n - j))).num+(F i).num*(G (n - i)).num)]) ?s2 ?_
       case s2 =>
        iterate 13 refine⟨?_,?_⟩
        trivial
        iterate 11 focus
         refine AY fun _ w' he R hR=>?_;have hc:=he.cells;have cq0:=(ez.ext he).cells2;have cq1:=he.cell q0;have cq2:=he.cell q1;have cq3:=he.cell r0;have cq4:=he.cell r1;go_simp;(try go_ints);(try(rw[if_neg Aa]));(try(rw[if_pos Aa]));(try go_simp);(try go_ints)
         exact Br hR
        ·refine AY fun _ w' he R hR=>?_
         go_simp;exact Bf (FY _ _ _ _ w' ((Hqa.out.kd he.kd).has (by have:=HQ.out.1;omega)) ((Hqb.out.kd he.kd).has (by have:=HQ.out.2.1;omega)) (by have:=HQ.out.1;omega) (by have:=HQ.out.2.1;omega)) hR
        ·refine EF fun γ w' he hf R hR=>?_;have f11:AP w' (γ 11) ((F i).num*(G (n - i)).num):=hf 11 Ab;clear hf
         go_simp;exact Bf (Rn _ _ _ _ w' ((Hz.out.kd he.kd).has (by have:=HQ.out.2.2.2;omega)) (f11.has (by have:=HQ.out.2.2.1;omega)) (by have:=HQ.out;omega) (by have:=HQ.out;omega)) hR
       intro γ w6 hx6 hF;have p11:AP w6 (γ 11) ((F i).num*(G (n - i)).num):=Ak.get hF 11 Ab;have p12:AP w6 (γ 12) ((sm i (fun j=>F j*G (n - j))).num+(F i).num*(G (n - i)).num):=Ak.get hF 12 Ab;clear hF;simp only[Bg,Nat.reduceAdd];generalize γ 11=g11 at *;generalize γ 12=g12 at *;clear γ;clear cez fez q0 q1 r0 r1 p11 Hz Hqa Hqb HQ;replace ez:=ez.ext hx6;replace hx:=hx.trans hx6;have hown:=Hown.out.ext hx6
       clear hx6 Hown;obtain⟨b5,A5,n5,c5,rfl⟩:=p12.cells;have cez:=ez.cells2;have fez:=ez.frozen;go_wp2;obtain⟨W7,eW,ez',U⟩:=ez.put2 (.bool b5) (.slice A5 n5 c5) rfl rfl;rw[<-eW];clear eW ez cez fez;replace hown:=hown.off U Hbk.out;replace hx:=U.from_ hx (by have:=Hsz9.out;simp;omega);have eq:=Bp.mk ez' (p12.kd U.kd);clear U ez' p12;have Hown:=Ad hown;clear hown
       go_roundw
       case rel=>exact⟨i+1,Aa,by go_num,by rw[Xl HI.out.1 HI.out.2];exact eq,Hown.out,hx⟩
       case measure=>simp[intOf]<;>omega
      ·have hiq':¬ (n:Int) - i < q:=by omega
       have hz0:F i*G (n - i)=0:=by rw[HZ.out.2 (n - i) Aa];exact Rat.mul_zero _
       have Hz0:=Ad hz0;clear hz0;go_wp2
       go_roundw
       case rel=>exact⟨i+1,Aa,by go_num,by rw[BF,Hz0.out,Rat.add_zero];exact Bp.mk ez Hz.out,Hown.out,hx⟩
       case measure=>simp[intOf]<;>omega
     ·have hip':¬ (i:Int) < p:=by omega
      have hz0:F i*G (n - i)=0:=by rw[HZ.out.1 i Aa];exact Rat.zero_mul _
      have Hz0:=Ad hz0;clear hz0;go_wp2
      go_roundw
      case rel=>exact⟨i+1,Aa,by go_num,by rw[BF,Hz0.out,Rat.add_zero];exact Bp.mk ez Hz.out,Hown.out,hx⟩
      case measure=>simp[intOf]<;>omega
    ·obtain rfl:i=n+1:=by omega
     rw[<-Su]at Hz;have Hr:=Ad Hz.out;clear Hz;have cez:=ez.cells2;have fez:=ez.frozen;have hsz:=hx.size
     go_wp2_with (at_builtin;refine Av rfl _ _ 22 rfl u7 (.slice (some ⟨wr.heap.size,0,none⟩) 1 1) rfl rfl (FR wr wb.heap.size _ _ _ _ _ Hown.out Hr.out (by first | (rw[AX];omega) | omega) hsz rfl) ?_)
     first | intro v' w5 hown U | rintro v' w5 ⟨hown,U⟩
     replace hx:=(Hown.out.ext ((Ext.refl wr).alloc _)).from_ U (hx.alloc _) (Nat.le_refl _);have Hown':=Ad hown;clear hown U;go_wp2
     go_roundw
     case rel=>exact⟨n+1,Aa,by go_num,by rw[Es];exact Hown'.out,hx⟩
     case measure=>simp[intOf]<;>omega
  ·obtain rfl:n=N:=by omega
   have hh:=ML hown (fun i hi=>(by rw[Su];exact Nat.le_trans (Nat.le_trans (VB HS.out.1 HS.out.2.1 i (i+1)) (M5 (by have:=HL.out;omega) HS.out.2.2)) Aa));have hczl:=EU (n:=n) (F:=cv F G) (HI.out.1.cv HI.out.2) ((HZ.out.1.cv HZ.out.2).mono Aa);obtain⟨A2,c2,e2⟩:=hh.len;rw[AX]at e2;rw[e2]at hh;clear hown;subst e2;have HH:=Ad (Ai hh hczl);clear hh hczl
   go_wp2_with fail
   refine AB (D5 _ _ _ HH.out.1 (by rw[AX];omega)) ?_;rintro r w9 hr hx9;rw[HH.out.2]at hr;have hsz:=(HW.out.trans hx).size;have Hr:=Ad hr;clear hr;go_wp2
   go_ret
   exact Ag.mk (Hr.out.base_le Aa) ((HW.out.trans hx).trans hx9)
theorem Xc(W:World)(v x:Value)(base b ty:Nat)(l:List Int)(q:Int)(h:CK base 26 W v l)(hx:EI W x b q 26)(hn:l.length<=1099511627776)(hb:base<=W.heap.size) :
  ∃ v' w',(Builtin.append_ #[23,23] ty #[v,x]).run Tryz.prog W = .ok v' w'/\(CK base 26 w' v' (l ++ [q])/\Cu (blk v) W w'):=by
 obtain⟨g,cs,rfl,h1,h2,h3,h4⟩:=hx;obtain⟨i0,hi,hz0,hz1,hz2⟩:=info_parts I6;have ho:=AP.one h4;obtain⟨v',w',a,b,c⟩:=BJ.append (P:=Tryz.prog) h 23 ty i0 _ 32 Tryz.underlying23 hi hz0 hz1 hz2 rfl (by simp[nodig,Af,Value.cells]) Ab ⟨g,0,none⟩ 1 cs h3 h4 h2.news ho.1 ho.2.1 (FW hn) Aa hb (fun _ _ _ k hq=>AP.kd hq k);exact⟨v',w',a,b,c⟩
set_option maxRecDepth 20000 in
theorem K3(v:Value)(l:List Int)(w:World)(hv:De 0 w v l)(hn:l.length<=1099511627776) :
  Bc 66 #[v] w (fun r w'=>AC w.heap.size w' r (pd (cz l))):=by
 obtain⟨A,c,rfl,hl,hc,hA⟩:=hv;have HA:Hid (GL 0 w A l):=Ad hA;clear hA
 go_enter Tryz.func66,Tryz.ntmps66
 go_wp2
 go_loopw [3,4] (fun ov iv wr=>∃ (k:Nat),1<=k/\k<=max l.length 1/\iv = .int .i64 k/\CK w.heap.size 26 wr ov (DN (k - 1) (pd (cz l)))/\Ext w wr) (fun _ iv _=>l.length - (intOf iv).toNat)
 case atStart=>exact⟨1,Aa,Aa,Ac,BJ.nil _ _ _ _ _,Ext.refl _⟩
 case round =>
  obtain⟨k,hk1,hk,rfl,hown,hx⟩:=hrel;by_cases hkl:k < l.length
  ·obtain⟨g,o,b,A1,n,c1,rfl,_,q0,q1,hq⟩:=HA.out.at_ (j:=k) hkl
   replace q0:=hx.cell q0;replace q1:=hx.cell q1;have hval:(pd (cz l) (k - 1)).num=(k:Int)*l[k]:=by
    unfold pd;rw[show k - 1+1=k from Aa,Cn hkl];show(((k:Nat):Int)*((l[k]:Int):Rat):Rat).num=_;rw[num_mul]
   have Hq:=Ad (Ai hq hval);clear hq hval;have Hown:=Ad hown;clear hown;have HK:=Ad (show sz ((k:Nat):Int).natAbs<=2 from by
    have:=Vx (x:=(k:Int)) Aa Aa;rw[Bi]at this;omega)
   go_wp2_with fail
   refine CP 9 [11,12,13,14,15,16,17,18,19] [3,4,0] [_,_,_] [(kv ?_),(kv ?_),(fun γ=>γ 2),(kv ?_),(kv ?_),(kv ?_),(kv ?_),(fun γ=>γ 7),(fun γ=>γ 8)] (fun γ w'=>[True,True,AP w' (γ 2) (k:Int),True,True,True,True,AP w' (γ 7) (pd (cz l) (k - 1)).num,EI w' (γ 8) (wr.heap.size) ((pd (cz l) (k - 1)).num) 26]) ?s3 ?_
   case s3 =>
    iterate 9 refine⟨?_,?_⟩
    trivial
    iterate 2 focus
     refine AY fun _ w' he R hR=>?_;have hc:=he.cells;go_simp;exact Br hR
    ·refine AY fun _ w' he R hR=>?_
     go_simp;exact Bf (JR (k:Int) w' Aa Aa) hR
    iterate 4 focus
     refine AY fun _ w' he R hR=>?_;have hc:=he.cells;have cq0:=he.cell q0;have cq1:=he.cell q1;go_simp;(try go_ints);(try(rw[if_neg Aa]));(try(rw[if_pos Aa]));(try go_simp);(try go_ints)
     exact Br hR
    ·refine EF fun γ w' he hf R hR=>?_;have f2:AP w' (γ 2) (k:Int):=hf 2 Ab;clear hf
     go_simp;exact Bf (Hq.out.2▸E8 _ _ _ _ w' (f2.has (by have:=HK.out;omega)) (Hq.out.1.kd (hx.trans he).kd)) hR
    ·refine EF fun γ w' he hf R hR=>?_;have f7:AP w' (γ 7) (pd (cz l) (k - 1)).num:=hf 7 Ab;clear hf
     refine AP.el f7 fun b5 A5 n5 c5 e7 f7'=>?_;clear f7;go_simp;exact hR _ _ ((Ext.refl _).alloc _) rfl (EI.mk f7' (Nat.le_trans Ac he.size) _)
   intro γ w1 hx1 hF;have p2:AP w1 (γ 2) (k:Int):=Ak.get hF 2 Ab;have p7:AP w1 (γ 7) (pd (cz l) (k - 1)).num:=Ak.get hF 7 Ab;have p8:EI w1 (γ 8) (wr.heap.size) ((pd (cz l) (k - 1)).num) 26:=Ak.get hF 8 Ab;clear hF;simp only[Bg,Nat.reduceAdd];generalize γ 2=g2 at *;generalize γ 7=g7 at *;generalize γ 8=g8 at *;clear γ;have hs:=hx.size;have hs1:=hx1.size;refine Av rfl _ _ 23 rfl u3 g8 rfl rfl (Xc w1 _ _ w.heap.size _ _ _ _ (Hown.out.ext hx1) p8 (by rw[AX];omega) Aa) ?_
   rintro v' w2 ⟨hown,U⟩;replace hx:=(Hown.out.ext hx1).from_ U (hx.trans hx1) (Nat.le_refl _);have Hown':=Ad hown;clear hown U p8 p7 p2;go_wp2
   go_roundw
   case rel=>exact⟨k+1,Aa,Aa,by go_num,by
    have:=Hown'.out;rw[<-Es,show k - 1+1=k+1 - 1 from by omega]at this;exact this,hx⟩
   case measure=>simp[intOf];omega
  ·have hz:BA (k - 1) (pd (cz l)):=fun i hi=>by unfold pd;rw[IP Aa];exact Rat.mul_zero _
   have hco:=EU (fI (ZI.cz l)) hz;obtain⟨A2,c2,h1,h2,h3,h4⟩:=hown.row;rw[AX]at h1 h2;have hT:=EC w.heap.size A2 c2 _ wr (by rw[AX];exact h2) h3 h4;rw[AX,<-h1]at hT;have Hrow:=Ad (Ai h4 (Ai hco (Ai h2 h3)));clear h1 h2 h3 h4 hco hz hown
   go_wp2_with fail
   refine Calls.mono hT ?_;rintro e w2 ⟨rfl,rfl⟩;go_wp2
   go_ret
   exact Ag.mk (AC.of_trim (Mo.trim Hrow.out.1 (by rw[AX];exact Hrow.out.2.2.1) Hrow.out.2.2.2) Hrow.out.2.1) hx
theorem WF(W:World)(base ty g o c:Nat)(v:Value)(l:List Int)(q:Int){b:Bool}{A:Option Addr}{n cc:Nat}(h:CK base 26 W v l)(k0:W.cell? ⟨g,o,none⟩=some (.bool b))(k1:W.cell? ⟨g,o+1,none⟩=some (.slice A n cc))(hq:AP W (.agg #[.bool b,.slice A n cc]) q)(hn:l.length<=1099511627776)(hb:base<=W.heap.size) :
  ∃ v' w',(Builtin.append_ #[22,22] ty #[v,.slice (some ⟨g,o,none⟩) 1 c]).run Tryz.prog W = .ok v' w'/\(CK base 26 w' v' (l ++ [q])/\Cu (blk v) W w'):=by
 obtain⟨i0,hi,hz0,hz1,hz2⟩:=info_parts I6;have ho:=AP.one hq;obtain⟨v',w',a,b,c⟩:=BJ.append (P:=Tryz.prog) h 22 ty i0 _ 32 Tryz.underlying22 hi hz0 hz1 hz2 rfl (by simp[nodig,Af,Value.cells]) Ab ⟨g,o,none⟩ c #[.bool b,.slice A n cc] rfl hq (fun j u hj=>by
  match j,hj with
  | 0,hj=>simp at hj;subst hj;simpa[Addr.add] using k0
  | 1,hj=>simp at hj;subst hj;simpa[Addr.add] using k1) ho.1 ho.2.1 (FW hn) Aa hb (fun _ _ _ k hq=>AP.kd hq k)
 exact⟨v',w',a,b,c⟩
set_option maxRecDepth 20000 in
theorem P5(v:Value)(c:Int)(n:Nat)(w:World)(hv:De 0 w v [c])(h0:c≠0)(hn:n<=549755813888):Bc 151 #[v,.int .i64 (n:Nat)] w (fun r w'=>AC 0 w' r (mono n (c:Rat))):=by
 have HN:=Ad (D5 v [c] w hv Ac);obtain⟨A0,c0,rfl⟩:=hv.len;have hp1:pl (cz [c])=1:=L6 (BG [c]) (fun _=>by show cz [c] 0≠0;rw[Cn Ac];exact_mod_cast h0);have H0:=Ad (Ai h0 hp1);clear hv h0 hp1
 go_enter Tryz.func151,Tryz.ntmps151
 go_wp2_with fail
 refine AB HN.out ?_;rintro r1 w1 hr1 hx;obtain⟨A1,c1,l1,rfl,k1,k2,hA,k3,k4,k5⟩:=hr1.form;rw[H0.out.2]at k1 k3 ⊢;obtain⟨g,o,b,A2,n2,c2,rfl,-,q0,q1,hq⟩:=hA.at_ (j:=0) Aa;have hval:l1[0]'(by omega)=c:=by
  have h1:=congrFun k5 0;rw[Cn Aa,Cn Ac]at h1;exact Ij h1
 rw[hval]at hq;rw[Nat.zero_mul,Nat.add_zero]at q0 q1;have Hq:=Ad hq;have HW:=Ad hx;clear hA k3 k4 k5 hr1 hval hq HN;go_wp2
 go_loopw [6,7] (fun ov iv wr=>∃ k:Nat,k<=n/\iv = .int .i64 k/\CK w1.heap.size 26 wr ov (List.replicate k 0)/\Ext w1 wr) (fun _ iv _=>n - (intOf iv).toNat)
 case atStart=>exact⟨0,Nat.zero_le _,rfl,BJ.nil _ _ _ _ _,Ext.refl _⟩
 case round =>
  clear hx;obtain⟨k,hk,rfl,hown,hx⟩:=hrel;have Hown0:=Ad hown;clear hown;by_cases hkn:k < n
  ·go_wp2_with fail
   refine AB (Kw 0 _ Aa Aa) ?_;rintro r2 w2 hr2 hx2;obtain⟨b5,A5,n5,c5,rfl⟩:=hr2.cells;have Hr:=Ad hr2;clear hr2;have hown:=Hown0.out.ext hx2;have Hown:=Ad hown;clear hown;replace hx:=hx.trans hx2;have hsz:=hx.size;have hlr:(List.replicate k (0:Int)).length<=1099511627776:=by rw[List.length_replicate];omega
   clear hx2 Hown0
   go_wp2_with (at_builtin;refine Av rfl _ _ 22 rfl u6 (.slice (some ⟨w2.heap.size,0,none⟩) 1 1) rfl rfl (FR w2 w1.heap.size _ _ _ _ _ Hown.out Hr.out hlr hsz rfl) ?_)
   first | intro v' w5 hown U | rintro v' w5 ⟨hown,U⟩
   replace hx:=(Hown.out.ext ((Ext.refl w2).alloc _)).from_ U (hx.alloc _) (Nat.le_refl _);have Hown':=Ad hown;clear hown U hlr;go_wp2
   go_roundw
   case rel=>exact⟨k+1,Aa,by go_num,by rw[List.replicate_succ'];exact Hown'.out,hx⟩
   case measure=>simp[intOf]<;>omega
  ·obtain rfl:k=n:=by omega
   replace q0:=hx.cell q0;replace q1:=hx.cell q1;have hsz:=hx.size;have hlr:(List.replicate k (0:Int)).length<=1099511627776:=by rw[List.length_replicate];omega
   go_wp2_with (at_builtin;refine Av rfl _ _ 22 rfl u6 (.slice (some ⟨g,o,none⟩) 1 c1) rfl rfl (WF wr w1.heap.size _ g o c1 _ _ _ Hown0.out q0 q1 (Hq.out.kd hx.kd) hlr hsz) ?_)
   first | intro v' w5 hown U | rintro v' w5 ⟨hown,U⟩
   replace hx:=Hown0.out.from_ U hx (Nat.le_refl _);have Hown':=Ad hown;clear hown U hlr;go_wp2
   go_ret
   exact Ag.mk ⟨_,Da.base_le (CK.row Hown'.out) (Nat.zero_le _),bZ k H0.out.1,Zv k c⟩ (HW.out.trans hx)
set_option maxRecDepth 20000 in
theorem XP(v:Value)(a:Int)(n0 s:Nat)(w:World)(hv:Bq w v a)(hs:sz a.natAbs<=s)(hst:2+(n0+1)*s<=549755813888)(hn:n0<=1099511627776) :
  Bc 172 #[v,.int .i64 (n0:Nat)] w (fun r w'=>AP w' r (a^n0)):=by
 obtain⟨b1,A1,n1,c1,rfl⟩:=hv.cells;have hsz:∀ p,p<=n0+1->sz (a^p).natAbs<=549755813888:=fun p hp=>by
  have h1:=Gw a s hs p;have h2:p*s<=(n0+1)*s:=Nat.mul_le_mul_right _ hp;omega
 have HV:=Ad hv;have HS:=Ad hsz;clear hv hs hst hsz
 go_enter Tryz.func172,Tryz.ntmps172
 go_wp2_with fail
 refine AB (Kw 1 _ Aa Aa) ?_;rintro r1 w1 hr1 hx1;obtain⟨b5,A5,n5,c5,rfl⟩:=hr1.cells;have ea:=((Bh.new w 26 #[.bool b1,.slice A1 n1 c1] (by simp[Af])).alloc (.cells #[.bool false,.slice none 0 0] 26)).ext hx1;have ez:=(Bh.new (w.alloc (.cells #[.bool b1,.slice A1 n1 c1] 26)) 26 #[.bool false,.slice none 0 0] (by simp[Af])).ext hx1;rw[World.size_alloc]at ez;obtain⟨W0,eW,eb,x0⟩:=Bh.made w1 26 #[.bool b5,.slice A5 n5 c5] (by simp[Af])
 have hb:=hr1.kd x0.kd;replace ea:=ea.ext x0;replace ez:=ez.ext x0;have hgb:w.heap.size+1 < w1.heap.size:=by have:=hx1.size;simp at this;omega
 have hx:=hx1.a2.trans x0;have Hb:=Ad hb;have Ha:=Ad (HV.out.ext hx);clear hr1 hb hx1;go_wp2;rw[<-eW];clear eW x0;generalize w1.heap.size=gb at *
 go_loopw [1] (fun nv wr=>∃ (n p k:Nat) (b:Bool) (A:Option Addr) (m c:Nat),nv = .int .i64 n/\k+p*n=n0/\n<=n0/\p<=n0+1/\Bh wr w.heap.size 26 #[.bool b,.slice A m c]/\Bq wr (.agg #[.bool b,.slice A m c]) (a^p)/\Bh wr (w.heap.size+1) 26 #[.bool false,.slice none 0 0]/\Bp wr gb 26 (a^k)/\Ext w wr) (fun nv _=>(intOf nv).toNat)
 case atStart=>exact⟨n0,1,0,_,_,_,_,rfl,Aa,Aa,Aa,ea,by rw[Int.pow_one];exact Ha.out,ez,by rw[Int.pow_zero];exact Bp.mk eb Hb.out,hx⟩
 case round =>
  clear ea ez eb hx Ha Hb;obtain⟨n,p,k,b,A,m,c,rfl,hkn,hnn,hp,ea,ha,ez,⟨b6,A6,n6,c6,eb,hb⟩,hx⟩:=hrel;have Ha:=Ad ha;have Hb:=Ad hb;clear ha hb;by_cases hn0:0 < n
  ·have hq:wrap64 ((n:Int) / 2)=((n / 2:Nat):Int):=by rw[show((n:Int) / 2)=((n / 2:Nat):Int) by omega];exact IntWalk.wrap64_in _ ⟨Aa,Aa⟩
   have hkp:k<=n0+1:=by omega
   by_cases hodd:n % 2=1
   ·have hb1:(((n:Nat):Int).tmod 2==1)=true:=by rw[RB];simpa using hodd
    have hk2:k+p<=n0+1:=by
     have h3:p*1<=p*n:=Nat.mul_le_mul_left _ Aa;omega
    have cea:=ea.cells2;have fea:=ea.frozen;have ceb:=eb.cells2;have feb:=eb.frozen
    go_wp2_with fail
    refine AB (FY _ _ (a^k) (a^p) _ (Hb.out.has (by have:=HS.out k hkp;omega)) Ha.out (by have:=HS.out k hkp;omega) (by have:=HS.out p hp;omega)) ?_;rintro r2 w2 hr2 hx2;obtain⟨b7,A7,n7,c7,rfl⟩:=hr2.cells;have ha:=Ha.out.ext hx2;clear Ha Hb cea fea ceb feb;replace ea:=ea.ext hx2;replace ez:=ez.ext hx2;replace eb:=eb.ext hx2;replace hx:=hx.trans hx2;clear hx2;have ceb:=eb.cells2;have feb:=eb.frozen
    have Ha2:=Ad ha;clear ha
    go_upto_region 5 with(fail)
    have ha:=Ha2.out;obtain⟨W3,eW,eb',U⟩:=eb.put2 (.bool b7) (.slice A7 n7 c7);rw[<-eW];clear eW eb;replace hr2:=hr2.kd U.kd;replace ha:=ha.kd U.kd;replace ea:=ea.upd U Aj;replace ez:=ez.upd U Aj;replace hx:=U.from_ hx Aj;have eb:=eb';clear U eb';rw[<-Int.pow_add]at hr2;have Ha:=Ad ha;have Hb:=Ad hr2;clear ha hr2 Ha2;by_cases h2:0 < n / 2
    ·skip
     have hb2:decide ((0:Int) < ((n / 2:Nat):Int))=true:=decide_eq_true Aa;have cea:=ea.cells2;have fea:=ea.frozen
     go_wp2_with fail
     refine AB (FY _ _ (a^p) (a^p) _ Ha.out Ha.out (by have:=HS.out p hp;omega) (by have:=HS.out p hp;omega)) ?_;rintro r9 w9 hr9 hx9;obtain⟨b9,A9,n9,c9,rfl⟩:=hr9.cells;have hb9:=Hb.out.kd hx9.kd;clear cea fea;replace ea:=ea.ext hx9;replace ez:=ez.ext hx9;replace eb:=eb.ext hx9;replace hx:=hx.trans hx9;clear hx9;have cea:=ea.cells2;have fea:=ea.frozen;have Hb9:=Ad hb9;clear hb9;go_wp2;have hb9:=Hb9.out
     obtain⟨W9,eW,ea',U⟩:=ea.put2 (.bool b9) (.slice A9 n9 c9);rw[<-eW];clear eW ea;replace hr9:=hr9.kd U.kd;replace hb9:=hb9.kd U.kd;replace ez:=ez.upd U Aj;replace eb:=eb.upd U Aj;replace hx:=U.from_ hx Aj;have ea:=ea';clear U ea';have hpp:p+p<=n0+1:=by
      have h3:p*2<=p*n:=Nat.mul_le_mul_left _ Aa;omega
     have hkk:(k+p)+(p+p)*(n / 2)=n0:=by
      have e:n=2*(n / 2)+n % 2:=by omega
      rw[hodd]at e;generalize n / 2=h at *;subst e;grind
     go_roundw
     case rel=>exact⟨n / 2,p+p,(k+p),_,_,_,_,by congr 1<;>omega,hkk,Aa,hpp,ea,by rw[Int.pow_add];exact hr9.has (by rw[<-Int.pow_add];have:=HS.out (p+p) hpp;omega),ez,Bp.mk eb hb9,hx⟩
     case measure=>simp[intOf];omega
    ·skip
     have hb2:decide ((0:Int) < ((n / 2:Nat):Int))=false:=decide_eq_false Aa;have h20:n / 2=0:=by omega
     have hkk:(k+p)+p*0=n0:=by
      have e:n=2*(n / 2)+n % 2:=by omega
      rw[hodd,h20]at e;subst e;grind
     go_wp2
     go_roundw
     case rel=>exact⟨0,p,(k+p),_,_,_,_,by rw[show((n:Int) / 2)=((0:Nat):Int) by omega],hkk,Aa,hp,ea,Ha.out,ez,Bp.mk eb Hb.out,hx⟩
     case measure=>simp[intOf];omega
   ·have hb1:(((n:Nat):Int).tmod 2==1)=false:=by rw[RB];simpa using hodd
    have hev:n % 2=0:=by omega
    have h2:0 < n / 2:=by omega
    have hb2:decide ((0:Int) < ((n / 2:Nat):Int))=true:=decide_eq_true Aa;have cea:=ea.cells2;have fea:=ea.frozen
    go_wp2_with fail
    refine AB (FY _ _ (a^p) (a^p) _ Ha.out Ha.out (by have:=HS.out p hp;omega) (by have:=HS.out p hp;omega)) ?_;rintro r9 w9 hr9 hx9;obtain⟨b9,A9,n9,c9,rfl⟩:=hr9.cells;have hb9:=Hb.out.kd hx9.kd;clear cea fea;replace ea:=ea.ext hx9;replace ez:=ez.ext hx9;replace eb:=eb.ext hx9;replace hx:=hx.trans hx9;clear hx9;have cea:=ea.cells2;have fea:=ea.frozen;have Hb9:=Ad hb9;clear hb9;go_wp2;have hb9:=Hb9.out
    obtain⟨W9,eW,ea',U⟩:=ea.put2 (.bool b9) (.slice A9 n9 c9);rw[<-eW];clear eW ea;replace hr9:=hr9.kd U.kd;replace hb9:=hb9.kd U.kd;replace ez:=ez.upd U Aj;replace eb:=eb.upd U Aj;replace hx:=U.from_ hx Aj;have ea:=ea';clear U ea';have hpp:p+p<=n0+1:=by
     have h3:p*2<=p*n:=Nat.mul_le_mul_left _ Aa;omega
    have hkk:k+(p+p)*(n / 2)=n0:=by
     have e:n=2*(n / 2)+n % 2:=by omega
     rw[hev]at e;generalize n / 2=h at *;subst e;grind
    go_roundw
    case rel=>exact⟨n / 2,p+p,k,_,_,_,_,by congr 1<;>omega,hkk,Aa,hpp,ea,by rw[Int.pow_add];exact hr9.has (by rw[<-Int.pow_add];have:=HS.out (p+p) hpp;omega),ez,Bp.mk eb hb9,hx⟩
    case measure=>simp[intOf];omega
  ·obtain rfl:n=0:=by omega
   have hk0:k=n0:=by omega
   subst hk0;have cez:=ez.cells2;have fez:=ez.frozen;have ceb:=eb.cells2;have feb:=eb.frozen;have hr:=Hb.out;go_wp2;obtain⟨W3,eW,ez',U⟩:=ez.put2 (.bool b6) (.slice A6 n6 c6);rw[<-eW];clear eW ez;replace hr:=hr.kd U.kd;replace hx:=U.from_ hx Aj;have ez:=ez';clear U ez';clear cez fez;have cez:=ez.cells2;have fez:=ez.frozen;refine bodyPost_ret (v := .agg #[.bool b6,.slice A6 n6 c6]) (by simp[results,Tryz.results172,go_sem,cez]) rfl ?_
   exact Ag.mk hr hx
theorem kJ(v u:Value)(F G:Nat->Rat)(s t:Nat)(w:World)(hv:AC 0 w v F)(hu:AC 0 w u G)(hs:∀ i,qsz (F i)<=s)(ht:∀ i,qsz (G i)<=t)(hst:s+t+1<=549755813888)(hn:pl F<=549755813888)(hm:pl G<=549755813888) :
  Bc 152 #[v,u] w (fun r w'=>AC 0 w' r (pad F G)):=by
 obtain⟨l,h1,h2,-,rfl⟩:=hv.hz (fun i=>by have:=hs i;omega);obtain⟨m,k1,k2,-,rfl⟩:=hu.hz (fun i=>by have:=ht i;omega);exact Ag.imp (UN v u l m s t w h1 k1 hs ht hst Aa Aa) fun _ _ h=>h.base_le (Nat.zero_le _)
theorem jY(v u:Value)(F G:Nat->Rat)(s t:Nat)(w:World)(hv:AC 0 w v F)(hu:AC 0 w u G)(hs:∀ i,qsz (F i)<=s)(ht:∀ i,qsz (G i)<=t)(hst:s+t+2<=549755813888)(hn:pl F<=549755813888)(hm:pl G<=549755813888) :
  Bc 153 #[v,u] w (fun r w'=>AC 0 w' r (psb F G)):=by
 obtain⟨l,h1,h2,-,rfl⟩:=hv.hz (fun i=>by have:=hs i;omega);obtain⟨m,k1,k2,-,rfl⟩:=hu.hz (fun i=>by have:=ht i;omega);exact Ag.imp (ZT v u l m s t w h1 k1 hs ht hst Aa Aa) fun _ _ h=>h.base_le (Nat.zero_le _)
theorem M6(v u:Value)(F:Nat->Rat)(ca:Int)(s:Nat)(w:World)(hv:AC 0 w v F)(hu:Bq w u ca)(hs:∀ i,qsz (F i)<=s)(hst:s+qsz (ca:Rat)<=549755813888)(hn:pl F<=549755813888) :
  Bc 73 #[v,u] w (fun r w'=>AC 0 w' r (psc (ca:Rat) F)):=by
 obtain⟨l,h1,h2,-,rfl⟩:=hv.hz (fun i=>by have:=hs i;omega);exact Ag.imp (P7 v u l ca s w h1 hu hs hst Aa) fun _ _ h=>h.base_le (Nat.zero_le _)
theorem Z8(v:Value)(F:Nat->Rat)(w:World)(hv:AC 0 w v F)(hs:∀ i,qsz (F i)<=274877906944)(hn:pl F<=274877906944):Bc 71 #[v] w (fun r w'=>Di 0 w' r F):=by
 obtain⟨l,h1,h2,-,rfl⟩:=hv.hz fun i=>by have:=hs i;omega
 exact Ag.imp (kW v l w h1 hs Aa) fun _ _ h=>h.base_le (Nat.zero_le _)
theorem Ui(v u:Value)(F G:Nat->Rat)(s:Nat)(w:World)(hv:Di 0 w v F)(hu:Di 0 w u G)(h0:G≠pz)(hF:CD s F)(hG:CD s G)(hs:s<=1000000)(hn:pl F<=1000)(hm:pl G<=1000) :
  Bc 70 #[v,u] w (fun r w'=>∃ a b,r = .tuple #[a,b]/\Di 0 w' a (pq F G)/\Di 0 w' b (pr F G)):=by
 have:(pl F+2)*(s+1)<=1002*1000001:=Nat.mul_le_mul Aa Aa;exact Ag.imp (VO v u F G s s w hv hu h0 hF hG Aa Aa Aa) fun r w' ⟨a,b,e,h,k⟩=>⟨a,b,e,h.base_le (Nat.zero_le _),k.base_le (Nat.zero_le _)⟩
theorem WL(v:Value)(F:Nat->Rat)(s:Nat)(w:World)(hv:Di 0 w v F)(hF:CD s F)(hs:s<=1000000)(hn:pl F<=1000) :
  Bc 72 #[v] w (fun r w'=>Mj 0 (pl F) F r w'):=by
 obtain⟨l,h1,h2,-,rfl⟩:=hv.hs fun i=>by have:=hF.elem i;omega
 exact TG v l s w h1 Aa hF.elem hs
theorem R6(v:Value)(F:Nat->Rat)(w:World)(hv:AC 0 w v F)(hs:∀ i,qsz (F i)<=274877906944)(hn:pl F<=274877906944)(zF:ZI F)(fF:Ae F)(h0:F≠pz) :
  Bc 68 #[v] w (fun r w'=>AC 0 w' r (rd F)):=by
 obtain⟨l,h1,h2,-,rfl⟩:=hv.hz fun i=>by have:=hs i;omega
 obtain⟨A,c,rfl⟩:=h1.len;have hc:=IJ _ l w h1 (fun i=>by have:=hs i;omega) Aa;have hcz:sz ((cn (cz l):Nat):Int).natAbs<=274877906944:=by have:=G5 hs (pl (cz l));simpa[cn] using this
 have hc0:((cn (cz l):Nat):Int)≠0:=by have:=IW zF fF h0;omega
 have hov:=fun W (x:Ext w W) u (hu:Bq W u (cn (cz l):Nat))=>Qo _ u l (cn (cz l):Nat) W (h1.ext x) hu (fun i=>by have:=hs i;omega) Aa hc0 (fun i=>Ik fF i) Aa;have HC:=Ad (Ai hc (Ai hcz hov));clear hc hcz hc0 hov h1 hv hs zF fF h0 hn h2
 go_enter Tryz.func68,Tryz.ntmps68
 go_wp2_with fail
 refine AB HC.out.1 ?_;rintro r1 w1 hr1 hx1
 go_wp2_with fail
 refine AB (HC.out.2.2 _ hx1 _ (hr1.has (by have:=HC.out.2.1;omega))) ?_;rintro r2 w2 hr2 hx2;go_wp2
 go_ret
 exact Ag.mk (hr2.base_le (Nat.zero_le _)) (hx1.trans hx2)
theorem iF:(Tryz.prog.info? 22).map (fun i=>(i.zero,i.size,i.bytes))=some (some (.slice none 0 0),1,24):=by kernel_rfl
theorem WS(W:World)(v:Value)(base eb ty n c g:Nat)(A:Option Addr)(us:List Value)(l:List (Nat->Rat))(F:Nat->Rat)(h:GZ base eb 22 W v us l)(hu:AC eb W (.slice A n c) F)(hg:g=W.heap.size)(hn:l.length<=1000000)(hb:base<=W.heap.size) :
  ∃ v' w',(Builtin.append_ #[60,60] ty #[v,.slice (some ⟨g,0,none⟩) 1 1]).run Tryz.prog (W.alloc (.cells #[.slice A n c] 22)) = .ok v' w' /\
   (GZ base eb 22 w' v' (us ++ [.slice A n c]) (l ++ [F])/\Cu (blk v) (W.alloc (.cells #[.slice A n c] 22)) w'/\OP (W.alloc (.cells #[.slice A n c] 22)) v):=by
 subst hg;obtain⟨i0,hi,hz0,hz1,hz2⟩:=info_parts iF;obtain⟨v',w',a,b,U,N⟩:=GZ.append (P:=Tryz.prog) h hu 60 ty i0 _ 24 Tryz.underlying60 hi hz0 hz1 hz2 rfl (by simp[nodig,Af,Value.cells]) (by simp[SI,Value.cells]) (by simp only[maxLen];omega) Aa hb;exact⟨v',w',a,b,U,N⟩
set_option maxRecDepth 20000 in
theorem Xo(v:Value)(l:List Int)(S D M:Nat)(w:World)(hv:De 0 w v l)(h0:cz l≠pz)(hl:l.length<=1000)(hs:∀ i,qsz (cz l i)<=S)(ht:∀ i,qsz (pd (cz l) i)<=S)
  (hD:pl (cz l)+pl (pd (cz l))=D) (hM:jT (cz l) (pd (cz l)) S M) (hB:M+(D+1)*(M+1)<=1000000) (hD9:D<=900) :
  Bc 28 #[v] w (fun r w'=>∃ us K,MM (cz l) (pd (cz l)) K/\K<=pl (pd (cz l))+1/\GZ w.heap.size 0 22 w' r us (EH (cz l) (pd (cz l)) K)):=by
 have hSM:=hM.1;have hDM:(D+1)*1<=(D+1)*(M+1):=Nat.mul_le_mul_left _ Aa;have zF:=ZI.cz l;have fF:=Ae.cz l;have zG:ZI (pd (cz l)):=Dn zF;have fG:Ae (pd (cz l)):=BR fF;have hnm:=D5 v l w hv Aa;have hsg:=fun W u (hu:AC 0 W u (cz l))=>R6 u (cz l) W hu (fun i=>by have:=hs i;omega) Aa zF fF h0;have hder:=fun W (x:Ext w W)=>K4 v l S W (hv.ext x) hs Aa Aa;have hsn:∀ k N W u,mI (cz l) (pd (cz l)) M k N->pl N<=1000->N≠pz->AC 0 W u N->Bc 68 #[u] W (fun r w'=>AC 0 w' r (Ca (cz l) (pd (cz l)) (k+1))):=fun k N W u hN hn h1 hu=>by
  rw[<-hN.2.2.2];exact R6 u N W hu (fun i=>by have:=hN.2.2.1 i;omega) Aa hN.1 hN.2.1 h1
 obtain⟨F,hFe⟩:∃ F,F=cz l:=⟨_,rfl⟩
 obtain⟨G,hGe⟩:∃ G,G=pd F:=⟨_,rfl⟩
 simp only[<-hFe]at hs ht hD hM zF fF zG fG hnm hsg hder hsn h0 ⊢;simp only[<-hGe]at ht hD hM zG fG hder hsn ⊢;obtain⟨A0,c0,rfl⟩:=hv.len;have hst:∀ k,(∀ j,1<=j->j<=k->Ca F G j≠pz)->Fx F G D S (Ca F G k) (Ca F G (k+1)):=fun k h=>by rw[<-hD];exact IG fF fG zF zG hs ht k h
 have hlow:=fun k h=>ME fF fG zF zG hs ht k h;have hR0:mI F G M 0 G:=⟨zG,fG,fun i=>by have:=ht i;omega,rfl⟩
 have HX:=Ad (Ai hst (Ai hlow (Ai hM (Ai hB (Ai hD9 (Ai hD hR0))))));have HR:=Ad (Ai hnm (Ai hsg (Ai hder hsn)));clear hv zF zG fF fG hs ht hD hM hSM hDM hnm hsg hder hsn hst hlow hB hD9 hR0 h0 hFe hGe
 go_enter Tryz.func28,Tryz.ntmps28
 go_wp2_with fail
 refine AB HR.out.1 ?_;rintro r0 w0 hr0 hx0
 go_wp2_with fail
 refine AB (HR.out.2.1 _ _ (hr0.base_le (Nat.zero_le _))) ?_;rintro r1 w1 hr1 hx1;replace hx1:=hx0.trans hx1;obtain⟨A2,c2,rfl,-⟩:=hr1.shape;have hP1:=GZ.one (t:=22) (base:=w.heap.size) hr1 hx1.size;have hx:=hx1.alloc (.cells #[.slice A2 (pl (rd F)) c2] 22);have H1:=Ad hP1;clear hP1 hr1 hx1 hr0 hx0
 go_wp2_with fail
 refine AB (HR.out.2.2.1 _ hx) ?_;rintro r2 w2 hr2 hx2;have hP2:=H1.out.ext hx2;replace hx:=hx.trans hx2;replace hr2:=hr2.base_le (b:=0) (Nat.zero_le _);clear H1 hx2;go_wp2
 go_loopw [3,4] (fun ov nv wr=>∃ k us N,GZ w.heap.size 0 22 wr ov us (EH F G (k+1))/\AC 0 wr nv N/\mI F G M k N/\(∀ j,1<=j->j<=k->Ca F G j≠pz)/\Ext w wr) (fun _ nv _=>OO nv)
 case atStart=>exact⟨0,_,_,hP2,hr2,HX.out.2.2.2.2.2.2,fun j a b=>Aa,hx⟩
 case round =>
  clear hP2 hr2 hx;obtain⟨k,us,N,hP,hn,hN,hk,hx⟩:=hrel;obtain⟨L,d,rfl⟩:=hP.shape;obtain⟨A3,c3,rfl,-⟩:=hn.shape;have HK:=Ad hk;clear hk;have hf:=(HX.out.1 k HK.out).facts;have hkl:=HX.out.2.1 k HK.out;have hkk:k<=900:=by have:=HX.out;omega
  have hNl:pl N=pl (Ca F G (k+1)):=by rw[<-hN.2.2.2,jW hN.1 hN.2.1]
  by_cases h0:0 < pl N
  ·have hN0:N≠pz:=fun e=>by rw[e,BH]at h0;omega
   have hbn:Ca F G (k+1)≠pz:=fun e=>by rw[hNl,e,BH]at h0;omega
   obtain⟨fA,fB,zA,zB,hdd,qA,qB⟩:=hf;have hcl:=(HX.out.1 k HK.out).clear hbn (HX.out.2.2.1.2 k HK.out).1 (HX.out.2.2.1.2 k HK.out).2;have hall:=Km fA fB hbn;have hcx:=dL fA fB hbn;have hpr:=Eo fA fB hbn;have hnext:mI F G M (k+1) (nx (Ca F G k) (Ca F G (k+1))):=by
    refine⟨hall.1,hall.2.1,?_,?_⟩
    ·intro i
     by_cases hz:Ca F G (k+2)=pz
     ·have:nx (Ca F G k) (Ca F G (k+1))=pz:=hz
      rw[this];show qsz 0<=_;rw[GK];have:=HX.out.2.2.1.1;omega
     ·exact(HX.out.2.2.1.2 (k+1) (fun j a1 a2=>by
       rcases Nat.lt_or_ge j (k+1)with a3 | a3
       ·exact HK.out j a1 Aa
       ·obtain rfl:j=k+1:=by omega
        exact hbn)).2 i
    ·by_cases hz:nx (Ca F G k) (Ca F G (k+1))=pz
     ·rw[hz,Vs];exact hz.symm
     ·exact lJ fA fB hz
   have hNs:=HR.out.2.2.2 k N;have hpN:pl N<=1000:=by have:=HX.out.2.2.2.2.1;omega
   rw[<-Ji]at hall hcx hnext;obtain⟨X,hXe⟩:∃ X,X=Ca F G k:=⟨_,rfl⟩
   obtain⟨Y,hYe⟩:∃ Y,Y=Ca F G (k+1):=⟨_,rfl⟩
   obtain⟨Z,hZe⟩:∃ Z,Z=Ca F G (k+2):=⟨_,rfl⟩
   obtain⟨R,hRe⟩:∃ R,R=pr X Y:=⟨_,rfl⟩
   simp only[<-hXe,<-hYe,<-hZe]at hcl hall hcx hpr hkl hbn fB zB qB fA zA qA hdd hNs hNl hnext;simp only[<-hRe]at hcl hall hcx hpr;have hM9:M<=1000000:=by have:=HX.out.2.2.2.1;have:0<=(D+1)*(M+1):=Nat.zero_le _;omega
   have hplR:pl R<=1000:=by have:=Bj hpr;have:=HX.out.2.2.2.2.1;omega
   have hplXY:pl X<=1000/\pl Y<=1000:=by have:=HX.out.2.2.2.2.1;omega
   have fR:Ae R:=⟨_,hpr⟩
   have hpR:∀ i,qsz (pp (CQ (pl R) R) i)<=274877906944:=fun i=>by
    have h1:=Ey (Ep (AJ fR)) (DT (n:=pl R) fR) (fun j=>KN (n:=pl R) hcl.2.2.elem j) i;have h2:pl R*(M+(D+1)*(M+1))<=1000*1000000:=Nat.mul_le_mul hplR HX.out.2.2.2.1;have:=HX.out.2.2.2.1;omega
   have hplc:pl (pp (CQ (pl R) R))<=1000:=by
    rw[Dq (Ep (AJ fR)) (DT (n:=pl R) fR)];exact Nat.le_trans (Bj (show BA (pl R) (CQ (pl R) R)from(AJ fR).psc _)) hplR
   have hqc:qsz (KU (pl R) R)<=274877906944:=by
    have h1:=UT (AJ fR) hcl.2.2.elem;have h2:pl R*(M+(D+1)*(M+1))<=1000*1000000:=Nat.mul_le_mul hplR HX.out.2.2.2.1;have:=HX.out.2.2.2.1;omega
   have HS:=Ad (Ai (fun W u h=>hNs W u hN hpN hN0 h) (Ai hpR (Ai hplc hqc)));have HC:=Ad (Ai hcl (Ai hall (Ai hcx (Ai hM9 (Ai hplR (Ai hplXY (Ai hbn (Ai hplR (Ai hplR hnext)))))))));have HE:=Ad (Ai hXe (Ai hYe (Ai hZe (Ai hRe hNl))));have hlt:(EH F G (k+1)).length=k+1:=CL _ _ _;have HN:=Ad hn;rw[hlt]at hP ⊢;have HP:=Ad hP;clear hcl hall hcx hM9 hplR hplXY hpR hplc hpr fA fB zA zB hdd qA qB hbn hXe hYe hZe hRe hn hP hlt hNs hN hN0 hNl hnext hqc fR
   go_wp2_with fail
   refine AB (HS.out.1 _ _ HN.out) ?_;rintro r5 w5 hr5 hx5;obtain⟨A5,c5,rfl,-⟩:=hr5.shape;have HP5:=Ad (Ai (HP.out.ext hx5) hr5);have hbl:=Ad (HP.out.ext hx5).out.blk_ge;replace hx:=hx.trans hx5;clear hx5 hr5 HP HN
   go_wp2_with (at_builtin;refine Av rfl _ _ 60 rfl (.slice L (k+1) d) (.slice (some ⟨w5.heap.size,0,none⟩) 1 1) rfl rfl (WS w5 _ w.heap.size 0 _ _ _ _ _ us _ _ HP5.out.1 HP5.out.2 rfl (by rw[CL];omega) hx.size) ?_)
   intro v' w6 hP6 U hNB;have xa:=(Ext.refl w5).alloc (.cells #[.slice A5 (pl Y) c5] 22);have hP7:=hP6;rw[show EH F G (k+1) ++ [Y]=EH F G (k+1+1)from by rw[HE.out.2.1,<-RF]]at hP7;obtain⟨L2,d2,rfl⟩:=hP7.shape;have hx7:=U.from_ (hx.trans xa) (fun g' hg=>(hbl.out _ hg).1);have hlt:(EH F G (k+1+1)).length=k+2:=CL _ _ _;have hat:=hP7.at_ (i:=k) (by rw[hlt];omega);have hbt:=hP7.at_ (i:=k+1) (by rw[hlt];omega)
   rw[Uw]at hat hbt;obtain⟨g5,o5,E5,d5,rfl,hc5,h5⟩:=hat;obtain⟨g6,o6,E6,d6,e6,hc6,h6⟩:=hbt;cases e6;rw[<-HE.out.1]at hc5 h5;rw[<-HE.out.2.1]at hc6 h6;have H7:=Ad (Ai hP7 (Ai h5 h6));rw[hlt];clear hP6 hP7 h5 h6 U hNB xa hx HP5 hbl hlt
   go_upto_region 6 with(fail)
   go_cut [6,7] (fun qv rv wx=>Di 0 wx qv (pq X Y)/\Di 0 wx rv (pr X Y)/\Ext w6 wx)
   case first =>
    refine Bu 16 [15] (fun x=>17) [27,28,29,30,31,32,33,34,35,36,37,38,39,26,40,41] [[],[],[1],[0,1,2],[0,1,2,3],[0,1,2,3,4],[],[],[7],[6,7,8],[6,7,8,9],[0,1,2,3,4,5,6,7,8,9,10],[0,1,2,3,4,5,6,7,8,9,10,11],[0,1,2,3,4,5,6,7,8,9,10,11,12],[0,1,2,3,4,5,6,7,8,9,10,11,12,13],[0,1,2,3,4,5,6,7,8,9,10,11,12,13],[0,1,2,3,4,5,6,7,8,9,10,11,12,13,14],[0,1,2,3,4,5,6,7,8,9,10,11,12,13,14,15,16]] [3,5] [_,_] [(kv ?_),(kv ?_),(kv ?_),(kv ?_),(kv ?_),(fun γ=>γ 5),(kv ?_),(kv ?_),(kv ?_),(kv ?_),(kv ?_),(fun γ=>γ 11),(fun γ=>γ 12),(fun γ=>γ 12),(fun γ=>γ 14),(fun γ=>γ 15)] (fun γ w'=>[True,True,True,True,True,Di 0 w' (γ 5) X,True,True,True,True,True,Di 0 w' (γ 11) Y,Lg w' (γ 12) (pq X Y) (pr X Y),True,Di 0 w' (γ 14) (pq X Y),Di 0 w' (γ 15) (pr X Y)]) Ko BP BP BP BP BP LJ BP Ka ?m1 ?s1 ?_ ?l1
    case s1 =>
     iterate 16 refine⟨?_,?_⟩
     trivial
     iterate 5 focus
      refine AY fun _ w' he R hR=>?_;have hc:=he.cells;have cq0:=he.cell hc5;have cq1:=he.cell hc6;go_simp;(try go_ints);(try(rw[if_neg Aa]));(try(rw[if_pos Aa]));(try go_simp);(try go_ints)
      exact Br hR
     ·refine AY fun _ w' he R hR=>?_
      go_simp;exact Bf (F:=fun r w''=>Di 0 w'' (r) X) (Z8 _ X w' (H7.out.2.1.ext he) (fun i=>by have:=HC.out.1.1.elem i;have:=HC.out.2.2.2.1;omega) (by have:=HC.out.2.2.2.2.2.1;omega)) hR
     iterate 5 focus
      refine AY fun _ w' he R hR=>?_;have hc:=he.cells;have cq0:=he.cell hc5;have cq1:=he.cell hc6;go_simp;(try go_ints);(try(rw[if_neg Aa]));(try(rw[if_pos Aa]));(try go_simp);(try go_ints)
      exact Br hR
     ·refine AY fun _ w' he R hR=>?_
      go_simp;exact Bf (F:=fun r w''=>Di 0 w'' (r) Y) (Z8 _ Y w' (H7.out.2.2.ext he) (fun i=>by have:=HC.out.1.2.1.elem i;have:=HC.out.2.2.2.1;omega) (by have:=HC.out.2.2.2.2.2.1;omega)) hR
     ·refine EF fun γ w' he hf R hR=>?_;have f5:Di 0 w' (γ 5) X:=hf 5 Ab;have f11:Di 0 w' (γ 11) Y:=hf 11 Ab;clear hf
      go_simp;exact Bf (Ui _ _ X Y M w' f5 f11 HC.out.2.2.2.2.2.2.1 HC.out.1.1 HC.out.1.2.1 HC.out.2.2.2.1 HC.out.2.2.2.2.2.1.1 HC.out.2.2.2.2.2.1.2) hR
     ·refine AY fun _ w' he R hR=>?_
      have hc:=he.cells;go_simp
      (try go_ints);(try(rw[if_neg Aa]));(try(rw[if_pos Aa]));(try go_simp);(try go_ints)
      exact Br hR
     ·refine EF fun γ w' he hf R hR=>?_;have f12:Lg w' (γ 12) (pq X Y) (pr X Y):=hf 12 Ab;clear hf
      obtain⟨q',r',e,ha,hb⟩:=f12;go_simp;exact hR _ _ (Ext.refl _) rfl ha
     ·refine EF fun γ w' he hf R hR=>?_;have f12:Lg w' (γ 12) (pq X Y) (pr X Y):=hf 12 Ab;clear hf
      obtain⟨q',r',e,ha,hb⟩:=f12;go_simp;exact hR _ _ (Ext.refl _) rfl hb
    case m1 =>
     exact⟨⟨⟨⟨⟨⟨⟨⟨⟨⟨⟨⟨⟨⟨⟨⟨trivial,(fun γ wA w' e h=>h)⟩,(fun γ wA w' e h=>h)⟩,(fun γ wA w' e h=>h)⟩,(fun γ wA w' e h=>h)⟩,(fun γ wA w' e h=>h)⟩,(fun γ wA w' e h=>(show Di 0 wA (γ 5) X from h).ext e)⟩,(fun γ wA w' e h=>h)⟩,(fun γ wA w' e h=>h)⟩,(fun γ wA w' e h=>h)⟩,(fun γ wA w' e h=>h)⟩,(fun γ wA w' e h=>h)⟩,(fun γ wA w' e h=>(show Di 0 wA (γ 11) Y from h).ext e)⟩,(fun γ wA w' e h=>(show Lg wA (γ 12) (pq X Y) (pr X Y)from h).ext e)⟩,(fun γ wA w' e h=>h)⟩,(fun γ w w' e h=>Di.ext h e)⟩,(fun γ w w' e h=>Di.ext h e)⟩
    case l1 =>
     intro Pn hPs hPn;obtain rfl:=Gr hPs hPn;clear hPs hPn
     ·intro γ w8 hx8 hF hA
      clear hA;have p5:Di 0 w8 (γ 5) X:=(Ak.get hF 5 Ab).resolve_left Ab;have p11:Di 0 w8 (γ 11) Y:=(Ak.get hF 11 Ab).resolve_left Ab;have p12:Lg w8 (γ 12) (pq X Y) (pr X Y):=(Ak.get hF 12 Ab).resolve_left Ab;have p14:Di 0 w8 (γ 14) (pq X Y):=(Ak.get hF 14 Ab).resolve_left Ab;clear hF;show AV _ _ _ _ 3 [15] 16 _ _;simp only[Bg,Nat.reduceAdd,Co,SN];generalize γ 5=g5 at *;generalize γ 11=g11 at *;generalize γ 12=g12 at *
      generalize γ 14=g14 at *;clear γ;obtain⟨q12,r12,rfl,hq12,hr12⟩:=p12;clear hc5 hc6 p5 p11
      repeat' first
       | (refine AV.nil ?_;simp only[Gj];go_wp2;done)
       | (refine AV.nil ?_;(try simp only[Gj]);go_wp2)
       | (refine AV.mk _ ⟨?_,trivial⟩ (fun h=>?_)<;>first | exact absurd h Ab | ((try clear h);simp only[CX,Gj];go_wp2;first | show AV _ _ _ _ _ [15] _ _ _ | show AV _ _ _ _ _ [] _ _ _))
      all_goals
       first | (go_meet;case rel=>exact⟨p14,p15,hx8⟩) | (go_meet;case rel=>exact⟨p14,hr12,hx8⟩)
    intro γ w8 hx8 hF hA;clear hA;have p5:Di 0 w8 (γ 5) X:=Ak.get hF 5 Ab;have p11:Di 0 w8 (γ 11) Y:=Ak.get hF 11 Ab;have p12:Lg w8 (γ 12) (pq X Y) (pr X Y):=Ak.get hF 12 Ab;have p14:Di 0 w8 (γ 14) (pq X Y):=Ak.get hF 14 Ab;have p15:Di 0 w8 (γ 15) (pr X Y):=Ak.get hF 15 Ab;clear hF;simp only[Bg,Nat.reduceAdd];generalize γ 5=g5 at *;generalize γ 11=g11 at *;generalize γ 12=g12 at *;generalize γ 14=g14 at *
    generalize γ 15=g15 at *;clear γ;obtain⟨q12,r12,rfl,hq12,hr12⟩:=p12;clear hc5 hc6 p5 p11;go_wp2
    first | (go_meet;case rel=>exact⟨p14,p15,hx8⟩) | (go_meet;case rel=>exact⟨p14,hr12,hx8⟩)
   case rest =>
   clear hc5 hc6;obtain⟨hq10,hr10,hx8⟩:=hcut;obtain⟨Aq,cq,_,rfl,-⟩:=hq10.form;obtain⟨Ar,cr,_,rfl,-⟩:=hr10.form;have H9:=Ad (H7.out.1.ext hx8);replace hx7:=hx7.trans hx8;have hx10:=Ext.refl wc;have H9:=Ad (Ai H9.out True.intro);clear hx8 H7;rw[<-HE.out.2.2.2.1]at hr10 ⊢;have H10:=Ad (Ai (H9.out.1.ext hx10) hr10);replace hx7:=hx7.trans hx10;clear hx10 hr10 hq10 H9
   go_wp2_with fail
   refine AB (WL _ R (M+(D+1)*(M+1)) _ H10.out.2 HC.out.1.2.2 HX.out.2.2.2.1 HC.out.2.2.2.2.1) ?_;rintro r11 w11 ⟨pv,cv,rfl,hp11,hc11⟩ hx11;obtain⟨Ap,cp,rfl,-⟩:=hp11.shape;obtain⟨b5,B5,n5,e5,b6,B6,n6,e6,rfl⟩:=hc11.cells;obtain⟨W12,eW,ec,x12⟩:=Bh.made w11 28 #[.bool b5,.slice B5 n5 e5,.bool b6,.slice B6 n6 e6] (by simp[Af]);have H12:=Ad (Ai ((H10.out.1.ext hx11).ext x12) (Ai (hp11.ext x12) (hc11.ext x12)))
   replace hx7:=(hx7.trans hx11).trans x12;clear hx11 hp11 hc11 x12 H10
   go_upto_region 8 with(fail)
   rw[<-eW];clear eW;generalize w11.heap.size=gc at *;have cec:=ec.cells4;have fec:=ec.frozen;have hcx:=HC.out.2.2.1
   go_wp2_with fail
   refine AB (Jy _ (KU (pl R) R) _ (H12.out.2.2.has HS.out.2.2.2)) ?_;rintro r13 w13 rfl hx13;replace hx7:=hx7.trans hx13;have H13a:=Ad (Ai (H12.out.1.ext hx13) (H12.out.2.1.ext hx13));clear hx13 H12 cec fec ec;by_cases hc:0 < KU (pl R) R
   ·rw[PS hc]
    rw[if_pos hc]at hcx;have HCX:=Ad hcx;clear hcx hc
    go_wp2_with fail
    refine AB (Kw (-1) _ Aa Aa) ?_;rintro r14 w14 hr14 hx14;have H14:=Ad (Ai (H13a.out.1.ext hx14) (H13a.out.2.ext hx14));replace hx7:=hx7.trans hx14;clear hx14 H13a
    go_wp2_with fail
    refine AB (M6 _ _ _ (-1) 274877906944 _ H14.out.2 (hr14.has Ab) HS.out.2.1 (by decide +kernel) (by have:=HS.out.2.2.1;omega)) ?_;rintro r15 w15 hr15 hx15;replace hr15:=hr15.cast (show psc (((-1:Int):Rat)) (pp (CQ (pl R) R))=Z from by rw[HCX.out];rfl);obtain⟨A15,c15,rfl,-⟩:=hr15.shape;have H13:=Ad (Ai (H14.out.1.ext hx15) hr15);replace hx7:=hx7.trans hx15;clear hx15 H14 hr15 hr14 HCX;go_wp2
    go_roundw
    case rel=>exact⟨k+1,_,Z,(by have:=H13.out.1;rw[CL]at this;exact this),H13.out.2,HC.out.2.2.2.2.2.2.2.2.2,fun j a1 a2=>by
     rcases Nat.lt_or_ge j (k+1)with a3 | a3
     ·exact HK.out j a1 Aa
     ·obtain rfl:j=k+1:=by omega
      rw[<-HE.out.2.1];exact HC.out.2.2.2.2.2.2.1,hx7⟩
    case measure =>
     have h1:=HC.out.2.1.2.2.2.1;have h2:=HE.out.2.2.2.2;simp only[OO];omega
   ·have hsg:=Z4 hc
    have hdec:decide (0 < GJ (KU (pl R) R))=false:=decide_eq_false Aa;rw[if_neg hc,Cq]at hcx;have hr15:=H13a.out.2;rw[<-hcx]at hr15 ⊢;have H13:=Ad (Ai H13a.out.1 hr15);clear hcx hc H13a hr15;go_wp2
    go_roundw
    case rel=>exact⟨k+1,_,Z,(by have:=H13.out.1;rw[CL]at this;exact this),H13.out.2,HC.out.2.2.2.2.2.2.2.2.2,fun j a1 a2=>by
     rcases Nat.lt_or_ge j (k+1)with a3 | a3
     ·exact HK.out j a1 Aa
     ·obtain rfl:j=k+1:=by omega
      rw[<-HE.out.2.1];exact HC.out.2.2.2.2.2.2.1,hx7⟩
    case measure =>
     have h1:=HC.out.2.1.2.2.2.1;have h2:=HE.out.2.2.2.2;simp only[OO];omega
  ·have hz:Ca F G (k+1)=pz:=(Bt hf.2.1).1 Aa
   have hS:MM F G (k+1):=⟨Aa,hz,fun j a b=>HK.out j a Aa⟩
   have HS:=Ad hS;clear hS hz hf;have HP:=Ad hP;clear hP hN hn;have hlt:(EH F G (k+1)).length=k+1:=CL _ _ _;go_wp2
   go_ret
   exact Ag.mk ⟨us,k+1,HS.out,Aa,HP.out⟩ hx
theorem j6(v:Value)(x:Int)(w:World)(hv:Bq w v x):Bc 162 #[v] w (fun r w'=>AP w' r (x.natAbs:Nat)):=by
 obtain⟨neg,A,n,c,N,rfl,h1,h2,h3,hN,hx⟩:=hv.form;have HN:=Ad hN;clear hN hv;have Hx:=Ad (show((x.natAbs:Nat):Int)=if false=true then -(N:Int)else N by rw[hx];cases neg<;>simp);clear hx;have hs:sz N<=n:=HN.out.sz
 go_enter Tryz.func162,Tryz.ntmps162
 go_wp2_with fail
 refine AB (BN _ N n _ (HN.out.ext (((Ext.refl w).alloc _).alloc _))) ?_;rintro r1 w1 p5 hx1
 go_wp2_with fail
 refine AB (JB _ N _ p5 Aa) ?_;rintro r2 w2 p6 hx2;replace hx1:=hx1.trans hx2
 go_wp2_with fail
 refine AB (CJ (x.natAbs:Nat) false _ N _ w2 Hx.out (p6.num (Nat.le_refl _))) ?_;rintro r3 w3 hr hx3;replace hx1:=hx1.trans hx3;obtain⟨b5,A5,n5,c5,rfl⟩:=hr.cells;have hc1:=hx1.cells;have hf1:=hx1.frozens;have Hfin:=Ad (Ck hr hx1.a2 (AU.at_ hx1 (g:=w.heap.size+1) Ac (by simp[Af])) Aa);clear hr;go_wp2;refine bodyPost_ret (v := .agg #[.bool b5,.slice A5 n5 c5]) (by simp[results,Tryz.results162,go_sem,hc1]) rfl ?_
 exact Hfin.out
open Go.Shelf
attribute [local go_sem] Oper.semAt_some
set_option maxRecDepth 100000 in
theorem X7(F:Fence)(n:Nat)(h7:F.fn 171)(hro:F.round=none)(hn:1<=n)(l Bs n₀ b off len cap:Nat)(enc:Fin len->Value)(hreach:len*4<=1099511627776)(hb:b < n₀)(J Jx:List (Fin len)->World->Prop)
  (hY:∀ pre x W,J pre W->pre.length < len->YieldAt F (n - 1) Tryz.prog l #[.int .i64 (x.1:Nat),enc x] W fun e W' =>
   (e = .returned (.bool true)/\J (pre ++ [x]) W'/\Xd n₀ Bs W W')\/(e = .returned (.bool false)/\Jx (pre ++ [x]) W'))
  (W:World) (hBs:W.cell? ⟨Bs,0,none⟩=some (.slice (some ⟨b,off,none⟩) len cap)) (hc:∀ j (hj:j < len),G9 W b (off+j*2) (enc ⟨j,hj⟩)) (h0:J [] W) :
  CallsIn F n Tryz.prog 171 #[.func (.yield l) #[] #[],.pointer (some ⟨Bs,0,none⟩)] W fun e W'=>(∃ v,e = .returned v) /\
   ((∃ ys,ys=dz len len (Nat.le_refl _)/\J ys W')\/(∃ pre,(∃ k,∃ h:k<=len,pre=dz len k h)/\Jx pre W')):=by
 refine callsIn_of_wp Tryz.func171 rfl h7 ?_ hro;simp only[Tryz.ntmps171,List.size_toArray,List.length_cons,List.length_nil,Nat.reduceAdd,Nat.reduceSub,Array.replicate_succ,Array.replicate_zero,List.push_toArray,List.append_toArray,List.nil_append,List.cons_append]
 gi_wp2
 gi_loopw [3] (fun i wr=>∃ (k:Nat) (hk:k<=len),i = .int .i64 ((len:Int) - 1 - k)/\J (dz len k hk) wr/\Xd n₀ Bs W wr)
  (fun i _=>(intOf i+1).toNat)
 case atStart=>exact⟨0,Nat.zero_le _,by go_num,h0,Xd.refl _ _ _⟩
 case round =>
  obtain⟨k,hk,rfl,hJs,hnx⟩:=hrel;by_cases hlt:k < len
  ·obtain⟨b1,A1,n1,c1,hv,q0,q1⟩:=(hc (len - 1 - k) Aa).below hnx.1 hb
   have hbx:=hnx.2 _ hBs;obtain⟨fn,tmps,assign,body,hy,hR⟩:=hY _ ⟨len - 1 - k,Aa⟩ wr hJs (by rw[WU];exact hlt)
   dsimp only at hy
   rw[hv]at hy;obtain⟨m,hm⟩:∃ m,m=len - 1 - k:=⟨_,rfl⟩
   have hmi:(len:Int) - 1 - k=(m:Int):=by omega
   have hml:m < len:=by omega
   simp only[<-hm]at hy q0 q1;rw[hmi];clear hJs hY h0 hc;have Hm:=Ad (Ai hm hmi);clear hm hmi
   gi_wp2
   refine hR.mono ?_;rintro e W3 (⟨rfl,hJ3,hk3⟩ | ⟨rfl,hJx3⟩)
   ·gi_wp2
    go_roundw
    case rel=>exact⟨k+1,Aa,by have:=Hm.out.2;congr 1;omega,by rw[Qk];exact hJ3,hnx.trans hk3⟩
    case measure=>simp[intOf]
   ·gi_wp2
    refine bodyPost_ret (results_none rfl _ _ _) rfl ?_;exact⟨⟨_,rfl⟩,.inr ⟨_,⟨k+1,Aa,(Qk Aa).symm⟩,hJx3⟩⟩
  ·obtain rfl:k=len:=by omega
   gi_wp2
   go_end0
   exact⟨⟨_,rfl⟩,.inl ⟨_,rfl,hJs⟩⟩
set_option maxRecDepth 100000 in
theorem Ot(F:Fence)(n:Nat)(h7:F.fn 171)(hro:F.round=none)(l Bs cap:Nat)(A:Option Addr)(J:List (Fin 0)->World->Prop)(W:World)(hBs:W.cell? ⟨Bs,0,none⟩=some (.slice A 0 cap))(h0:J [] W) :
  CallsIn F n Tryz.prog 171 #[.func (.yield l) #[] #[],.pointer (some ⟨Bs,0,none⟩)] W fun e W'=>(∃ v,e = .returned v)/\J [] W':=by
 refine callsIn_of_wp Tryz.func171 rfl h7 ?_ hro;simp only[Tryz.ntmps171,List.size_toArray,List.length_cons,List.length_nil,Nat.reduceAdd,Nat.reduceSub,Array.replicate_succ,Array.replicate_zero,List.push_toArray,List.append_toArray,List.nil_append,List.cons_append]
 gi_wp2
 gi_loopw [3] (fun i wr=>i = .int .i64 (-1)/\J [] wr) (fun _ _=>0)
 case atStart=>exact⟨rfl,h0⟩
 case round =>
  obtain⟨rfl,hJs⟩:=hrel
  gi_wp2
  go_end0
  exact⟨⟨_,rfl⟩,hJs⟩
/-- slices.Backward(s): the slice is boxed;the function captures the box. -/
theorem Yi(F:Fence)(n:Nat)(h5:F.fn 139)(hro:F.round=none)(a:Option Addr)(len cap:Nat)(w:World) :
  CallsIn F n Tryz.prog 139 #[.slice a len cap] w fun e w'=>e = .returned (.func (.func 171) #[] #[.pointer (some ⟨w.heap.size,0,none⟩)])/\w'=w.alloc (.cells #[.slice a len cap] 23):=by
 refine callsIn_of_wp Tryz.func139 rfl h5 ?_ hro;simp only[Tryz.ntmps139,List.size_toArray,List.length_cons,List.length_nil,Nat.reduceAdd,Nat.reduceSub,Array.replicate_succ,Array.replicate_zero,List.push_toArray,List.append_toArray,List.nil_append,List.cons_append]
 gi_wp2
 go_ret
 exact⟨rfl,rfl⟩
theorem Si(F:Fence)(n:Nat)(h7:F.fn 171)(hro:F.round=none)(hn:1<=n)(Bs n₀ len cap:Nat)(A:Option Addr)(enc:Fin len->Value)(hreach:len*4<=1099511627776)(w:World)(hBs:Bs < w.heap.size)(hn₀:n₀<=w.heap.size)
  (hc:w.cell? ⟨Bs,0,none⟩=some (.slice A len cap)) (hI:0 < len->∃ b off,A=some ⟨b,off,none⟩/\b < n₀/\∀ j (hj:j < len),G9 w b (off+j*2) (enc ⟨j,hj⟩)) :
  SeqStopsK F n Tryz.prog 171 #[.pointer (some ⟨Bs,0,none⟩)] (fun x:Fin len=>#[Value.int .i64 (x.1:Nat),enc x]) (Xd n₀ Bs) (fun ys=>ys=dz len len (Nat.le_refl _)) (fun pre=>∃ k,∃ h:k<=len,pre=dz len k h) len w:=fun l J Jx W hW _ _ hY h0=>by
 have hc':=(hW.cell (p:=⟨Bs,0,none⟩) hBs).trans hc;by_cases hl:0 < len
 ·obtain⟨b,off,rfl,hb,hcs⟩:=hI hl
  exact X7 F n h7 hro hn l Bs n₀ b off len cap enc hreach hb J Jx hY W hc' (fun j hj=>(hcs j hj).below (hW.mono hn₀) hb) h0
 ·obtain rfl:len=0:=by omega
  exact(Ot F n h7 hro l Bs cap A J W hc' h0).mono fun e W' ⟨he,hj⟩=>⟨he,.inl ⟨_,rfl,hj⟩⟩
end Go.Proofs.YtmhgnigpmompmaaGreat
namespace Go.Proofs.YtmhgnigpmompmaaGreat
open Go.RowKit Go.Hp Go.Shelf
attribute [local go_sem] Oper.semAt_some
set_option maxRecDepth 100000 in
theorem ZK(v u:Value)(l:List Int)(x:Rat)(s t:Nat)(w:World)(hv:De 0 w v l)(hu:BC w u x)(hs:∀ i,qsz (cz l i)<=s)(ht:qsz x<=t)(hK:1+l.length*(s+t+1)+s+t+1<=274877906944)(hn:l.length<=2748779069) :
  Bc 90 #[v,u] w (fun r w'=>Bz w' r (CZ l.length (cz l) x)):=by
 have HU:=Ad hu;obtain⟨b1,A1,n1,c1,b1',A1',n1',c1',x0,y0,rfl,-⟩:=hu.form;obtain⟨A,c,rfl,hl,hc,hA⟩:=hv;clear hu;have HA:Hid (GL 0 w A l):=Ad hA;clear hA;have HS:=Ad (Ai hs ht);clear hs ht;refine(callsIn_wide (n:=5)).1 ?_;refine callsIn_of_wp_marks Tryz.func90 rfl trivial ?_ rfl;simp only[Tryz.ntmps90,List.size_toArray,List.length_cons,List.length_nil,Nat.reduceAdd,Nat.reduceSub,Array.replicate_succ,Array.replicate_zero,List.push_toArray,List.append_toArray,List.nil_append,List.cons_append]
 gi_wp2_with (refine⟨trivial,?_⟩;gi_at_call 120;refine(callsIn_wide.2 (XF 0 _ Aa Aa)).mono ?_;rintro e w1 ⟨r1,rfl,hr1,hx1⟩;obtain⟨b5,A5,n5,c5,b6,A6,n6,c6,rfl⟩:=hr1.cells)
 obtain⟨W9,eW9,e9,x9⟩:=Bh.made w1 28 #[.bool b5,.slice A5 n5 c5,.bool b6,.slice A6 n6 c6] (by simp[Af]);rw[<-eW9];clear eW9;have hgb:w.heap.size+1+1<=w1.heap.size:=by have:=hx1.size;simpa using this
 have eb:=DL.mk e9 (hr1.ext x9);replace hx1:=hx1.trans x9;clear x9 hr1 e9;generalize w1.heap.size=gb at *;refine⟨trivial,?_⟩
 gi_at_call 139
 refine(Yi _ _ trivial rfl _ _ _ _).mono ?_;rintro e w2 ⟨rfl,rfl⟩
 gi_wp2
 obtain⟨WA,hWA⟩:∃ WA,(w.alloc (.cells #[.bool b1,.slice A1 n1 c1,.bool b1',.slice A1' n1' c1'] 28)).alloc (.cells #[.bool false,.slice none 0 0,.bool false,.slice none 0 0] 28)=WA:=⟨_,rfl⟩
 have hAsz:WA.heap.size=w.heap.size+2:=by rw[<-hWA];simp
 have eu:Bh WA w.heap.size 28 #[.bool b1,.slice A1 n1 c1,.bool b1',.slice A1' n1' c1']:=by rw[<-hWA];exact(Bh.new w _ _ (by simp[Af])).alloc _
 have ez:Bh WA (w.heap.size+1) 28 #[.bool false,.slice none 0 0,.bool false,.slice none 0 0]:=by
  have:=Bh.new (w.alloc (.cells #[.bool b1,.slice A1 n1 c1,.bool b1',.slice A1' n1' c1'] 28)) 28 #[.bool false,.slice none 0 0,.bool false,.slice none 0 0] (by simp[Af]);rw[World.size_alloc]at this;rw[<-hWA];exact this
 rw[hWA]at hx1;have hwA:Ext w WA:=by rw[<-hWA];exact((Below.refl w.heap.size w).alloc (Nat.le_refl _) _).alloc Ac _
 clear hWA;have hgW:gb < W9.heap.size:=eb.lt;obtain⟨enc,hE,hcs⟩:∃ enc:Fin l.length->Value,(∀ j,Bq w (enc j) l[j.1])/\(0 < l.length->∃ b off,A=some ⟨b,off,none⟩/\b < WA.heap.size/\∀ j (hj:j < l.length),G9 (W9.alloc (.cells #[.slice A l.length c] 23)) b (off+j*2) (enc ⟨j,hj⟩)):=by
  have key:∀ j:Fin l.length,∃ e:Value,Bq w e l[j.1]/\∃ b off,A=some ⟨b,off,none⟩/\b < w.heap.size/\G9 (W9.alloc (.cells #[.slice A l.length c] 23)) b (off+j.1*2) e:=by
   rintro⟨j,hj⟩;obtain⟨g,o,b,A2,n,c2,rfl,_,q0,q1,hq⟩:=HA.out.at_ (j:=j) hj;have X:=hwA.trans (hx1.alloc (.cells #[.slice (some ⟨g,o,none⟩) l.length c] 23));exact⟨_,hq,g,o,rfl,World.block_lt_of_cell? w _ q0,_,_,_,_,rfl,X.cell q0,X.cell q1⟩
  refine⟨fun j=>Classical.choose (key j),fun j=>(Classical.choose_spec (key j)).1,fun h0=>?_⟩;obtain⟨-,b,off,e1,e2,-⟩:=Classical.choose_spec (key ⟨0,h0⟩);refine⟨b,off,e1,Aa,fun j hj=>?_⟩;obtain⟨-,b',off',e1',-,e3⟩:=Classical.choose_spec (key ⟨j,hj⟩);rw[e1]at e1';cases e1';exact e3
 have HE:=Ad hE;clear hE;obtain⟨W2,hW2⟩:∃ W2,W9.alloc (.cells #[.slice A l.length c] 23)=W2:=⟨_,rfl⟩
 have h2sz:W2.heap.size=W9.heap.size+1:=by rw[<-hW2];simp
 have hb2:W2.cell? ⟨W9.heap.size,0,none⟩=some (.slice A l.length c):=by rw[<-hW2];exact(Boxed.new W9 _ _).cell
 have eb2:DL W2 gb 28 ((0:Int):Rat):=by
  rw[<-hW2];obtain⟨b,A1,n,c,b',A1',n',c',h1,h2⟩:=eb;exact DL.mk (h1.alloc _) (h2.ext ((Below.refl _ W9).alloc (Nat.le_refl _) _))
 have hx2:Ext WA W2:=by rw[<-hW2];exact hx1.alloc _
 rw[hW2]at hcs ⊢;clear hW2 eb hx1;refine wpIn_rangeFunc_ownH rfl Aa (gf:=171) (lb:=#[.pointer (some ⟨W9.heap.size,0,none⟩)]) rfl trivial (enters_of Tryz.func171 EQ rfl)
  (Si _ _ trivial rfl Aa W9.heap.size WA.heap.size l.length c A enc Aa W2 Aa hx2.size hb2 hcs) Xd.trans (kE hx2.size) (Below.refl _ _) (fun _=>rfl)
  (fun pre W=>DL W gb 28 (hac (cz l) x pre)/\Below WA.heap.size WA W)
  (fun _ _ _=>False)
  (fun pre A B row hs hg hr=>⟨hs.1.own hg (fun r e=>(hr r e).2),ownFrom_below (β:=Unit) (Nat.le_refl _) hx2.size () A B row hs.2 hg hr⟩)
  (fun _ _ _ _ _ hs _ _=>hs)
  ⟨eb2,hx2⟩
  (fun p a' W=>∃ Bx b A2 n2 c2,enc p = .agg #[.bool b,.slice A2 n2 c2]/\Bh W Bx 26 #[.bool b,.slice A2 n2 c2]/\a'={ tmps:=#[.slice A l.length c,.agg #[.bool b1,.slice A1 n1 c1,.bool b1',.slice A1' n1' c1'],undef,.pointer (some ⟨w.heap.size,0,none⟩),.pointer (some ⟨w.heap.size+1,0,none⟩),.pointer (some ⟨gb,0,none⟩),undef,.pointer (some ⟨Bx,0,none⟩),.agg #[.bool b5,.slice A5 n5 c5,.bool b6,.slice A6 n6 c6],.slice A l.length c,.func (.func 171) #[] #[.pointer (some ⟨W9.heap.size,0,none⟩)],.int .i64 (p.1:Nat),.agg #[.bool b,.slice A2 n2 c2],undef,undef,undef,undef,undef,undef,undef],defers:=[] })
  (fun p a' _ X Y row hs hg hr=>by obtain⟨Bx,b,A2,n2,c2,k2,k3,k4⟩:=hs;exact⟨Bx,b,A2,n2,c2,k2,k3.own hg (fun r e=>(hr r e).2),k4⟩)
  ?assign ?body ?done ?stop
 case assign =>
  rintro lp pre p W K ⟨hi,hB⟩ hK;obtain⟨b,A2,n2,c2,hpv⟩:=(HE.out p).cells;have HK:=Ad hK;clear hK;have HI:=Ad (Ai hi hB);clear hi
  gi_wp2
  obtain⟨W9,eW9,e9,x9⟩:=Bh.made W 26 #[.bool b,.slice A2 n2 c2] (by simp[Af]);rw[<-eW9];refine HK.out _ _ ⟨x9.size,fun k o _ h0 _=>x9.blk h0⟩ ⟨x9.mono hB.size,fun v h=>x9.cell h⟩ ⟨HI.out.1.ext x9,hB.trans (x9.mono hB.size)⟩ ⟨W.heap.size,b,A2,n2,c2,hpv,e9,rfl⟩
 case body =>
  rintro lp pre p a' W hl0 ⟨r,hr⟩ ⟨hi,hB⟩ ⟨Bx,b,A2,n2,c2,k2,k3,rfl⟩ hlt;have HQ:=Ad (show Bq w (.agg #[.bool b,.slice A2 n2 c2]) l[p.1]from k2▸HE.out p);have HPl:=Ad (show((l[p.1]:Int):Rat)=cz l p.1 from by rw[Cn p.2]);have HR:=Ad (show qsz (hac (cz l) x pre)<=274877906944/\qsz (hac (cz l) x pre*x)<=274877906944/\qsz (cz l p.1) < 274877906944 by
   have h1:=ZJ HS.out.1 HS.out.2 pre;have h2:=BS (hac (cz l) x pre) x;have h3:=HS.out.2;have h4:=HS.out.1 p.1;have h5:pre.length*(s+t+1)<=l.length*(s+t+1):=Nat.mul_le_mul_right _ Aa;omega)
  obtain⟨z1,Z1,zn,zc,z2,Z2,zn',zc',eg,hz⟩:=hi;have Hz:=Ad hz;clear hz;have hB':Ext WA W:=hB;have euW:=eu.ext hB';obtain⟨g0,g1,g2,g3⟩:=eg.cells4;obtain⟨u0,u1,u2,u3⟩:=euW.cells4;obtain⟨e0,e1⟩:=k3.cells2;have fg:=eg.frozen
  gi_wp2
  have hmx:Tryz.prog.follows .mixedOrders=true:=by kernel_rfl
  have xd:Ext W W.drew:=Below.drew (Below.refl _ W);have xA:=(hwA.trans hB').trans xd;have hm1:=(Hz.out.ext xd).has HR.out.1;have hm2:=HU.out.ext xA;have hm3:=HQ.out.ext xA;have Hm:=Ad (Ai hm1 (Ai hm2 hm3));clear hm1 hm2 hm3
  gi_region_with_o (first | (refine⟨trivial,?_⟩;gi_at_call 140;refine(CallsIn.inRound lp (callsIn_wide.2 (Z6 _ _ (hac (cz l) x pre) x _ Hm.out.1 Hm.out.2.1))).mono ?_;rintro e w5 ⟨r5,rfl,hr5,hx5⟩;obtain⟨b7,A7,n7,c7,b8,A8,n8,c8,rfl⟩:=hr5.cells;have v0:=(xd.trans hx5).cell e0;have v1:=(xd.trans hx5).cell e1;have HmA:=Ad (Hm.out.2.2.ext hx5);have Hr5:=Ad hr5;clear hr5) | (refine⟨trivial,?_⟩;gi_at_call 102;refine(CallsIn.inRound lp (callsIn_wide.2 (Iy _ _ _ HmA.out))).mono ?_;rintro e w4 ⟨r4,rfl,hr4,hx4⟩;obtain⟨b9,A9,n9,c9,b10,A10,n10,c10,rfl⟩:=hr4.cells;have HF:=Ad (Ai (Hr5.out.ext hx4) (Ai (HPl.out▸hr4) ((xd.trans hx5).trans hx4)));clear hr4) | (refine⟨trivial,?_⟩;gi_at_call 102;refine(CallsIn.inRound lp (callsIn_wide.2 (Iy _ _ _ Hm.out.2.2))).mono ?_;rintro e w4 ⟨r4,rfl,hr4,hx4⟩;obtain⟨b9,A9,n9,c9,b10,A10,n10,c10,rfl⟩:=hr4.cells;have y0:=(xd.trans hx4).cell g0;have y1:=(xd.trans hx4).cell g1;have y2:=(xd.trans hx4).cell g2;have y3:=(xd.trans hx4).cell g3;have t0:=(xd.trans hx4).cell u0;have t1:=(xd.trans hx4).cell u1;have t2:=(xd.trans hx4).cell u2;have t3:=(xd.trans hx4).cell u3;have HmB:=Ad (Ai (Hm.out.1.ext hx4) (Hm.out.2.1.ext hx4));have Hr4:=Ad hr4;clear hr4) | (refine⟨trivial,?_⟩;gi_at_call 140;refine(CallsIn.inRound lp (callsIn_wide.2 (Z6 _ _ (hac (cz l) x pre) x _ HmB.out.1 HmB.out.2))).mono ?_;rintro e w5 ⟨r5,rfl,hr5,hx5⟩;obtain⟨b7,A7,n7,c7,b8,A8,n8,c8,rfl⟩:=hr5.cells;have HF:=Ad (Ai hr5 (Ai (HPl.out▸Hr4.out.ext hx5) ((xd.trans hx4).trans hx5)));clear hr5) | (refine⟨trivial,?_⟩;gi_at_call 123;refine(CallsIn.inRound lp (callsIn_wide.2 (V8 _ _ (hac (cz l) x pre*x) (cz l p.1) _ (HF.out.1.has HR.out.2.1) (HF.out.2.1.has (Nat.le_of_lt HR.out.2.2))))).mono ?_;rintro e w6 ⟨r6,rfl,hr6,hx6⟩;obtain⟨b11,A11,n11,c11,b12,A12,n12,c12,rfl⟩:=hr6.cells;have x6:=HF.out.2.2.trans hx6;have eg6:=eg.ext x6;have f6:=eg6.frozen;obtain⟨s0,s1,s2,s3⟩:=eg6.cells4;have Hr6:=Ad hr6;clear hr6))
  all_goals gi_wp2
  all_goals
   obtain⟨W7,eW7,e7,U7⟩:=eg6.put4 (.bool b11) (.slice A11 n11 c11) (.bool b12) (.slice A12 n12 c12) rfl rfl rfl rfl;have kf:=kF W2.heap.size x6 eW7;have kb:=jL (n₀:=WA.heap.size) (x6.mono hB'.size) eW7 Aa;have kq:=DL.mk e7 (Hr6.out.kd U7.kd);rw[<-Rv (cz l) x pre p]at kq;rw[<-eW7];exact⟨kf,⟨kb,fun v h=>Sc U7 Dt (x6.cell h)⟩,kq,Below.trans hB kb⟩
 case done =>
  rintro D ys W hD rfl ⟨hi,hB⟩ hK;rw[Y5 (cz l) x l.length (Nat.le_refl _),Nat.sub_self,Ol]at hi;obtain⟨z1,Z1,zn,zc,z2,Z2,zn',zc',eg,hz⟩:=hi;obtain⟨g0,g1,g2,g3⟩:=eg.cells4;have hB':Ext WA W:=hB;have ezW:=ez.ext hB';obtain⟨z0',z1',z2',z3'⟩:=ezW.cells4;have fz:=ezW.frozen;have eW3:=ezW.put4 (.bool z1) (.slice Z1 zn zc) (.bool z2) (.slice Z2 zn' zc') rfl rfl rfl rfl;have hne:D≠w.heap.size+1:=by have:=hx2.size;omega
  have Hz:=Ad hz;clear hz
  gi_wp2
  obtain⟨W3,eW3,e3,U3⟩:=eW3;rw[<-eW3];clear eW3;have hK3:W3.heap[D]? = some (.deferred (some [])):=U3.1 D _ (by simpa using hne) hK;have e4:=e3.own (grownBy_putObj' W3 D (.deferred none)) (fun r e=>by cases e;exact⟨_,hK3,rfl⟩);have hx3:Ext w W3:=U3.2.2 w (hwA.trans hB') Ac;have hx4:Ext w (W3.putObj D (.deferred none)):=Below.trans hx3 (belowK_b (w:=w) (Nat.le_refl _) W3 D _ _ (by have:=hx2.size;omega) hK3 rfl rfl)
  have hz4:=(Hz.out.kd U3.kd).kd (KD.own (grownBy_putObj' W3 D (.deferred none)) (fun r e=>by cases e;exact⟨_,hK3,rfl⟩));refine⟨Ac,.inl ⟨_,_,rfl,run_takeDeferred hK3,?_⟩⟩;obtain⟨y0,y1,y2,y3⟩:=e4.cells4;exact⟨_,by simp[results,Tryz.f90,go_sem,y0,y1,y2,y3],Ag.mk hz4 hx4⟩
 case stop =>
  rintro D c pre W _ _ h _;exact h.elim
end Go.Proofs.YtmhgnigpmompmaaGreat
namespace Go.Proofs.YtmhgnigpmompmaaGreat
open Go.RowKit Go.Hp
set_option maxRecDepth 20000 in
theorem V6(v u:Value)(l:List Int)(x:Rat)(s t:Nat)(w:World)(hv:De 0 w v l)(hu:BC w u x)(hs:∀ i,qsz (cz l i)<=s)(ht:qsz x<=t)(hK:1+l.length*(s+t+1)+s+t+1<=274877906944)(hn:l.length<=549755813888) :
  Bc 92 #[v,u] w (fun r w'=>Bz w' r (CZ l.length (cz l) x)):=by
 have HU:=Ad hu;obtain⟨b1,A1,n1,c1,b1',A1',n1',c1',x0,y0,rfl,-⟩:=hu.form;obtain⟨A,c,rfl,hl,hc,hA⟩:=hv;clear hu;have HA:Hid (GL 0 w A l):=Ad hA;clear hA;have HS:=Ad (Ai hs ht);have HH:=Ad (fun i=>bT (x:=x) hs ht l.length i);clear hs ht
 go_enter Tryz.func92,Tryz.ntmps92
 go_wp2_with fail
 refine AB (P6 0 _ Aa Aa) ?_;rintro r1 w1 hr1 hx1;obtain⟨b5,A5,n5,c5,b6,A6,n6,c6,rfl⟩:=hr1.cells
 go_upto_region 2 with(fail)
 obtain⟨W9,eW9,e9,x9⟩:=Bh.made w1 28 #[.bool b5,.slice A5 n5 c5,.bool b6,.slice A6 n6 c6] (by simp[Af]);rw[<-eW9];clear eW9;have hgb:w.heap.size+1+1<=w1.heap.size:=by have:=hx1.size;simpa using this
 have eb:=DL.mk e9 (hr1.ext x9);replace hx1:=hx1.trans x9;clear x9 hr1 e9;generalize w1.heap.size=gb at *;go_wp2
 go_loopw [6] (fun iv wx=>∃ (i:Nat),i<=l.length/\(∃ z:Int,z+1=i/\iv = .int .i64 z)/\DL wx gb 28 (hor (cz l) x l.length i)/\Ext ((w.alloc (.cells #[.bool b1,.slice A1 n1 c1,.bool b1',.slice A1' n1' c1'] 28)).alloc (.cells #[.bool false,.slice none 0 0,.bool false,.slice none 0 0] 28)) wx) (fun iv _=>(intOf iv+1).toNat)
 case atStart=>exact⟨l.length,Nat.le_refl _,⟨_,Aa,rfl⟩,by rw[PH];exact eb,hx1⟩
 case round =>
  clear eb hx1;obtain⟨i,hi,⟨z,hz,rfl⟩,eb,hx⟩:=hrel;obtain⟨z1,Z1,zn,zc,z2,Z2,zn',zc',ez,hzz⟩:=eb;have Hz:=Ad hzz;clear hzz;by_cases hi0:0 < i
  ·obtain⟨k,rfl⟩:∃ k,i=k+1:=⟨i - 1,Aa⟩
   obtain rfl:z=(k:Int):=by omega
   clear hz hi0;have hkl:k < l.length:=by omega
   obtain⟨g,o,b,A2,n,c2,rfl,_,q0,q1,hq⟩:=HA.out.at_ (j:=k) hkl;replace q0:=hx.a2.cell q0;replace q1:=hx.a2.cell q1;have ca0:=hx.a1.box (g:=w.heap.size) (i:=0) rfl rfl;have ca1:=hx.a1.box (g:=w.heap.size) (i:=1) rfl rfl;have ca2:=hx.a1.box (g:=w.heap.size) (i:=2) rfl rfl;have ca3:=hx.a1.box (g:=w.heap.size) (i:=3) rfl rfl;have Hq:=Ad hq;clear hq;have Hzk:=Ad (show((l[k]:Int):Rat)=cz l k from by rw[Cn hkl])
   have HR:=Ad (show qsz (hor (cz l) x l.length (k+1))<=274877906944/\qsz (hor (cz l) x l.length (k+1)*x)<=274877906944/\qsz (cz l k) < 274877906944 by
    have h1:=HH.out (k+1);have h2:=BS (hor (cz l) x l.length (k+1)) x;have h3:=HS.out.2;have h4:=HS.out.1 k;omega)
   have cez:=ez.cells4;have fez:=ez.frozen
   go_wp2_with fail
   refine CP 9 [15,16,17,18,19,20,21,22,23] [5,3,0,6] [_,_,_,_] [(kv ?_),(kv ?_),(fun γ=>γ 2),(kv ?_),(kv ?_),(kv ?_),(kv ?_),(fun γ=>γ 7),(fun γ=>γ 8)] (fun γ w'=>[True,True,Bz w' (γ 2) (hor (cz l) x l.length (k+1)*x),True,True,True,True,Bz w' (γ 7) (cz l k),Bz w' (γ 8) (hor (cz l) x l.length (k+1)*x+cz l k)]) ?s1 ?_
   case s1 =>
    iterate 9 refine⟨?_,?_⟩
    trivial
    iterate 2 focus
     refine AY fun _ w' he R hR=>?_;have hc:=he.cells;have cq0:=he.cell q0;have cq1:=he.cell q1;have cq2:=he.cell ca0;have cq3:=he.cell ca1;have cq4:=he.cell ca2;have cq5:=he.cell ca3;have cq6:=(ez.ext he).cells4;go_simp;exact Br hR
    ·refine AY fun _ w' he R hR=>?_
     go_simp;exact Bf (Yj _ _ _ _ w' ((Hz.out.ext he).has HR.out.1) (HU.out.ext (hx.a2.trans he))) hR
    iterate 4 focus
     refine AY fun _ w' he R hR=>?_;have hc:=he.cells;have cq0:=he.cell q0;have cq1:=he.cell q1;have cq2:=he.cell ca0;have cq3:=he.cell ca1;have cq4:=he.cell ca2;have cq5:=he.cell ca3;have cq6:=(ez.ext he).cells4;go_simp;(try go_ints);(try(rw[if_neg Aa]));(try(rw[if_pos Aa]));(try go_simp);(try go_ints)
     exact Br hR
    ·refine AY fun _ w' he R hR=>?_
     go_simp;exact Bf (Hzk.out▸Na _ _ w' (Hq.out.ext (hx.a2.trans he))) hR
    ·refine EF fun γ w' he hf R hR=>?_;have f2:Bz w' (γ 2) (hor (cz l) x l.length (k+1)*x):=hf 2 Ab;have f7:Bz w' (γ 7) (cz l k):=hf 7 Ab;clear hf
     go_simp;exact Bf (TK _ _ _ _ w' (f2.has HR.out.2.1) (f7.has (by have:=HR.out.2.2;omega)) (by have:=HR.out;omega)) hR
   intro γ w6 hx6 hF;have p2:Bz w6 (γ 2) (hor (cz l) x l.length (k+1)*x):=Ak.get hF 2 Ab;have p7:Bz w6 (γ 7) (cz l k):=Ak.get hF 7 Ab;have p8:Bz w6 (γ 8) (hor (cz l) x l.length (k+1)*x+cz l k):=Ak.get hF 8 Ab;clear hF;simp only[Bg,Nat.reduceAdd];generalize γ 2=g2 at *;generalize γ 7=g7 at *;generalize γ 8=g8 at *;clear γ;clear cez fez ca0 ca1 ca2 ca3 q0 q1 p2 p7 Hz Hq HR;replace ez:=ez.ext hx6;replace hx:=hx.trans hx6
   obtain⟨b5,A5,n5,c5,b6,A6,n6,c6,rfl⟩:=p8.cells;have cez:=ez.cells4;have fez:=ez.frozen;go_wp2;obtain⟨W7,eW,ez',U⟩:=ez.put4 (.bool b5) (.slice A5 n5 c5) (.bool b6) (.slice A6 n6 c6);rw[<-eW];clear eW ez;replace p8:=p8.kd U.kd;replace hx:=U.from_ hx Aj;have ez:=ez';clear U ez';clear cez fez hx6;have eq:=DL.mk ez p8;clear ez p8
   go_roundw
   case rel=>exact⟨k,Aa,⟨(k:Int) - 1,Aa,by go_num⟩,by rw[Lf _ _ hkl];exact eq,hx⟩
   case measure=>simp[intOf]<;>omega
  ·obtain rfl:i=0:=by omega
   have hz1:z < 0:=by omega
   rw[Ol]at Hz;have Hz2:=Ad hz;clear hz;have cez:=ez.cells4;have fez:=ez.frozen;have hr:=Hz.out;have hx1:=hx;clear hx;have hc1:=hx1.cells;have hf1:=hx1.frozens;have Hfin:=Ad (CO hr hx1.a2 (AU.at_ hx1 (g:=w.heap.size+1) Ac (by simp[Af])) Aa);clear hr;go_wp2;refine bodyPost_ret (v := .agg #[.bool z1,.slice Z1 zn zc,.bool z2,.slice Z2 zn' zc']) (by simp[results,Tryz.results92,go_sem,hc1]) rfl ?_;exact Hfin.out
/-! ### over polynomials -/
theorem Sk(v u:Value)(F:Nat->Rat)(x:Rat)(s t n:Nat)(w:World)(hv:AC 0 w v F)(hu:BC w u x)(hs:∀ i,qsz (F i)<=s)(ht:qsz x<=t)(hn:pl F<=n)(hK:1+n*(s+t+1)+s+t+1<=274877906944)(hn9:n<=1000) :
  Bc 90 #[v,u] w (fun r w'=>Bz w' r (ev F x)):=by
 obtain⟨l,a1,a2,-,a4⟩:=hv.hz (fun i=>by have:=hs i;omega);have hK2:l.length*(s+t+1)<=n*(s+t+1):=Nat.mul_le_mul_right _ Aa;have:=ZK v u l x s t w a1 hu (by rw[a4];exact hs) ht Aa Aa;rw[<-F4 (BG l),a4]at this;exact this
set_option maxRecDepth 20000 in
theorem WE(v u:Value)(us:List Value)(l:List (Nat->Rat))(x:Rat){eb:Nat}(base s t n:Nat)(w:World)(hv:GZ base eb 23 w v us l)(hu:BC w u x)(hs:∀ F∈l,(∀ i,qsz (F i)<=s)/\pl F<=n/\Ae F)(ht:qsz x<=t)
  (hK:1+n*(s+t+1)+s+t+1<=274877906944) (hn9:n<=1000) (hl:l.length<=1000) :
  Bc 101 #[v,u] w (fun r _=>r = .int .i64 (V l x:Nat)):=by
 have HV:=Ad hv;have HU:=Ad hu;obtain⟨A0,c0,rfl⟩:=hv.shape;obtain⟨b,B,n1,c1,b',B',n1',c1',x0,y0,rfl,-⟩:=hu.form;clear hv hu;have hev:∀ W (x1:Ext w W) i (h:i < l.length) u,AC 0 W u l[i]->Bc 90 #[u,.agg #[.bool b,.slice B n1 c1,.bool b',.slice B' n1' c1']] W (fun r w'=>Bz w' r (ev l[i] x)):=fun W x1 i h u hu =>
  Sk u _ l[i] x s t n W hu (HU.out.ext x1) (hs _ (List.getElem_mem h)).1 ht (hs _ (List.getElem_mem h)).2.1 hK hn9
 have hqz:∀ i (h:i < l.length),qsz (ev l[i] x)<=274877906944:=fun i h=>by
  obtain⟨h1,h2,h3⟩:=hs _ (List.getElem_mem h);have h4:=LH ((AJ h3).mono h2) h1 ht;omega
 obtain⟨sg,hsg⟩:∃ sg,sg=l.map fun F=>BK (ev F x):=⟨_,rfl⟩
 have hsl:sg.length=l.length:=by rw[hsg,List.length_map]
 have hsi:∀ i (h:i < l.length) (h':i < sg.length),GJ (ev l[i] x)=sg[i]:=fun i h h'=>by
  rw[Eg];simp[hsg]
 have hsc:∀ i (h':i < sg.length),sg[i]=0\/sg[i]=1\/sg[i] = -1:=fun i h'=>by
  simp only[hsg,List.getElem_map];exact Ef _
 have hV:V l x=JU 0 sg:=by unfold V;rw[hsg]
 rw[hV];have HC:=Ad (Ai hev (Ai hqz (Ai hsi hsc)));clear hev hqz hsi hsc hs ht hK hsg hV
 go_enter Tryz.func101,Tryz.ntmps101
 have ea:=Bh.new w 28 #[.bool b,.slice B n1 c1,.bool b',.slice B' n1' c1'] (by simp[Af]);have hx:=(Ext.refl w).alloc (.cells #[.bool b,.slice B n1 c1,.bool b',.slice B' n1' c1'] 28)
 go_upto_region 1 with(fail)
 generalize w.alloc (.cells #[.bool b,.slice B n1 c1,.bool b',.slice B' n1' c1'] 28)=W0 at *;go_wp2
 go_loopw [5,6,12] (fun cv lv iv wr=>∃ (i cc:Nat) (la:Int),i<=l.length/\iv = .int .i64 (i:Nat)/\cv = .int .i64 (cc:Nat)/\cc<=i/\lv = .int .i64 la/\(la=0\/la=1\/la = -1)/\cc+JU la (sg.drop i)=JU 0 sg/\Bh wr w.heap.size 28 #[.bool b,.slice B n1 c1,.bool b',.slice B' n1' c1']/\Ext w wr) (fun _ _ iv _=>l.length - (intOf iv).toNat)
 case atStart=>exact⟨0,0,0,Nat.zero_le _,rfl,rfl,Nat.le_refl _,rfl,.inl rfl,Ac,ea,hx⟩
 case round =>
  clear ea hx;obtain⟨i,cc,la,hi,rfl,rfl,hcc,rfl,hla,hval,ea,hx⟩:=hrel;have Hval:=Ad hval;clear hval;by_cases hil:i < l.length
  ·obtain⟨g,o,E,d,rfl,hc,h5⟩:=(HV.out.ext hx).at_ hil
   have H5:=Ad h5;clear h5;have cea:=ea.cells4;have fea:=ea.frozen
   go_wp2_with fail
   refine AB (HC.out.1 _ hx i hil _ H5.out) ?_;rintro r2 w2 hr2 hx2
   go_wp2_with fail
   refine AB (M7 _ _ _ (hr2.has (HC.out.2.1 i hil))) ?_;rintro r3 w3 rfl hx3;rw[HC.out.2.2.1 i hil Aa];have hdrop:sg.drop i=sg[i]'(Aa)::sg.drop (i+1):=List.drop_eq_getElem_cons Aa;have hsc:=HC.out.2.2.2 i Aa;have hval:=Hval.out;rw[hdrop,JU]at hval;obtain⟨sv,hsv⟩:∃ sv,sv=sg[i]'(Aa):=⟨_,rfl⟩
   simp only[<-hsv]at hval hsc ⊢;clear hsv hdrop Hval hc H5 hr2 cea fea;have x23:=hx2.trans hx3;replace ea:=ea.ext x23;replace hx:=hx.trans x23;clear x23;clear hx2 hx3;rcases hsc with rfl | hs1
   ·rw[if_pos rfl]at hval
    have Hval:=Ad hval;clear hval;go_wp2
    go_roundw
    case rel=>exact⟨i+1,cc,la,Aa,by go_num,rfl,Aa,rfl,hla,Hval.out,ea,hx⟩
    case measure=>simp[intOf]<;>omega
   ·have hs0:sv≠0:=by rcases hs1 with h | h<;>rw[h]<;>decide
    rw[if_neg hs0]at hval;have hsb:(sv==0)=false:=by simpa using hs0
    by_cases hch:la = -sv
    ·rw[if_pos hch]at hval
     have Hval:=Ad hval;clear hval;have hneg:la*sv = -1:=by rw[hch];rcases hs1 with h | h<;>rw[h]<;>decide
     have HS:=Ad hs1;clear hs0 hch hs1;go_wp2
     go_roundw
     case rel=>exact⟨i+1,cc+1,sv,Aa,by go_num,by go_num,Aa,rfl,.inr HS.out,by have:=Hval.out;omega,ea,hx⟩
     case measure=>simp[intOf]<;>omega
    ·rw[if_neg hch]at hval
     have Hval:=Ad hval;clear hval;have hneg:decide (la*sv < 0)=false:=by
      rcases hla with rfl | rfl | rfl<;>rcases hs1 with rfl | rfl<;>first | rfl | (exact absurd rfl hch)
     have HS:=Ad hs1;have hw:wrap64 (la*sv)=la*sv:=by
      rcases hla with rfl | rfl | rfl<;>rcases hs1 with rfl | rfl<;>exact IntWalk.wrap64_in _ ⟨Aa,Aa⟩
     clear hs0 hch hs1;go_wp2
     go_roundw
     case rel=>exact⟨i+1,cc,sv,Aa,by go_num,rfl,Aa,rfl,.inr HS.out,by have:=Hval.out;omega,ea,hx⟩
     case measure=>simp[intOf]<;>omega
  ·obtain rfl:i=l.length:=by omega
   have hval:=Hval.out;rw[List.drop_eq_nil_of_le Aa]at hval;have hv2:cc=JU 0 sg:=hval;have Hv2:=Ad hv2;clear hv2 hval Hval;go_wp2
   go_ret
   exact Ag.mk (by rw[<-Hv2.out];rfl) hx
theorem YV(v u:Value)(F:Nat->Rat)(x:Rat)(s t n:Nat)(w:World)(hv:AC 0 w v F)(hu:BC w u x)(hs:∀ i,qsz (F i)<=s)(ht:qsz x<=t)(hn:pl F<=n)(hK:1+n*(s+t+1)+s+t+1<=274877906944)(hn9:n<=1000) :
  Bc 92 #[v,u] w (fun r w'=>Bz w' r (ev F x)):=by
 obtain⟨l,a1,a2,-,a4⟩:=hv.hz (fun i=>by have:=hs i;omega);have hK2:l.length*(s+t+1)<=n*(s+t+1):=Nat.mul_le_mul_right _ Aa;have:=V6 v u l x s t w a1 hu (by rw[a4];exact hs) ht Aa Aa;rw[<-F4 (BG l),a4]at this;exact this
set_option maxRecDepth 20000 in
theorem Ua(v u:Value)(us:List Value)(l:List (Nat->Rat))(x:Rat){eb:Nat}(base s t n:Nat)(w:World)(hv:GZ base eb 22 w v us l)(hu:BC w u x)(hs:∀ F∈l,(∀ i,qsz (F i)<=s)/\pl F<=n/\Ae F)(ht:qsz x<=t)
  (hK:1+n*(s+t+1)+s+t+1<=274877906944) (hn9:n<=1000) (hl:l.length<=1000) :
  Bc 54 #[v,u] w (fun r _=>r = .int .i64 (V l x:Nat)):=by
 have HV:=Ad hv;have HU:=Ad hu;obtain⟨A0,c0,rfl⟩:=hv.shape;obtain⟨b,B,n1,c1,b',B',n1',c1',x0,y0,rfl,-⟩:=hu.form;clear hv hu;have hev:∀ W (x1:Ext w W) i (h:i < l.length) u,AC 0 W u l[i]->Bc 92 #[u,.agg #[.bool b,.slice B n1 c1,.bool b',.slice B' n1' c1']] W (fun r w'=>Bz w' r (ev l[i] x)):=fun W x1 i h u hu =>
  YV u _ l[i] x s t n W hu (HU.out.ext x1) (hs _ (List.getElem_mem h)).1 ht (hs _ (List.getElem_mem h)).2.1 hK hn9
 have hqz:∀ i (h:i < l.length),qsz (ev l[i] x)<=274877906944:=fun i h=>by
  obtain⟨h1,h2,h3⟩:=hs _ (List.getElem_mem h);have h4:=LH ((AJ h3).mono h2) h1 ht;omega
 obtain⟨sg,hsg⟩:∃ sg,sg=l.map fun F=>BK (ev F x):=⟨_,rfl⟩
 have hsl:sg.length=l.length:=by rw[hsg,List.length_map]
 have hsi:∀ i (h:i < l.length) (h':i < sg.length),GJ (ev l[i] x)=sg[i]:=fun i h h'=>by
  rw[Eg];simp[hsg]
 have hsc:∀ i (h':i < sg.length),sg[i]=0\/sg[i]=1\/sg[i] = -1:=fun i h'=>by
  simp only[hsg,List.getElem_map];exact Ef _
 have hV:V l x=JU 0 sg:=by unfold V;rw[hsg]
 rw[hV];have HC:=Ad (Ai hev (Ai hqz (Ai hsi hsc)));clear hev hqz hsi hsc hs ht hK hsg hV
 go_enter Tryz.func54,Tryz.ntmps54
 have ea:=Bh.new w 28 #[.bool b,.slice B n1 c1,.bool b',.slice B' n1' c1'] (by simp[Af]);have hx:=(Ext.refl w).alloc (.cells #[.bool b,.slice B n1 c1,.bool b',.slice B' n1' c1'] 28)
 go_upto_region 1 with(fail)
 generalize w.alloc (.cells #[.bool b,.slice B n1 c1,.bool b',.slice B' n1' c1'] 28)=W0 at *;go_wp2
 go_loopw [5,6,7] (fun cv lv iv wr=>∃ (i cc:Nat) (la:Int),i<=l.length/\iv = .int .i64 (i:Nat)/\cv = .int .i64 (cc:Nat)/\cc<=i/\lv = .int .i64 la/\(la=0\/la=1\/la = -1)/\cc+JU la (sg.drop i)=JU 0 sg/\Bh wr w.heap.size 28 #[.bool b,.slice B n1 c1,.bool b',.slice B' n1' c1']/\Ext w wr) (fun _ _ iv _=>l.length - (intOf iv).toNat)
 case atStart=>exact⟨0,0,0,Nat.zero_le _,rfl,rfl,Nat.le_refl _,rfl,.inl rfl,Ac,ea,hx⟩
 case round =>
  clear ea hx;obtain⟨i,cc,la,hi,rfl,rfl,hcc,rfl,hla,hval,ea,hx⟩:=hrel;have Hval:=Ad hval;clear hval;by_cases hil:i < l.length
  ·obtain⟨g,o,E,d,rfl,hcE,h5⟩:=(HV.out.ext hx).at_ hil
   have H5:=Ad h5;clear h5;have hli:i < sg.length:=by omega
   have hss:GJ (ev l[i] x)=sg[i]:=HC.out.2.2.1 i hil hli;obtain⟨sv,hsv⟩:∃ sv,sv=sg[i]:=⟨_,rfl⟩
   have hdrop:sg.drop i=sg[i]::sg.drop (i+1):=List.drop_eq_getElem_cons hli;have hsc:=HC.out.2.2.2 i hli;have hval:=Hval.out;rw[hdrop,JU]at hval;simp only[<-hsv]at hval hsc hss;have HS1:=Ad (Ai hss hval);clear hsv hdrop Hval hval hss hli;have cea:=ea.cells4;have fea:=ea.frozen
   go_wp2_with fail
   refine CP 7 [15,16,17,18,19,20,21] [0,7,3] [_,_,_] [(kv ?_),(kv ?_),(kv ?_),(kv ?_),(kv ?_),(fun γ=>γ 5),(kv (.int .i64 sv))] (fun γ w'=>[True,True,True,True,True,Bz w' (γ 5) (ev l[i] x),True]) ?s1 ?_
   case s1 =>
    iterate 7 refine⟨?_,?_⟩
    trivial
    iterate 5 focus
     refine AY fun _ w' he R hR=>?_;have hc:=he.cells;have cq0:=(ea.ext he).cells4;have cq1:=he.cell hcE;go_simp;(try go_ints);(try(rw[if_neg Aa]));(try(rw[if_pos Aa]));(try go_simp);(try go_ints)
     exact Br hR
    ·refine AY fun _ w' he R hR=>?_
     go_simp;exact Bf (HC.out.1 w' (hx.trans he) i hil _ (H5.out.ext he)) hR
    ·refine EF fun γ w' he hf R hR=>?_;have f5:Bz w' (γ 5) (ev l[i] x):=hf 5 Ab;clear hf
     go_simp;exact LW (Ag.imp (Jy _ (ev l[i] x) w' (f5.has (HC.out.2.1 i hil))) fun _ _ h=>by rw[h,HS1.out.1]) hR
   intro γ w3 x23 hF;have p5:Bz w3 (γ 5) (ev l[i] x):=Ak.get hF 5 Ab;clear hF;simp only[Bg,Nat.reduceAdd];generalize γ 5=g5 at *;clear γ;have hval:=HS1.out.2;clear hcE H5 p5 cea fea HS1;replace ea:=ea.ext x23;replace hx:=hx.trans x23;clear x23;rcases hsc with rfl | hs1
   ·rw[if_pos rfl]at hval
    have Hval:=Ad hval;clear hval;go_wp2
    go_roundw
    case rel=>exact⟨i+1,cc,la,Aa,by go_num,rfl,Aa,rfl,hla,Hval.out,ea,hx⟩
    case measure=>simp[intOf]<;>omega
   ·have hs0:sv≠0:=by rcases hs1 with h | h<;>rw[h]<;>decide
    rw[if_neg hs0]at hval;have hsb:(sv != 0)=true:=by simpa using hs0
    by_cases hch:la = -sv
    ·rw[if_pos hch]at hval
     have Hval:=Ad hval;clear hval;have hneg:(la == -sv)=true:=by simpa using hch
     have hr9 : -1<=sv/\sv<=1:=by rcases hs1 with h | h<;>rw[h]<;>decide
     have HS:=Ad hs1;clear hs0 hch hs1;go_wp2
     go_roundw
     case rel=>exact⟨i+1,cc+1,sv,Aa,by go_num,by go_num,Aa,rfl,.inr HS.out,by have:=Hval.out;omega,ea,hx⟩
     case measure=>simp[intOf]<;>omega
    ·rw[if_neg hch]at hval
     have Hval:=Ad hval;clear hval;have hneg:(la == -sv)=false:=by simpa using hch
     have hr9 : -1<=sv/\sv<=1:=by rcases hs1 with h | h<;>rw[h]<;>decide
     have HS:=Ad hs1;clear hs0 hch hs1;go_wp2
     go_roundw
     case rel=>exact⟨i+1,cc,sv,Aa,by go_num,rfl,Aa,rfl,.inr HS.out,by have:=Hval.out;omega,ea,hx⟩
     case measure=>simp[intOf]<;>omega
  ·obtain rfl:i=l.length:=by omega
   have hval:=Hval.out;rw[List.drop_eq_nil_of_le Aa]at hval;have hv2:cc=JU 0 sg:=hval;have Hv2:=Ad hv2;clear hv2 hval Hval;go_wp2
   go_ret
   exact Ag.mk (by rw[<-Hv2.out];rfl) hx
set_option maxRecDepth 20000 in
theorem iK(v u:Value)(l m:List Int)(S M:Nat)(w:World)(hv:De 0 w v l)(hu:De 0 w u m)(hs:∀ i,qsz (cz l i)<=S)(ht:∀ i,qsz (cz m i)<=S)(hn:l.length<=549755813888)(hm:m.length<=549755813888)(hM:(S+1)*2^(pl (cz l)+pl (cz m))<=M)(hB:M+(pl (cz l)+pl (cz m)+1)*(M+1)+M<=549755813888) :
  Bc 42 #[v,u] w (fun r w'=>AC 0 w' r (D7 (cz l) (cz m))):=by
 have HV:=Ad hv;have HU:=Ad hu;obtain⟨A0,c0,rfl⟩:=hv.len;obtain⟨A1,c1,rfl⟩:=hu.len;clear hv hu;have hc1:=Bj (BG l);have hc2:=Bj (BG m);have hSM:S+1<=M:=by
  have h:0 < 2^(pl (cz l)+pl (cz m)):=Nat.pow_pos Ab;have:=Nat.le_mul_of_pos_right (S+1) h;omega
 have hcn:sz (cn (cz l))<=S/\sz (cn (cz m))<=S:=⟨G5 hs _,G5 ht _⟩
 have hst:=GH.start (Ae.cz l) (Ae.cz m) (ZI.cz l) (ZI.cz m) hs ht;have hP1:=fun W (x:Ext w W)=>FJ _ l W (HV.out.ext x) Aa;have hP2:=fun W (x:Ext w W)=>FJ _ m W (HU.out.ext x) Aa;have hC1:=Kg _ l w HV.out Aa;have hC2:=fun W (x:Ext w W)=>Kg _ m W (HU.out.ext x) Aa;have hz:=(show(∀ A,GH (cz l) (cz m) (pl (cz l)+pl (cz m)) S A pz->psc ((Nat.gcd (cn (cz l)) (cn (cz m)):Nat):Rat) A=D7 (cz l) (cz m))from
  fun A h=>(TQ (h.end_ (Ae.cz l) (Ae.cz m) (ZI.cz l) (ZI.cz m) rfl)).symm)
 have hpl:pl (cz l)+pl (cz m)<=1099511627776:=by omega
 obtain⟨F,hF⟩:∃ F,F=cz l:=⟨_,rfl⟩
 obtain⟨G,hG⟩:∃ G,G=cz m:=⟨_,rfl⟩
 rw[<-hF]at hcn hC1;rw[<-hG]at hcn;rw[<-hF,<-hG]at hM hB hst hz hpl ⊢;simp only[<-hF]at hP1;simp only[<-hG]at hP2 hC2;have HC:=Ad (Ai hC1 (Ai hC2 (Ai hP1 hP2)));have HX:=Ad (Ai hM (Ai hB (Ai hz (Ai hcn hSM))));have HSt:=Ad (Ai hst hpl);clear hs ht hn hm hM hB hc1 hc2 hSM hcn hst hP1 hP2 hC1 hC2 hz hF hG hpl HV HU
 go_enter Tryz.func42,Tryz.ntmps42
 go_wp2_with fail
 refine AB HC.out.1 ?_;rintro r1 w1 hr1 hx
 go_wp2_with fail
 refine AB (HC.out.2.1 w1 hx) ?_;rintro r2 w2 hr2 hx2;have H12:=Ad (Ai ((hr1.kd hx2.kd).has (by have h1:=HX.out.2.2.2.1.1;have h2:=HX.out.2.2.2.2;have h3:=HX.out.2.1;simp;omega)) (hr2.has (by have h1:=HX.out.2.2.2.1.2;have h2:=HX.out.2.2.2.2;have h3:=HX.out.2.1;simp;omega)));replace hx:=hx.trans hx2;clear hr1 hr2 hx2
 go_wp2_with fail
 refine AB (UV _ _ (cn F:Nat) (cn G:Nat) _ H12.out.1 H12.out.2) ?_;rintro r3 w3 hr3 hx3;obtain⟨b5,A5,n5,c5,rfl⟩:=hr3.cells;obtain⟨cc,hcc⟩:∃ cc:Nat,cc=Nat.gcd (cn F) (cn G):=⟨_,rfl⟩
 replace hr3:AP w3 (.agg #[.bool b5,.slice A5 n5 c5]) (cc:Nat):=by rw[hcc];exact hr3
 obtain⟨W4,eW4,e4,x4⟩:=Bh.made w3 26 #[.bool b5,.slice A5 n5 c5] (by simp[Af]);have ec:=Bp.mk e4 (hr3.kd x4.kd);replace hx:=(hx.trans hx3).trans x4;have HCC:=Ad hcc;clear hx3 x4 hr3 e4 H12 hcc
 go_wp2_with fail
 rw[<-eW4];clear eW4;generalize w3.heap.size=gc at *;refine AB (HC.out.2.2.1 W4 hx) ?_;rintro r5 w5 hr5 hx5;have ec5:=ec.ext hx5;replace hx:=hx.trans hx5;have H5:=Ad (hr5.base_le (Nat.zero_le _));clear hr5 hx5
 go_wp2_with fail
 refine AB (HC.out.2.2.2 w5 hx) ?_;rintro r6 w6 hr6 hx6;replace ec5:=ec5.ext hx6;replace hx:=hx.trans hx6;have h5:=H5.out.ext hx6;have h6:=hr6.base_le (Nat.zero_le _);clear hr6 hx6 H5;go_wp2
 go_loopw [0,1] (fun fv gv wr=>∃ A B,AC 0 wr fv A/\AC 0 wr gv B/\GH F G (pl F+pl G) S A B/\Bp wr gc 26 (cc:Nat)/\Ext w wr) (fun _ gv _=>OO gv)
 case atStart=>exact⟨_,_,h5,h6,HSt.out.1,ec5,hx⟩
 case round =>
  clear h5 h6 ec5 hx ec;obtain⟨A,B,hA,hB,hst,ec,hx⟩:=hrel;obtain⟨A2,c2,rfl,-⟩:=hA.shape;obtain⟨A3,c3,rfl,-⟩:=hB.shape;have HA:=Ad (Ai hA hB);clear hA hB;have HS:=Ad hst;clear hst;by_cases h0:0 < pl B
  ·have hbn:B≠pz:=fun e=>by rw[e,BH]at h0;omega
   have hroom:=HS.out.room rfl;have hpl:=HS.out.deg;have HR:=Ad (show(∀ i,qsz (A i)<=M)/\(∀ i,qsz (B i)<=M)/\M+(pl A+1)*(M+1)+M<=549755813888/\B≠pz/\pl A<=1099511627776/\pl B<=1099511627776 from by
    refine⟨fun i=>Nat.le_trans (hroom.1 i) HX.out.1,fun i=>Nat.le_trans (hroom.2.1 i) HX.out.1,?_,hbn,by have:=HSt.out.2;omega,by have:=HSt.out.2;omega⟩;have h1:=HX.out.2.1;have h2:(pl A+1)*(M+1)<=(pl F+pl G+1)*(M+1):=Nat.mul_le_mul_right _ Aa;omega)
   have hst2:=HS.out.step hbn (R:=Dj A B (pl A+1 - pl B)) rfl;have HS2:=Ad (Ai hst2.1 (Ai hst2.2 hroom.2.2));clear hst2 hbn hroom hpl
   go_wp2_with fail
   refine Calls.mono (iH _ _ A B M _ HA.out.1 HA.out.2 HR.out.1 HR.out.2.1 HR.out.2.2.2.1 (by have h1:=HR.out.2.2.1;have:(pl A+1)*1<=(pl A+1)*(M+1):=Nat.mul_le_mul_left _ Aa;omega) (by
    have h1:=HX.out.2.1;have h2:=HS.out.deg;have:(pl F+pl G+1)*1<=(pl F+pl G+1)*(M+1):=Nat.mul_le_mul_left _ Aa;omega) HR.out.2.2.1) ?_
   rintro e w7 ⟨r7,rfl,⟨qv,rv,rfl,hq,hr⟩,hx7⟩;have hrr:=hr.base_le (b:=0) (Nat.zero_le _);have hB7:=HA.out.2.ext hx7;have ec7:=ec.ext hx7;replace hx:=hx.trans hx7;have H7:=Ad (Ai hrr hB7);clear hr hrr hB7 hq hx7 ec
   go_wp2_with fail
   refine Calls.mono (Jn _ _ _ H7.out.1 (fun i=>by
    have h1:=HS2.out.2.2 i;have h2:=HX.out.1;have h3:(S+1)*2^(pl F+pl G - (pl A+pl B)+(pl A+1 - pl B))<=(S+1)*2^(pl F+pl G)*2:=by
     have e1:(S+1)*2^(pl F+pl G)*2=(S+1)*2^(pl F+pl G+1):=by rw[Nat.pow_succ,Nat.mul_assoc]
     rw[e1];refine Nat.mul_le_mul_left _ (Nat.pow_le_pow_right Ab ?_);have:=HS.out.deg;omega
    have h4:=HX.out.2.1;omega) (by have:=Mx HS.out.fA HS.out.fB HR.out.2.2.2.1;have:=HR.out.2.2.2.2.2;omega)) ?_
   rintro e w8 ⟨r8,rfl,hr8,hx8⟩;have hB8:=H7.out.2.ext hx8;have hp8:=hr8.base_le (b:=0) (Nat.zero_le _);have ec8:=ec7.ext hx8;replace hx:=hx.trans hx8;obtain⟨A4,c4,rfl,-⟩:=hr8.shape;have H8:=Ad (Ai hB8 hp8);clear hB8 hp8 hr8 hx8 ec7 H7;go_wp2
   go_roundw
   case rel=>exact⟨_,_,H8.out.1,H8.out.2,HS2.out.1,ec8,hx⟩
   case measure=>exact HS2.out.2.1
  ·have hbz:B=pz:=(Bt HS.out.fB).1 Aa
   have hroom:=HS.out.room rfl;subst hbz;have hz:=HX.out.2.2.1 A HS.out;have HZ:=Ad (Ai hz (Ai hroom.1 (show pl A<=1099511627776 by have:=HS.out.deg;have:=HSt.out.2;omega)));have h0:pl pz=0:=BH;rw[h0];clear hz hroom;obtain⟨b,Bv,bn,bc,e8,hb8⟩:=ec;have Hb:=Ad hb8;clear hb8;have ce8:=e8.cells2;have fe8:=e8.frozen
   go_wp2_with fail
   refine Calls.mono (Wv _ _ A (cc:Nat) _ HA.out.1 (fun i=>by have h1:=HZ.out.2.1 i;have h2:=HX.out.1;have h3:=HX.out.2.1;omega) (Hb.out.has (by
    rw[HCC.out];have h1:=HX.out.2.2.2.1;have h2:sz (Nat.gcd (cn F) (cn G))<=S:=by
     by_cases e:cn F=0
     ·rw[e,Nat.gcd_zero_left];exact h1.2
     ·exact Nat.le_trans (Bl (Nat.gcd_le_left _ (Nat.pos_of_ne_zero e))) h1.1
    have h3:=HX.out.2.2.2.2;have h4:=HX.out.2.1;simp only[Int.natAbs_natCast];omega)) HZ.out.2.2) ?_
   rintro e w9 ⟨r9,rfl,hr9,hx9⟩;have h9:AC 0 w9 r9 (D7 F G):=by
    rw[<-HZ.out.1,<-HCC.out];exact hr9
   have H9:=Ad h9;clear h9 hr9;go_wp2
   go_ret
   exact Ag.mk H9.out (hx.trans hx9)
theorem Yp(v u:Value)(F G:Nat->Rat)(S M:Nat)(w:World)(hv:AC 0 w v F)(hu:AC 0 w u G)(hs:∀ i,qsz (F i)<=S)(ht:∀ i,qsz (G i)<=S)(hn:pl F<=549755813888)(hm:pl G<=549755813888)(hM:(S+1)*2^(pl F+pl G)<=M)(hB:M+(pl F+pl G+1)*(M+1)+M<=549755813888) :
  Bc 42 #[v,u] w (fun r w'=>AC 0 w' r (D7 F G)):=by
 have hSM:S+1<=M:=by
  have h:0 < 2^(pl F+pl G):=Nat.pow_pos Ab;have:=Nat.le_mul_of_pos_right (S+1) h;omega
 obtain⟨l,h1,h2,-,rfl⟩:=hv.hz (fun i=>by have:=hs i;omega);obtain⟨m,k1,k2,-,rfl⟩:=hu.hz (fun i=>by have:=ht i;omega);exact iK v u l m S M w h1 k1 hs ht Aa Aa hM hB
open Go.Shelf
theorem Z5(v:Value)(F:Nat->Rat)(S n M T:Nat)(w:World)(hv:AC 0 w v F)(hR:OQ F S n M T) :
  Bc 100 #[v] w (fun r w'=>AC 0 w' r (y0 (pp F))):=by
 have hg:=BB.pp hR.z hR.f hR.n0;have hpg:pl (pp F)=pl F:=Dq hR.z hR.f;have hsg:∀ i,qsz (pp F i)<=S:=Ey hR.z hR.f hR.s;have hSM:=hR.sS;have hp:=hR.p;have hn:=hR.n9;have hM:=hR.m;have hB:=hR.b;have hKk:=hR.k;have hM9:M<=549755813888:=by omega
 have hpr:Bc 85 #[v] w (fun r w'=>AC w.heap.size w' r (pp F)):=Jn v _ w hv (fun i=>by have:=hR.s i;omega) Aa;have hde:∀ W u,AC 0 W u (pp F)->Bc 66 #[u] W (fun r w'=>AC 0 w' r (pd (pp F))):=fun W u hu=>by
  obtain⟨m,g1,g2,-,g4⟩:=hu.hz (fun i=>by have:=hsg i;omega);rw[<-g4];exact Ag.imp (K3 _ m W g1 Aa) fun _ _ h=>h.base_le (Nat.zero_le _)
 have hpd:pl (pd (pp F))<=n - 1:=by rw[IX hg.f];omega
 have hg1:∀ W u z,AC 0 W u (pp F)->AC 0 W z (pd (pp F))->Bc 42 #[u,z] W (fun r w'=>AC 0 w' r (yc (pp F))):=fun W u z hu hz=>by
  have e:2^(pl (pp F)+pl (pd (pp F)))<=2^(n+(n - 1)):=Nat.pow_le_pow_right Ab Aa;have e2:(S+1)*2^(pl (pp F)+pl (pd (pp F)))<=(S+1)*2^(n+(n - 1)):=Nat.mul_le_mul_left _ e;have e3:(pl (pp F)+pl (pd (pp F))+1)*(M+1)<=(n+(n - 1)+1)*(M+1):=Nat.mul_le_mul_right _ Aa;exact Yp u z _ _ S M W hu hz hsg hR.d Aa Aa Aa Aa
 obtain⟨hC,hW,eg,dC,-⟩:=DW hg;have hcl:pl (yc (pp F))<=pl (pp F):=Dv.le hC.f hg.f hg.n (LM dC);have hd1:∀ W u z,AC 0 W u (pp F)->AC 0 W z (yc (pp F))->Bc 88 #[u,z] W (fun r w'=>∃ q,r = .tuple #[q,.int .i64 0]/\AC 0 w' q (y0 (pp F))):=fun W u z hu hz=>by
  have e3:(pl (pp F)+2)*(T+1)<=(n+2)*(T+1):=Nat.mul_le_mul_right _ Aa;refine Ag.imp (VT u z _ _ S T W hu hz hsg hR.t Aa Aa hC.n Aa) fun r w' hr=>?_;obtain⟨q,e1,e2⟩:=hr.1 dC;exact⟨q,e1,e2.base_le (Nat.zero_le _)⟩
 obtain⟨A0,c0,rfl,-⟩:=hv.shape;have HC:=Ad (Ai hpr (Ai hde (Ai hg1 hd1)));clear hpr hde hg1 hd1 hv hR hg hpg hsg hSM hp hn hM hB hKk hM9 hpd hC hW eg dC hcl
 go_enter Tryz.func100,Tryz.ntmps100
 go_wp2_with fail
 refine AB HC.out.1 ?_;rintro r1 w1 hr1 hx1;replace hr1:=hr1.base_le (b:=0) (Nat.zero_le _)
 go_wp2_with fail
 refine AB (HC.out.2.1 _ _ hr1) ?_;rintro r2 w2 hr2 hx2;replace hr1:=hr1.ext hx2;replace hx1:=hx1.trans hx2
 go_wp2_with fail
 refine AB (HC.out.2.2.1 _ _ _ hr1 hr2) ?_;rintro r3 w3 hr3 hx3;replace hr1:=hr1.ext hx3;replace hx1:=hx1.trans hx3
 go_wp2_with fail
 refine AB (HC.out.2.2.2 _ _ _ hr1 hr3) ?_;rintro r4 w4 ⟨q,rfl,hq⟩ hx4;go_wp2
 go_ret
 exact Ag.mk hq (hx1.trans hx4)
theorem bA(v:Value)(F W:Nat->Rat)(S n M T S2 D M2:Nat)(w:World)(hv:AC 0 w v F)(hR:OQ F S n M T)(hW:W=y0 (pp F))(hC:Gf W S2 D M2) :
  Bc 50 #[v] w (fun r w'=>Lu w.heap.size 23 w' r W):=by
 have h1:=fun X (x:Ext w X)=>Z5 v F S n M T X (hv.ext x) hR;simp only[<-hW]at h1;have hSM:=hC.SM;have hM9:M2<=1000000:=by have:=hC.b;omega
 have hde:∀ X u,AC 0 X u W->Bc 66 #[u] X (fun r w'=>AC 0 w' r (pd W)):=fun X u hu=>by
  obtain⟨m,g1,g2,-,g4⟩:=hu.hz (fun i=>by have:=hC.s i;omega);rw[<-g4];exact Ag.imp (K3 _ m X g1 (by have:=hC.e;have:=hC.D9;omega)) fun _ _ h=>h.base_le (Nat.zero_le _)
 have hch:∀ X u z,AC 0 X u W->AC 0 X z (pd W)->Bc 65 #[u,z] X (fun r w'=>∃ us K,MM W (pd W) K/\K<=pl (pd W)+1/\GZ X.heap.size X.heap.size 23 w' r us (EH W (pd W) K)):=fun X u z hu hz =>
  aS u z W (pd W) S2 D M2 X hu hz hC.z (Dn hC.z) hC.f (BR hC.f) hC.s hC.d hC.e hC.m hC.b hC.D9
 obtain⟨A0,c0,rfl,-⟩:=hv.shape;have HC:=Ad (Ai h1 (Ai hde hch));clear h1 hde hch hv hR hW hC hSM hM9
 go_enter Tryz.func50,Tryz.ntmps50
 have ez:=Bh.new w 92 #[.slice none 0 0] (by simp[Af]);have hx:=(Ext.refl w).alloc (.cells #[.slice none 0 0] 92)
 go_upto_region 1 with(fail)
 generalize w.alloc (.cells #[.slice none 0 0] 92)=W0 at *
 go_wp2_with fail
 refine AB (HC.out.1 _ hx) ?_;rintro r1 w1 hr1 hx1;obtain⟨A1,c1,rfl,-⟩:=hr1.shape;replace ez:=ez.ext hx1;replace hx:=hx.trans hx1;have H1:=Ad hr1;clear hr1 hx1
 go_wp2_with fail
 refine AB (HC.out.2.1 _ _ H1.out) ?_;rintro r2 w2 hr2 hx2;replace ez:=ez.ext hx2;replace hx:=hx.trans hx2;have H2:=Ad (Ai (H1.out.ext hx2) hr2);clear hr2 hx2 H1
 go_wp2_with fail
 refine AB (HC.out.2.2 _ _ _ H2.out.1 H2.out.2) ?_;rintro r3 w3 ⟨us,K,hK,hK9,hP⟩ hx3;have hlt:=ez.lt;replace ez:=ez.ext hx3;replace hx:=hx.trans hx3;obtain⟨A3,c3,rfl⟩:=hP.shape;have hl:(EH W (pd W) K).length=K:=CL _ _ _;rw[hl]at hP ⊢;have H3:=Ad (Ai hK (Ai hK9 hP));clear hK hK9 hP hx3 H2;have cz0:=ez.cells1;have fz:=ez.frozen;go_wp2;obtain⟨W4,eW,ez',U⟩:=ez.put1 (.slice A3 K c3) rfl;rw[<-eW];have hP4:=H3.out.2.2.upd1 rfl ez hlt U
 replace hx:=U.from_ hx Ac;clear eW cz0 fz ez;have cz0:=ez'.cells1;have fz:=ez'.frozen;refine bodyPost_ret (v := .agg #[.slice A3 K c3]) (by simp[results,Tryz.results50,go_sem,cz0]) rfl ?_;exact Ag.mk ⟨_,us,K,rfl,H3.out.1,H3.out.2.1,(hP4.base_le (Nat.le_of_lt hlt)).el_le (Nat.le_of_lt hlt)⟩ hx
theorem aV(v:Value)(l:List Int)(w:World)(hv:De 0 w v l)(hn:l.length<=1000000):Bc 147 #[v] w (fun r w'=>RA (cz l) w' r):=by
 have HV:=Ad hv;have hq:∀ i,qsz (cz l i)<=1099511627776:=Qn hv.sz Aa;have hpl:pl (cz l)<=l.length:=Bj (BG l);have fF:Ae (cz l):=⟨_,BG l⟩
 obtain⟨A,c,rfl⟩:=hv.len;clear hv
 go_enter Tryz.func147,Tryz.ntmps147
 go_wp2_with fail
 refine AB (LQ _ l _ HV.out Aa) ?_;rintro r1 w1 hr1 hx1;have HR:=Ad (hr1.base_le (Nat.zero_le _));obtain⟨A1,c1,m,rfl,k1,k2,hA,k3,k4,k5⟩:=hr1.form;have HA:=Ad (Ai hA (Ai k3 k5));clear hA k3 k4 k5 hr1;have HQ:=Ad hq;clear hq;by_cases h0:cz l=pz
 ·have hp:pl (cz l)=0:=(Bt fF).2 h0
  have hr:=Pt h0;have H:=Ad (Ai hr h0);clear hr h0;rw[hp];go_wp2;refine bodyPost_ret (v := .tuple #[.slice none 0 0,.int .i64 5]) (by simp[results,Tryz.results147,go_sem]) rfl ?_;exact Ag.mk ⟨_,by rw[H.out.1],fun e=>by rw[H.out.1]at e;exact absurd e Ab,fun _=>rfl⟩ hx1
 have hp:=AZ fF h0;obtain⟨N,hN⟩:∃ N,N=pl (cz l):=⟨_,rfl⟩
 rw[<-hN]at hp hpl k1 ⊢;have hb:(((N:Nat):Int)==0)=false:=beq_eq_false_iff_ne.2 Aa;have HN:=Ad (Ai hN h0);clear hN h0;by_cases h33:33 < N
 ·have hr:Ct (cz l)=7:=Kq HN.out.2 (.inl (by rw[<-HN.out.1];exact h33))
  have H:=Ad hr;clear hr;go_wp2;refine bodyPost_ret (v := .tuple #[.slice none 0 0,.int .i64 7]) (by simp[results,Tryz.results147,go_sem]) rfl ?_;exact Ag.mk ⟨_,by rw[H.out],fun e=>by rw[H.out]at e;exact absurd e Ab,fun _=>rfl⟩ hx1
 go_wp2
 go_loopw [17] (fun iv wr=>∃ i:Nat,i<=N/\iv = .int .i64 (i:Nat)/\(∀ j,j < i->∀ b,BL (cz l j).num.natAbs b->b<=4096)/\Ext w1 wr) (fun iv _=>N - (intOf iv).toNat)
 case atStart=>exact⟨0,Aa,rfl,fun j hj=>Aa,Ext.refl _⟩
 case round =>
  obtain⟨i,hi,rfl,hlow,hx⟩:=hrel;have HL:=Ad hlow;clear hlow;by_cases hiN:i < N
  ·have hlt:i < m.length:=by have:=HA.out.2.1;have:=HN.out.1;omega
   have hli:cz l i=(m[i]:Rat):=by rw[<-Cn hlt,HA.out.2.2]
   have hqi:=HQ.out i;rw[hli,Bi]at hqi;obtain⟨g,o,b3,A3,n3,c3,e3,-,q0,q1,hq⟩:=HA.out.1.at_ hlt;cases e3;have hqh:=hq.has (by omega:sz (m[i]).natAbs<=1099511627776);obtain⟨y,hy⟩:∃ y,y=m[i]:=⟨_,rfl⟩
   rw[<-hy]at hqh hli;have HI:=Ad (Ai hqh hli);clear hqh hq hqi hli hy hlt;replace q0:=hx.cell q0;replace q1:=hx.cell q1
   go_wp2_with fail
   refine AB (SK _ y _ (HI.out.1.ext (hx.alloc _))) ?_;rintro r w2 ⟨b,rfl,hbl⟩ hx2;have hx':=hx2.a1;have HB:=Ad hbl;clear hbl;have hcast:(cz l i).num.natAbs=y.natAbs:=by rw[HI.out.2];rfl
   have HC:=Ad hcast;clear hcast;by_cases hbb:4096 < b
   ·have hr:Ct (cz l)=7:=Kq HN.out.2 (.inr ⟨i,b,by rw[HC.out];exact HB.out,hbb⟩)
    have H:=Ad hr;clear hr;go_wp2;refine bodyPost_ret (v := .tuple #[.slice none 0 0,.int .i64 7]) (by simp[results,Tryz.results147,go_sem]) rfl ?_;exact Ag.mk ⟨_,by rw[H.out],fun e=>by rw[H.out]at e;exact absurd e Ab,fun _=>rfl⟩ ((hx1.trans hx).trans hx')
   ·clear hx2
    go_wp2
    go_roundw
    case rel=>exact⟨i+1,Aa,by go_num,fun j hj b' hb'=>by
     rcases Nat.lt_or_ge j i with q | q
     ·exact HL.out j q b' hb'
     ·obtain rfl:j=i:=by omega
      rw[HC.out]at hb';have:=hb'.uniq HB.out;omega,hx.trans hx'⟩
    case measure=>simp[intOf];omega
  ·obtain rfl:i=N:=by omega
   have hnw:¬ Tv (cz l):=fun⟨j,b,h1,h2⟩=>by
    rcases Nat.lt_or_ge j i with q | q
    ·have:=HL.out j q b h1;omega
    ·have hz:cz l j=0:=(AJ fF) j (by have:=HN.out.1;omega)
     rw[hz]at h1;have:=h1.uniq BL.zero;omega
   have hr:=Li HN.out.2 (by rw[<-HN.out.1];exact h33) hnw;have H:=Ad hr;clear hr hnw;have HF:=Ad (HR.out.ext hx);rw[<-HN.out.1]at HF;go_wp2;refine bodyPost_ret (v := .tuple #[.slice A1 i c1,.int .i64 0]) (by simp[results,Tryz.results147,go_sem]) rfl ?_;exact Ag.mk ⟨_,by rw[H.out],fun _=>HF.out,fun e=>absurd H.out e⟩ (hx1.trans hx)
theorem Ym(v:Value)(F:Nat->Rat)(w:World)(hv:AC 0 w v F)(fF:Ae F)(h0:F≠pz)(hn:pl F<=33)(hs:∀ i,qsz (F i)<=129):Bc 148 #[v] w (fun r w'=>∃ x,AP w' r x):=by
 have hp:=AZ fF h0;obtain⟨A,c,l,rfl,k1,k2,hA,k3,k4,k5⟩:=hv.form;have htop:=Ez fF hp;obtain⟨N,hN⟩:∃ N,N=pl F:=⟨_,rfl⟩
 rw[<-hN]at hp hn k1 k3 htop ⊢;have HA:=Ad (Ai hA (Ai k3 (Ai k5 (Ai htop hs))));clear hA k3 k4 k5 htop hs hv hN
 go_enter Tryz.func148,Tryz.ntmps148
 obtain⟨W1,eW1,ez,y1⟩:=Bh.made w 26 #[.bool false,.slice none 0 0] (by simp[Af])
 go_upto_region 1 with(fail)
 rw[<-eW1];clear eW1;have hx:=y1
 go_wp2_with fail
 refine AB (JR 0 _ Aa Aa) ?_;rintro r2 w2 hr2 hx2;obtain⟨b5,A5,n5,c5,rfl⟩:=hr2.cells;replace ez:=ez.ext hx2;replace hx:=hx.trans hx2;clear hx2;obtain⟨W3,eW3,es,y3⟩:=Bh.made w2 26 #[.bool b5,.slice A5 n5 c5] (by simp[Af]);have hsm:=Bp.mk es (hr2.kd y3.kd);have hgs:=ez.lt;replace ez:=ez.ext y3;replace hx:=hx.trans y3;clear y3;clear hr2 es
 go_upto_region 2 with(fail)
 rw[<-eW3];clear eW3;generalize w2.heap.size=gs at *;go_wp2
 go_loopw [14] (fun iv wr=>∃ (i:Nat) (x:Int),i<=N/\iv = .int .i64 (i:Nat)/\0<=x/\sz x.natAbs<=260+i/\((∃ j,j < i/\F j≠0)->0 < x)/\Bp wr gs 26 x/\Bh wr w.heap.size 26 #[.bool false,.slice none 0 0]/\Ext w wr) (fun iv _=>N - (intOf iv).toNat)
 case atStart=>exact⟨0,0,Aa,rfl,Aa,Ab,fun⟨j,hj,_⟩=>Aa,hsm,ez,hx⟩
 case round =>
  clear hsm ez hx;obtain⟨i,x,hi,rfl,hx0,hxs,hxp,⟨b1,A1,n1,c1,es,hsz⟩,ez,hx⟩:=hrel;have HX:=Ad (Ai hx0 (Ai hxs (Ai hxp hsz)));clear hx0 hxs hxp hsz;by_cases hiN:i < N
  ·have hlt:i < l.length:=by have:=HA.out.2.1;omega
   have hli:F i=(l[i]:Rat):=by rw[<-Cn hlt,HA.out.2.2.1]
   have hqi:=HA.out.2.2.2.2 i;rw[hli,Bi]at hqi;obtain⟨g,o,b3,A3,n3,c3,e3,-,q0,q1,hq⟩:=HA.out.1.at_ hlt;cases e3;obtain⟨y,hy⟩:∃ y,y=l[i]:=⟨_,rfl⟩
   rw[<-hy]at hq hli hqi;have HI:=Ad (Ai (hq.has Aa) (Ai hli (show sz y.natAbs<=129 by omega)));clear hq hqi hli hy hlt;replace q0:=hx.cell q0;replace q1:=hx.cell q1;obtain⟨W7,eW7,e6,y7⟩:=Bh.made wr 26 #[.bool b3,.slice A3 n3 c3] (by simp[Af]);have hg6:=es.lt;have hgz:=ez.lt
   go_upto_region 5 with(fail)
   rw[<-eW7];clear eW7 q0 q1;replace HX:=Ad (Ai HX.out.1 (Ai HX.out.2.1 (Ai HX.out.2.2.1 (HX.out.2.2.2.ext_ y7))));replace ez:=ez.ext y7;replace es:=es.ext y7;replace hx:=hx.trans y7;clear y7;generalize wr.heap.size=g6 at *;have ce6:=e6.cells2;have fe6:=e6.frozen;obtain⟨ces0,ces1⟩:=es.cells2;have fes:=es.frozen;refine CP 4 [18,19,20,21] [3,5] [_,_] [(kv ?_),(kv ?_),(kv ?_),(fun γ=>γ 3)] (fun γ w'=>[True,True,True,AP w' (γ 3) (y*y)]) ?s1 ?_
   case s1 =>
    iterate 4 refine⟨?_,?_⟩
    trivial
    iterate 3 focus
     refine AY fun _ w' he R hR=>?_;have hc:=he.cells;have cq0:=(e6.ext he).cells2;have cq1:=he.cell ces0;have cq2:=he.cell ces1;go_simp;exact Br hR
    ·refine AY fun _ w' he R hR=>?_
     go_simp;exact Bf (E8 _ _ y y w' (HI.out.1.ext (hx.trans he)) (HI.out.1.ext (hx.trans he))) hR
   intro γ w8 hx8 hF;have p3:AP w8 (γ 3) (y*y):=Ak.get hF 3 Ab;clear hF;simp only[Bg,Nat.reduceAdd];generalize γ 3=g3 at *;clear γ;have hyy:sz (y*y).natAbs<=258:=by
    rw[Int.natAbs_mul];have:=Cg y.natAbs y.natAbs;have:=HI.out.2.2;omega
   have hsum:sz (x+y*y).natAbs<=260+(i+1):=by
    have h1:=Bl (Int.natAbs_add_le x (y*y));have h2:=GA x.natAbs (y*y).natAbs;have:=HX.out.2.1;omega
   have hyn:0<=y*y:=by
    rcases Int.le_total 0 y with h | h
    ·exact Int.mul_nonneg h h
    ·have:=Int.mul_nonneg (show 0 <= -y by omega) (show 0 <= -y by omega)
     rw[Int.neg_mul_neg]at this;exact this
   have hyp:F i≠0->0 < y*y:=fun hne=>by
    have hy0:y≠0:=fun e=>hne (by rw[HI.out.2.1,e];rfl);have:y*y≠0:=fun e=>by rcases Int.mul_eq_zero.1 e with q | q<;>exact hy0 q
    omega
   have HS:=Ad (Ai hsum (Ai hyn (Ai hyp (Ai hyy HX.out.2.1))));clear hsum hyn hyp hyy
   go_wp2_with fail
   refine AB (Ow _ _ x (y*y) _ ((HX.out.2.2.2.ext_ hx8).has (by have:=HS.out.2.2.2.2;omega)) (p3.has (by have:=HS.out.2.2.2.1;omega))) ?_;rintro r9 w9 hr9 hx9;obtain⟨b9,A9,n9,c9,rfl⟩:=hr9.cells;have x89:=hx8.trans hx9;clear ce6 ces0 ces1 fe6 fes p3 e6;replace ez:=ez.ext x89;replace es:=es.ext x89;replace hx:=hx.trans x89;clear x89;clear hx8 hx9;obtain⟨ces0,ces1⟩:=es.cells2;have fes:=es.frozen
   go_upto_region 6 with(fail)
   obtain⟨W10,eW,es',U⟩:=es.put2 (.bool b9) (.slice A9 n9 c9);rw[<-eW];clear eW es;replace hr9:=hr9.kd U.kd;replace ez:=ez.upd U Aj;replace hx:=U.from_ hx Aj;have es:=es';clear U es';clear ces0 ces1 fes;go_wp2
   go_roundw
   case rel=>exact⟨i+1,x+y*y,Aa,by go_num,by have:=HX.out.1;have:=HS.out.2.1;omega,HS.out.1,fun⟨j,hj,hne⟩=>by
    have h1:=HX.out.1;have h2:=HS.out.2.1;rcases Nat.lt_or_ge j i with q | q
    ·have:=HX.out.2.2.1 ⟨j,q,hne⟩;omega
    ·obtain rfl:j=i:=by omega
     have:=HS.out.2.2.1 hne;omega,Bp.mk es hr9,ez,hx⟩
   case measure=>simp[intOf];omega
  ·obtain rfl:i=N:=by omega
   have hpos:0 < x:=HX.out.2.2.1 ⟨i - 1,Aa,HA.out.2.2.2.1⟩;have HP:=Ad (Ai hpos (show sz x.natAbs<=1000 by have:=HX.out.2.1;omega));clear hpos;have hgz:=ez.lt;obtain⟨ces0,ces1⟩:=es.cells2;have fes:=es.frozen
   go_wp2_with fail
   refine AB (Yn _ x _ (HX.out.2.2.2.has (by have:=HP.out.2;omega)) HP.out.1 HP.out.2) ?_;rintro r11 w11 ⟨r0,q,bq,rfl,hr0,hq0,hqs⟩ hx11;obtain⟨b12,A12,n12,c12,rfl⟩:=hr0.cells;have HQ:=Ad hqs;clear hqs hq0 ces0 ces1 fes es;replace ez:=ez.ext hx11;replace hx:=hx.trans hx11;clear hx11;obtain⟨W12,eW12,er,y12⟩:=Bh.made w11 26 #[.bool b12,.slice A12 n12 c12] (by simp[Af]);have hrr:=Bp.mk er (hr0.kd y12.kd)
   have hgr:=ez.lt;replace ez:=ez.ext y12;replace hx:=hx.trans y12;clear y12;clear er hr0
   go_upto_region 8 with(fail)
   rw[<-eW12];clear eW12;generalize w11.heap.size=gr at *
   go_wp2_with fail
   refine AB (JR 2 _ Aa Aa) ?_;rintro r13 w13 hr13 hx13;replace ez:=ez.ext hx13;replace hrr:=hrr.ext hx13;replace hx:=hx.trans hx13;clear hx13;obtain⟨k,hk⟩:∃ k,i=k+1:=⟨i - 1,Aa⟩
   have hki:((i:Nat):Int) - 1=(k:Nat):=by omega
   go_wp2_with fail
   refine Calls.mono (show Bc 176 _ _ (fun r w'=>FE w' r (2^k) 0)from by
    first
     | (rw[hki];exact U6 _ k _ (hr13.has Ab) Aa)
     | exact U6 _ k _ (hr13.has Ab) Aa) ?_
   rintro e w14 ⟨r14,rfl,⟨r15,rfl,hr15⟩,hx14⟩;obtain⟨b15,A15,n15,c15,rfl⟩:=hr15.cells;clear hr13;replace ez:=ez.ext hx14;replace hrr:=hrr.ext hx14;replace hx:=hx.trans hx14;clear hx14;obtain⟨W16,eW16,et,y16⟩:=Bh.made w14 26 #[.bool b15,.slice A15 n15 c15] (by simp[Af]);have htt:=hr15.kd y16.kd;have hgt:=hrr.lt;replace ez:=ez.ext y16;replace hrr:=hrr.ext y16;replace hx:=hx.trans y16;clear y16;clear hr15
   go_upto_region 9 with(fail)
   rw[<-eW16];clear eW16;generalize w14.heap.size=gt at *;obtain⟨b17,A17,n17,c17,er,hrz⟩:=hrr;have hk9:=JD k;have HT:=Ad (Ai htt (Ai hrz (show sz ((2:Int)^k).natAbs<=1099511627776 by omega)));clear htt hrz hk9;have hs1:sz (q+1).natAbs<=1099511627776:=by
    have h1:=Bl (Int.natAbs_add_le q 1);have h2:=GA q.natAbs (1:Int).natAbs;have h3:sz (1:Int).natAbs=1:=by decide
    have:=HQ.out;omega
   have HS1:=Ad hs1;clear hs1;have cet:=et.cells2;have fet:=et.frozen;have cer:=er.cells2;have fer:=er.frozen;have cez:=ez.cells2;have fez:=ez.frozen;refine CP 4 [38,39,40,41] [9,6] [_,_] [(kv ?_),(kv ?_),(fun γ=>γ 2),(fun γ=>γ 3)] (fun γ w'=>[True,True,AP w' (γ 2) 1,AP w' (γ 3) (q+1)]) ?s2 ?_
   case s2 =>
    iterate 4 refine⟨?_,?_⟩
    trivial
    iterate 2 focus
     refine AY fun _ w' he R hR=>?_;have hc:=he.cells;have cq0:=(et.ext he).cells2;have cq1:=(er.ext he).cells2;go_simp;exact Br hR
    ·refine AY fun _ w' he R hR=>?_
     go_simp;exact Bf (JR 1 w' Aa Aa) hR
    ·refine EF fun γ w' he hf R hR=>?_;have f2:AP w' (γ 2) 1:=hf 2 Ab;clear hf
     go_simp;exact Bf (Ow _ _ q 1 w' ((HT.out.2.1.ext_ he).has (by have:=HQ.out;omega)) (f2.has Ab)) hR
   intro γ w18 hx18 hF;have p2:AP w18 (γ 2) 1:=Ak.get hF 2 Ab;have p3:AP w18 (γ 3) (q+1):=Ak.get hF 3 Ab;clear hF;simp only[Bg,Nat.reduceAdd];generalize γ 2=g2 at *;generalize γ 3=g3 at *;clear γ
   go_wp2_with fail
   refine AB (E8 _ _ (2^k) (q+1) _ ((HT.out.1.ext_ hx18).has HT.out.2.2) (p3.has HS1.out)) ?_;rintro r19 w19 hr19 hx19;obtain⟨b19,A19,n19,c19,rfl⟩:=hr19.cells;have x1819:=hx18.trans hx19;clear cet cer cez fet fer fez p2 p3;replace ez:=ez.ext x1819;replace hx:=hx.trans x1819;clear x1819;clear hx18 hx19;have cez:=ez.cells2;have fez:=ez.frozen;go_wp2;obtain⟨W20,eW,ez',U⟩:=ez.put2 (.bool b19) (.slice A19 n19 c19)
   rw[<-eW];clear eW ez;replace hr19:=hr19.kd U.kd;replace hx:=U.from_ hx Aj;have ez:=ez';clear U ez';clear cez fez;have cez:=ez.cells2;have fez:=ez.frozen;refine bodyPost_ret (v := .agg #[.bool b19,.slice A19 n19 c19]) (by simp[results,Tryz.results148,go_sem,cez]) rfl ?_;exact Ag.mk ⟨_,hr19⟩ hx
theorem Xk(v:Value)(l:List Int)(w:World)(hv:De 0 w v l)(hn:l.length<=1000000):Bc 98 #[v] w (fun r _=>kX (cz l) r):=by
 have HV:=Ad hv;have fF:Ae (cz l):=⟨_,BG l⟩
 have zF:ZI (cz l):=ZI.cz l;obtain⟨A,c,rfl⟩:=hv.len;clear hv
 go_enter Tryz.func98,Tryz.ntmps98
 obtain⟨W1,eW1,ez,y1⟩:=Bh.made w 26 #[.bool false,.slice none 0 0] (by simp[Af])
 go_upto_region 1 with(fail)
 rw[<-eW1];clear eW1;have hx:=y1;clear y1
 go_wp2_with fail
 refine AB (aV _ l _ (HV.out.ext hx) hn) ?_;rintro r2 w2 ⟨u,rfl,hu1,hu2⟩ hx2;replace ez:=ez.ext hx2;replace hx:=hx.trans hx2;clear hx2;have hgz:=ez.lt;obtain⟨E,hE⟩:∃ E,E=Ct (cz l):=⟨_,rfl⟩
 have hc:=DV (cz l);rw[<-hE]at hu1 hu2 hc ⊢;have HE:=Ad hE;clear hE;have fin:∀(W:World) (b:Bool) (A:Option Addr) (n c:Nat),Ext w W->Ag w (fun r _=>kX (cz l) r) (.returned (.tuple #[.agg #[.bool b,.slice A n c],.int .i64 E])) W:=fun W b A n c h=>Ag.mk ⟨_,_,_,_,by rw[HE.out]⟩ h;have Hfin:=Ad fin;clear fin;rcases hc with⟨-,hc⟩ | ⟨-,hc⟩ | ⟨h0,hp,hw,hc⟩
 ·subst hc
  clear hu1 hu2;have cez:=ez.cells2;have fez:=ez.frozen;go_wp2;obtain⟨W3,eW,ez',U⟩:=ez.put2 (.bool false) (.slice none 0 0);rw[<-eW];clear eW ez;replace hx:=U.from_ hx Aj;have ez:=ez';clear U ez';clear cez fez;have cez:=ez.cells2;have fez:=ez.frozen;refine bodyPost_ret (v := .tuple #[.agg #[.bool false,.slice none 0 0],.int .i64 5]) (by simp[results,Tryz.results98,go_sem,cez]) rfl ?_;exact Hfin.out _ _ _ _ _ hx
 ·subst hc
  clear hu1 hu2;have cez:=ez.cells2;have fez:=ez.frozen;go_wp2;obtain⟨W3,eW,ez',U⟩:=ez.put2 (.bool false) (.slice none 0 0);rw[<-eW];clear eW ez;replace hx:=U.from_ hx Aj;have ez:=ez';clear U ez';clear cez fez;have cez:=ez.cells2;have fez:=ez.frozen;refine bodyPost_ret (v := .tuple #[.agg #[.bool false,.slice none 0 0],.int .i64 7]) (by simp[results,Tryz.results98,go_sem,cez]) rfl ?_;exact Hfin.out _ _ _ _ _ hx
 ·subst hc
  have hq:=YX zF hw;have hu:=hu1 rfl;obtain⟨A1,c1,rfl,-⟩:=hu.shape;clear hu1 hu2
  go_wp2_with fail
  refine AB (Ym _ (cz l) _ hu fF h0 hp hq) ?_;rintro r4 w4 ⟨x4,hr4⟩ hx4;obtain⟨b5,A5,n5,c5,rfl⟩:=hr4.cells;clear hu;replace ez:=ez.ext hx4;replace hx:=hx.trans hx4;clear hx4;have cez:=ez.cells2;have fez:=ez.frozen;go_wp2;obtain⟨W3,eW,ez',U⟩:=ez.put2 (.bool b5) (.slice A5 n5 c5);rw[<-eW];clear eW ez;replace hx:=U.from_ hx Aj;have ez:=ez';clear U ez';clear cez fez;have cez:=ez.cells2;have fez:=ez.frozen
  refine bodyPost_ret (v := .tuple #[.agg #[.bool b5,.slice A5 n5 c5],.int .i64 0]) (by simp[results,Tryz.results98,go_sem,cez]) rfl ?_;exact Hfin.out _ _ _ _ _ hx
theorem Vv(v:Value)(l:List Int)(w:World)(hv:De 0 w v l)(hn:l.length<=1000000):Bc 48 #[v] w (fun r w'=>mD w.heap.size (cz l) w' r):=by
 have HV:=Ad hv;obtain⟨A,c,rfl⟩:=hv.len;clear hv
 go_enter Tryz.func48,Tryz.ntmps48
 go_wp2_with fail
 refine AB (Xk _ l _ HV.out hn) ?_;rintro r2 w2 ⟨b5,A5,n5,c5,rfl⟩ hx2;obtain⟨W1,eW1,-,y1⟩:=Bh.made w2 26 #[.bool b5,.slice A5 n5 c5] (by simp[Af]);have hx:=hx2.trans y1;clear hx2 y1
 go_upto_region 2 with(fail)
 rw[<-eW1];clear eW1;obtain⟨E,hE⟩:∃ E,E=Ct (cz l):=⟨_,rfl⟩
 have hc:=DV (cz l);rw[<-hE]at hc ⊢;have HE:=Ad hE;clear hE;rcases hc with⟨-,hc⟩ | ⟨-,hc⟩ | ⟨-,-,-,hc⟩
 ·subst hc
  go_wp2;refine bodyPost_ret (v := .tuple #[.slice none 0 0,.int .i64 5]) (by simp[results,Tryz.results48,go_sem]) rfl ?_;exact Ag.mk ⟨_,by rw[<-HE.out],fun e=>by rw[<-HE.out]at e;exact absurd e Ab,fun _=>rfl⟩ hx
 ·subst hc
  go_wp2;refine bodyPost_ret (v := .tuple #[.slice none 0 0,.int .i64 7]) (by simp[results,Tryz.results48,go_sem]) rfl ?_;exact Ag.mk ⟨_,by rw[<-HE.out],fun e=>by rw[<-HE.out]at e;exact absurd e Ab,fun _=>rfl⟩ hx
 ·subst hc
  go_wp2_with fail
  refine AB (LQ _ l _ (HV.out.ext hx) Aa) ?_;rintro r4 w4 hr4 hx4;obtain⟨A1,c1,rfl,-⟩:=hr4.shape;have hx5:=hx.trans hx4;have HR:=Ad (hr4.base_le hx.size);clear hr4;go_wp2;refine bodyPost_ret (v := .tuple #[.slice A1 (pl (cz l)) c1,.int .i64 0]) (by simp[results,Tryz.results48,go_sem]) rfl ?_;exact Ag.mk ⟨_,by rw[<-HE.out],fun _=>HR.out,fun e=>by rw[<-HE.out]at e;exact absurd rfl e⟩ hx5
theorem SS(v:Value)(l:List Int)(w:World)(hv:De 0 w v l)(hn:l.length<=1000000):Bc 48 #[v] w (fun r w'=>RA (cz l) w' r):=
 Ag.imp (Vv v l w hv hn) fun _ _ ⟨u,h1,h2,h3⟩=>⟨u,h1,fun e=>(h2 e).base_le (Nat.zero_le _),h3⟩
theorem Xf(v u z:Value)(W:Nat->Rat)(p q:Rat)(base S D M t K:Nat)(w:World)(hv:Lu base 23 w v W)(hu:BC w u p)(hz:BC w z q)(hC:Gf W S D M)(hK:MM W (pd W) K)(hp:qsz p<=t)(hq:qsz q<=t)
  (ht:1+D*(M+t+1)+M+t+1<=274877906944) :
  Bc 51 #[v,u,z] w (fun r _=>r = .int .i64 ((V (EH W (pd W) K) p:Nat) - (V (EH W (pd W) K) q:Nat):Int)):=by
 obtain⟨c,us,K',rfl,h1,h2,h3⟩:=hv;obtain rfl:=h1.uniq hK;have hl:(EH W (pd W) K').length=K':=CL _ _ _;have hK9:K'<=1000:=by have:=hC.e;have:=hC.D9;omega
 have hch:∀ X (x:Ext w X) a r,BC X a r->qsz r<=t->Bc 101 #[c,a] X (fun o _=>o = .int .i64 (V (EH W (pd W) K') r:Nat)):=fun X x a r ha hr =>
  WE c a us _ r base M t D X (h3.ext x) ha (hC.mem h1) hr ht (by have:=hC.D9;omega) (by rw[hl];omega)
 have b1:=Wp (EH W (pd W) K') p;have b2:=Wp (EH W (pd W) K') q;rw[hl]at b1 b2;obtain⟨Vp,hVp⟩:∃ n,n=V (EH W (pd W) K') p:=⟨_,rfl⟩
 obtain⟨Vq,hVq⟩:∃ n,n=V (EH W (pd W) K') q:=⟨_,rfl⟩
 have hc1:∀ X (x:Ext w X),Bc 101 #[c,u] X (fun o _=>o = .int .i64 (Vp:Nat)):=fun X x=>by rw[hVp];exact hch X x u p (hu.ext x) hp
 have hc2:∀ X (x:Ext w X),Bc 101 #[c,z] X (fun o _=>o = .int .i64 (Vq:Nat)):=fun X x=>by rw[hVq];exact hch X x z q (hz.ext x) hq
 rw[<-hVp]at b1 ⊢;rw[<-hVq]at b2 ⊢;have HP:=Ad (Ai hc1 hc2);obtain⟨A0,c0,rfl⟩:=h3.shape;rw[hl]at HP ⊢;obtain⟨b,B,n1,c1,b',B',n1',c1',x0,y0,rfl,-⟩:=hu.form;obtain⟨d,E,n2,c2,d',E',n2',c2',x1,y1,rfl,-⟩:=hz.form;clear hch hu hz hp hq h1 h2 h3 hC hK ht hl hc1 hc2 hVp hVq
 go_enter Tryz.func51,Tryz.ntmps51
 go_upto_region 1 with(fail)
 refine CP 8 [7,8,9,10,11,12,13,14] [3,4,5] [_,_,_] [(kv ?_),(kv ?_),(kv ?_),(kv (.int .i64 (Vp:Nat))),(kv ?_),(kv ?_),(kv ?_),(kv (.int .i64 (Vq:Nat)))] (fun γ w'=>[True,True,True,True,True,True,True,True]) ?s1 ?_
 case s1 =>
  iterate 8 refine⟨?_,?_⟩
  trivial
  iterate 3 focus
   refine AY fun _ w' he R hR=>?_;have hc:=he.cells;go_simp;exact Br hR
  ·refine AY fun _ w' he R hR=>?_
   go_simp;exact LW (HP.out.1 w' he.a3) hR
  iterate 3 focus
   refine AY fun _ w' he R hR=>?_;have hc:=he.cells;go_simp;exact Br hR
  ·refine AY fun _ w' he R hR=>?_
   go_simp;exact LW (HP.out.2 w' he.a3) hR
 intro γ w1 hx1 hF;clear hF;simp only[Bg,Nat.reduceAdd];clear γ;go_wp2
 go_ret
 exact Ag.mk rfl hx1.a3
end Go.Proofs.YtmhgnigpmompmaaGreat

namespace Go.Proofs.YtmhgnigpmompmaaGreat
open Go.RowKit Go.Hp
set_option maxRecDepth 20000 in
theorem VR(v u:Value)(l m:List Int)(s t M:Nat)(w:World)(hv:De 0 w v l)(hu:De 0 w u m)(hs:∀ i,qsz (cz l i)<=s)(ht:∀ i,qsz (cz m i)<=t)(hn:l.length<=1000000)(hm:m.length<=1000000)(h0:cz m≠pz)(hM:s+(l.length+2)*(t+1)+t+1<=M)(hst:2+(l.length+m.length+4)*(2*M+4)<=274877906944) :
  Bc 105 #[v,u] w ((kL (cz l) (cz m))):=by
 have HV:=Ad hv;have HU:=Ad hu;obtain⟨A0,c0,rfl⟩:=hv.len;obtain⟨A1,c1,rfl⟩:=hu.len;clear hv hu;have hN1:=D5 _ l w HV.out Aa;have hD:=fun W (x:Ext w W)=>Ee _ m W (HU.out.ext x) Aa;have hLd:=fun W (x:Ext w W)=>MH _ m W (HU.out.ext x) Aa;have hc1:=Bj (BG l);have hc2:=Bj (BG m);have hfF:=Ae.cz l;have hzF:=ZI.cz l;have hfG:=Ae.cz m;have hzG:=ZI.cz m;have hL:=AZ hfG h0;have hMb:4*M+12<=274877906944:=by
  have:4*(2*M+4)<=(l.length+m.length+4)*(2*M+4):=Nat.mul_le_mul_right _ Aa;omega
 have hMul:=fun(k:Nat) (z:Int) (W:World) (x:Ext w W) (v:Value) (hv:AC 0 W v (mono k (z:Rat))) (hk:k<=l.length) (hz:qsz (z:Rat)<=M)=>show Bc 23 #[v,.slice A1 m.length c1] W (fun r w'=>AC 0 w' r (cv (mono k (z:Rat)) (cz m)))from by
  have hq:∀ i,qsz (mono k (z:Rat) i)<=M:=fun i=>by
   unfold mono;split
   ·exact hz
   ·have:qsz (0:Rat)=1:=by decide
    have:=Cz (z:Rat);omega
  have hp:=Bj (Dc k (z:Rat));obtain⟨l2,g1,g2,-,g4⟩:=hv.hz (fun i=>by have:=hq i;omega);rw[<-g4];refine Ag.imp (PK _ _ l2 m M t W g1 (HU.out.ext x) (by rw[g4];exact hq) ht ?_ Aa Aa) fun _ _ h=>h.base_le (Nat.zero_le _);have h1:(l2.length+m.length)*(M+t+1)<=(l.length+m.length+4)*(2*M+4):=Nat.mul_le_mul Aa Aa;omega
 obtain⟨F,hF⟩:∃ F,F=cz l:=⟨_,rfl⟩
 obtain⟨G,hG⟩:∃ G,G=cz m:=⟨_,rfl⟩
 rw[<-hF]at hN1 hs hc1 hfF hzF;rw[<-hG]at hc2 hfG hzG hL ht h0;simp only[<-hG]at hD hLd hMul;rw[<-hF,<-hG];obtain⟨n,hnn⟩:∃ n,n=pl F+1 - pl G:=⟨_,rfl⟩
 have hbig:∀ k,k<=n->∀ q,q<=s+k*(t+1)->q+1<=M/\q+t+1<=M:=fun k hk q hq=>by
  have:k*(t+1)<=(l.length+2)*(t+1):=Nat.mul_le_mul_right _ Aa;omega
 have htM:t+1<=M:=by omega
 have hst0:EZ F G n s t n pz F:=EZ.start ((AJ hfF).mono Aa) hzF hs;have HX:=Ad (Ai hfF (Ai hzF (Ai hfG (Ai hzG (Ai h0 (Ai ht (Ai hbig (Ai hMb htM))))))));have HC:=Ad (Ai hD (Ai hLd hMul));have HN:=Ad (Ai hN1 (Ai hst0 hnn));clear hs ht hfF hzF hfG hzG h0 hF hG hD hLd hMul hN1 hst hM hbig hst0 hMb htM HV HU
 go_enter Tryz.func105,Tryz.ntmps105
 go_wp2_with fail
 refine AB HN.out.1 ?_;rintro r1 w1 hr1 hx;have H1:=Ad (hr1.base_le (b:=0) (Nat.zero_le _));clear hr1
 go_wp2_with fail
 refine AB (HC.out.1 w1 hx) ?_;rintro r2 w2 rfl hx2;have h1:=H1.out.ext hx2;replace hx:=hx.trans hx2;clear hx2 H1;go_wp2
 go_loopw [6,8] (fun rv qv wr=>∃ Q R,AC 0 wr rv R/\AC 0 wr qv Q/\EZ F G n s t (pl R+1 - pl G) Q R/\pl R<=pl F/\(∀ m,qsz (Q m)<=M)/\Ext w wr) (fun rv _ _=>OO rv)
 case atStart=>exact⟨pz,F,h1,AC.nil _ _,HN.out.2.2▸HN.out.2.1,Nat.le_refl _,fun m=>by have:qsz (pz m)=1:=by { show qsz 0=1;decide };have:=HX.out.2.2.2.2.2.2.2.2;omega,hx⟩
 case round =>
  clear h1 hx;obtain⟨Q,R,hR,hQ,hst,hRF,hqQ,hx⟩:=hrel;obtain⟨AR,cR,lr,rfl,j1,j2,hA,j3,j4,j5⟩:=hR.form;obtain⟨AQ,cQ,rfl,-⟩:=hQ.shape;have HS:=Ad (Ai hst (Ai hqQ (Ai hA (Ai j3 (Ai j5 (Ai hR hQ))))));clear hst hqQ hA j3 j4 j5 hR hQ;by_cases hle:pl G<=pl R
  ·obtain⟨k,hk⟩:∃ k,k=pl R - pl G:=⟨_,rfl⟩
   have hk1:pl R+1 - pl G=k+1:=by omega
   have hlt:pl R - 1 < lr.length:=by have:=HS.out.2.2.2.1;omega
   obtain⟨g,o,b,B1,n1,d1,rfl,-,q0,q1,hq⟩:=HS.out.2.2.1.at_ (j:=pl R - 1) hlt;have hval:=UO HS.out.2.2.2.2.1 (i:=pl R - 1) hlt;rw[hval]at hq;obtain⟨rv,hrv⟩:∃ rv,rv=(R (pl R - 1)).num:=⟨_,rfl⟩
   rw[<-hrv]at hq;have hrs:qsz (R (pl R - 1))<=s+(n - (k+1))*(t+1):=by rw[<-hk1];exact HS.out.1.2.2.2.2.2.2 _
   have hb2:=HX.out.2.2.2.2.2.2.1 (n - (k+1)) Aa _ hrs;have hln:(ld G).num≠0:=fun e=>Dh HX.out.2.2.1 HX.out.2.2.2.2.1 (by rw[show ld G=((ld G).num:Rat)from HX.out.2.2.2.1.num _,e];rfl);have HQ:=Ad (show sz rv.natAbs<=M/\(ld G).num≠0/\sz (ld G).num.natAbs<=M/\R (k+pl G - 1)=R (pl R - 1)from
    ⟨by rw[hrv];have:=F6 (R (pl R - 1));omega,hln,by have h1:qsz (ld G)<=t:=HX.out.2.2.2.2.2.1 _;have h2:=F6 (ld G);have:=HX.out.2.2.2.2.2.2.2.2;omega,by congr 1;omega⟩)
   have Hq:=Ad (Ai hq (Ai hrv (Ai hk hk1)));clear hq hrv hval hrs hb2 hln hk1 hk;have hind:((pl R:Int) - 1).toNat=pl R - 1:=by omega
   go_wp2_with fail
   go_cut [9,10] (fun pv qv wx=>∃ gc gd,pv = .pointer (some ⟨gc,0,none⟩)/\qv = .pointer (some ⟨gd,0,none⟩)/\Bp wx gc 26 (rv / (ld G).num)/\Bp wx gd 26 (rv % (ld G).num)/\Ext wr wx)
   case first =>
    refine Bu 14 [11] (fun x=>15) [22,23,24,25,26,27,28,29,30,21,31,32,9,10] [[],[],[1],[1,2],[0,1,2,3],[0,1,2,3,4],[],[6],[0,1,2,3,4,5,6,7],[0,1,2,3,4,5,6,7,8],[0,1,2,3,4,5,6,7,8,9],[0,1,2,3,4,5,6,7,8,9],[],[],[0,1,2,3,4,5,6,7,8,9,10,12,13],[0,1,2,3,4,5,6,7,8,9,10,11,12,13,14]] [6,1] [_,_] [(kv ?_),(kv ?_),(kv ?_),(kv ?_),(kv ?_),(kv ?_),(kv ?_),(fun γ=>γ 7),(fun γ=>γ 8),(fun γ=>γ 8),(fun γ=>γ 10),(fun γ=>γ 11),(fun γ=>γ 12),(fun γ=>γ 13)] (fun γ w'=>[True,True,True,True,True,True,True,AP w' (γ 7) (ld G).num,KM w' (γ 8) (rv / (ld G).num) (rv % (ld G).num),True,AP w' (γ 10) (rv / (ld G).num),AP w' (γ 11) (rv % (ld G).num),Bb w' (γ 12) wr.heap.size #[.bool false,.slice none 0 0] 26,Bb w' (γ 13) wr.heap.size #[.bool false,.slice none 0 0] 26]) Ko BP BP BP BP BP LJ BP Ka ?m1 ?s1 ?_ ?l1
    case s1 =>
     iterate 14 refine⟨?_,?_⟩
     trivial
     iterate 7 focus
      refine AY fun _ w' he R hR=>?_;have hc:=he.cells;have cq0:=he.cell q0;have cq1:=he.cell q1;go_simp;(try go_ints);(try(rw[if_neg Aa]));(try(rw[if_pos Aa]));(try go_simp);(try go_ints)
      exact Br hR
     ·refine AY fun _ w' he R hR=>?_
      go_simp;exact Bf (HC.out.2.1 w' (hx.trans he)) hR
     ·refine EF fun γ w' he hf R hR=>?_;have f7:AP w' (γ 7) (ld G).num:=hf 7 Ab;clear hf
      go_simp;exact Bf (Oq _ _ rv (ld G).num w' ((Hq.out.1.kd he.kd).has (by have:=HQ.out.1;have:=HX.out.2.2.2.2.2.2.2.1;omega)) (f7.has (by have:=HQ.out.2.2.1;have:=HX.out.2.2.2.2.2.2.2.1;omega)) HQ.out.2.1 (by have:=HQ.out.1;have:=HX.out.2.2.2.2.2.2.2.1;omega) (by have:=HQ.out.2.2.1;have:=HX.out.2.2.2.2.2.2.2.1;omega)) hR
     ·refine AY fun _ w' he R hR=>?_
      have hc:=he.cells;go_simp
      (try go_ints);(try(rw[if_neg Aa]));(try(rw[if_pos Aa]));(try go_simp);(try go_ints)
      exact Br hR
     ·refine EF fun γ w' he hf R hR=>?_;have f8:KM w' (γ 8) (rv / (ld G).num) (rv % (ld G).num):=hf 8 Ab;clear hf
      obtain⟨a,b',e,ha,hb⟩:=f8;go_simp;exact hR _ _ (Ext.refl _) rfl ha
     ·refine EF fun γ w' he hf R hR=>?_;have f8:KM w' (γ 8) (rv / (ld G).num) (rv % (ld G).num):=hf 8 Ab;clear hf
      obtain⟨a,b',e,ha,hb⟩:=f8;go_simp;exact hR _ _ (Ext.refl _) rfl hb
     ·refine AY fun _ w' he R hR=>?_
      go_simp;exact hR _ _ ((Ext.refl _).alloc _) rfl (Bb.mk (Nat.le_trans Ac he.size) (by simp[Af]))
     ·refine AY fun _ w' he R hR=>?_
      go_simp;exact hR _ _ ((Ext.refl _).alloc _) rfl (Bb.mk (Nat.le_trans Ac he.size) (by simp[Af]))
    case m1 =>
     exact⟨⟨⟨⟨⟨⟨⟨⟨⟨⟨⟨⟨⟨⟨trivial,(fun γ wA w' e h=>h)⟩,(fun γ wA w' e h=>h)⟩,(fun γ wA w' e h=>h)⟩,(fun γ wA w' e h=>h)⟩,(fun γ wA w' e h=>h)⟩,(fun γ wA w' e h=>h)⟩,(fun γ wA w' e h=>h)⟩,(fun γ wA w' e h=>(show AP wA (γ 7) (ld G).num from h).ext e)⟩,(fun γ wA w' e h=>(show KM wA (γ 8) (rv / (ld G).num) (rv % (ld G).num)from h).ext e)⟩,(fun γ wA w' e h=>h)⟩,(fun γ w w' e h=>AP.ext_ h e)⟩,(fun γ w w' e h=>AP.ext_ h e)⟩,(fun γ wA w' e h=>(show Bb wA (γ 12) wr.heap.size #[.bool false,.slice none 0 0] 26 from h).ext e)⟩,(fun γ wA w' e h=>(show Bb wA (γ 13) wr.heap.size #[.bool false,.slice none 0 0] 26 from h).ext e)⟩
    case l1 =>
     intro Pn hPs hPn;obtain rfl:=Gr hPs hPn;clear hPs hPn
     ·intro γ w3 hx3 hF hA
      have na12x13:γ 12≠γ 13:=hA 12 13 Ab Ab Ab Ab Ab ⟨_,_,rfl,rfl⟩ ⟨_,_,rfl,rfl⟩;clear hA;have p7:AP w3 (γ 7) (ld G).num:=(Ak.get hF 7 Ab).resolve_left Ab;have p8:KM w3 (γ 8) (rv / (ld G).num) (rv % (ld G).num):=(Ak.get hF 8 Ab).resolve_left Ab;have p10:AP w3 (γ 10) (rv / (ld G).num):=(Ak.get hF 10 Ab).resolve_left Ab;have p12:Bb w3 (γ 12) wr.heap.size #[.bool false,.slice none 0 0] 26:=(Ak.get hF 12 Ab).resolve_left Ab
      have p13:Bb w3 (γ 13) wr.heap.size #[.bool false,.slice none 0 0] 26:=(Ak.get hF 13 Ab).resolve_left Ab;clear hF;show AV _ _ _ _ 3 [11] 14 _ _;simp only[Bg,Nat.reduceAdd,Co,SN];generalize γ 7=g7 at *;generalize γ 8=g8 at *;generalize γ 10=g10 at *;generalize γ 12=g12 at *;generalize γ 13=g13 at *;clear γ;obtain⟨a8,b8,rfl,ha8,hb8⟩:=p8
      first | (obtain⟨b7,A7,n7,c7,rfl⟩:=p11.cells;have hy:=p11;clear p11) | (obtain⟨b7,A7,n7,c7,rfl⟩:=hb8.cells;have hy:=hb8)
      clear hb8 ha8;obtain⟨gc,rfl,hgc,ec⟩:=p12;obtain⟨gd,rfl,hgd,ed⟩:=p13;have hcd:gc≠gd:=fun e=>na12x13 (by rw[e]);clear na12x13;obtain⟨b5,A5,n5,c5,rfl⟩:=p10.cells;clear q0 q1 p7 hind;obtain⟨cec0,cec1⟩:=ec.cells2;have fec:=ec.frozen;obtain⟨ced0,ced1⟩:=ed.cells2;have fed:=ed.frozen
      repeat' first
       | (refine AV.nil ?_;simp only[Gj];go_wp2;done)
       | (refine AV.nil ?_;(try simp only[Gj]);go_wp2)
       | (refine AV.mk _ ⟨?_,trivial⟩ (fun h=>?_)<;>first | exact absurd h Ab | ((try clear h);simp only[CX,Gj];go_wp2;first | show AV _ _ _ _ _ [11] _ _ _ | show AV _ _ _ _ _ [] _ _ _))
      all_goals
       skip;obtain⟨W4,eW,ec',U⟩:=ec.put2 (.bool b5) (.slice A5 n5 c5);rw[<-eW];clear eW ec;replace p10:=p10.kd U.kd;replace hy:=hy.kd U.kd;replace ed:=ed.upd U Aj;replace hx3:=U.from_ hx3 Aj;have ec:=ec';clear U ec';obtain⟨W5,eW,ed',U⟩:=ed.put2 (.bool b7) (.slice A7 n7 c7);rw[<-eW];clear eW ed;replace p10:=p10.kd U.kd;replace hy:=hy.kd U.kd;replace ec:=ec.upd U Aj;replace hx3:=U.from_ hx3 Aj;have ed:=ed'
       clear U ed'
       go_meet
       case rel=>exact⟨gc,gd,rfl,rfl,Bp.mk ec p10,Bp.mk ed hy,hx3⟩
    intro γ w3 hx3 hF hA;have na12x13:γ 12≠γ 13:=hA 12 13 Ab Ab Ab ⟨_,_,rfl,rfl⟩ ⟨_,_,rfl,rfl⟩;clear hA;have p7:AP w3 (γ 7) (ld G).num:=Ak.get hF 7 Ab;have p8:KM w3 (γ 8) (rv / (ld G).num) (rv % (ld G).num):=Ak.get hF 8 Ab;have p10:AP w3 (γ 10) (rv / (ld G).num):=Ak.get hF 10 Ab;have p11:AP w3 (γ 11) (rv % (ld G).num):=Ak.get hF 11 Ab;have p12:Bb w3 (γ 12) wr.heap.size #[.bool false,.slice none 0 0] 26:=Ak.get hF 12 Ab
    have p13:Bb w3 (γ 13) wr.heap.size #[.bool false,.slice none 0 0] 26:=Ak.get hF 13 Ab;clear hF;simp only[Bg,Nat.reduceAdd];generalize γ 7=g7 at *;generalize γ 8=g8 at *;generalize γ 10=g10 at *;generalize γ 11=g11 at *;generalize γ 12=g12 at *;generalize γ 13=g13 at *;clear γ;obtain⟨a8,b8,rfl,ha8,hb8⟩:=p8
    first | (obtain⟨b7,A7,n7,c7,rfl⟩:=p11.cells;have hy:=p11;clear p11) | (obtain⟨b7,A7,n7,c7,rfl⟩:=hb8.cells;have hy:=hb8)
    clear hb8 ha8;obtain⟨gc,rfl,hgc,ec⟩:=p12;obtain⟨gd,rfl,hgd,ed⟩:=p13;have hcd:gc≠gd:=fun e=>na12x13 (by rw[e]);clear na12x13;obtain⟨b5,A5,n5,c5,rfl⟩:=p10.cells;clear q0 q1 p7 hind;obtain⟨cec0,cec1⟩:=ec.cells2;have fec:=ec.frozen;obtain⟨ced0,ced1⟩:=ed.cells2;have fed:=ed.frozen;go_wp2;skip;obtain⟨W4,eW,ec',U⟩:=ec.put2 (.bool b5) (.slice A5 n5 c5);rw[<-eW];clear eW ec;replace p10:=p10.kd U.kd;replace hy:=hy.kd U.kd
    replace ed:=ed.upd U Aj;replace hx3:=U.from_ hx3 Aj;have ec:=ec';clear U ec';obtain⟨W5,eW,ed',U⟩:=ed.put2 (.bool b7) (.slice A7 n7 c7);rw[<-eW];clear eW ed;replace p10:=p10.kd U.kd;replace hy:=hy.kd U.kd;replace ec:=ec.upd U Aj;replace hx3:=U.from_ hx3 Aj;have ed:=ed';clear U ed'
    go_meet
    case rel=>exact⟨gc,gd,rfl,rfl,Bp.mk ec p10,Bp.mk ed hy,hx3⟩
   case rest =>
    clear q0 q1 hind;obtain⟨gc,gd,rfl,rfl,⟨b5,A5,n5,c5,ec,hz⟩,⟨b7,A7,n7,c7,ed,hy⟩,hx3⟩:=hcut;have xw:=hx3;replace hx:=hx.trans hx3;have Hz:=Ad hz;have Hy:=Ad hy;clear hz hy;obtain⟨cec0,cec1⟩:=ec.cells2;have fec:=ec.frozen;obtain⟨ced0,ced1⟩:=ed.cells2;have fed:=ed.frozen
    go_wp2_with fail
    refine Calls.mono (J9 _ (rv % (ld G).num) _ (Hy.out.has (by
     have h1:=HQ.out.2.2.1;have h2:(rv % (ld G).num).natAbs<=(ld G).num.natAbs:=by
      have h3:=Int.emod_nonneg rv HQ.out.2.1;have h4:=Int.emod_lt rv HQ.out.2.1;omega
     have h5:=Bl h2;have h6:=HX.out.2.2.2.2.2.2.2.1;omega))) ?_
    rintro e w5 ⟨r5,rfl,rfl,hx5⟩;replace xw:=xw.trans hx5;replace hx:=hx.trans hx5;by_cases hd:(ld G).num∣rv
    ·have hs0:((rv % (ld G).num).sign != 0)=false:=by rw[Sw];simpa using hd
     have hz5:=Hz.out.kd hx5.kd;have ec5:=ec.ext hx5;have HD:=Ad (Ai hd hz5);clear hd hz5 ec ed cec0 cec1 fec ced0 ced1 fed hx3 hx5 Hy Hz;have cec5:=ec5.cells2;have fec5:=ec5.frozen;obtain⟨z,hzz⟩:∃ z,z=rv / (ld G).num:=⟨_,rfl⟩
     rw[<-hzz]at HD;have hk:=Hq.out.2.2.1;have hkn:k < n:=by have:=HN.out.2.2;omega
     have hst:=HS.out.1;rw[Hq.out.2.2.2]at hst;have hzv:R (k+pl G - 1)=(z:Rat)*ld G:=by
      rw[hzz,Hq.out.2.1,<-HQ.out.2.2.2];exact hst.yes HX.out.2.2.2.1 (by rw[HQ.out.2.2.2,<-Hq.out.2.1];exact HD.out.1)
     have hzq:qsz (z:Rat)<=qsz (R (k+pl G - 1)):=Nt (Dh HX.out.2.2.1 HX.out.2.2.2.2.1) (HX.out.2.2.2.1 _) hzv;have hrq:=hst.2.2.2.2.2.2 (k+pl G - 1);have hbb:=HX.out.2.2.2.2.2.2.1 _ (show n - (k+1)<=n by omega) _ hrq;have hz0:z≠0:=fun e=>by
      have h1:R (pl R - 1)≠0:=Ez hst.fin (by have:=AZ HX.out.2.2.1 HX.out.2.2.2.2.1;omega)
      apply h1
      rw[<-HQ.out.2.2.2,hzv,e];show((0:Int):Rat)*ld G=0;simp
     have hst2:=hst.step HX.out.2.2.1 HX.out.2.2.2.2.1 HX.out.2.2.2.1 HX.out.2.2.2.2.2.1 hkn hzv;have hplR:=Bj hst2.2.2.1;have hpG:=AZ HX.out.2.2.1 HX.out.2.2.2.2.1;have HZ:=Ad (show EZ F G n s t (pl (psb R (cv (mono k (z:Rat)) G))+1 - pl G) (pad Q (mono k (z:Rat))) (psb R (cv (mono k (z:Rat)) G))/\pl (psb R (cv (mono k (z:Rat)) G)) < pl R/\z≠0/\qsz (z:Rat)+1<=M/\(∀ i,qsz (cv (mono k (z:Rat)) G i)<=2*M)/\(∀ i,qsz (mono k (z:Rat) i)<=M)/\(∀ i,qsz (pad Q (mono k (z:Rat)) i)<=M)/\(∀ i,qsz (R i)<=M)/\pl (cv (mono k (z:Rat)) G)<=549755813888/\pl (mono k (z:Rat))<=549755813888/\pl Q<=549755813888 from by
      have o1:qsz (0:Rat)=1:=by decide
      have o2:=Cz (z:Rat);have hmn:∀ i,qsz (mono k (z:Rat) i)<=M:=fun i=>by
       unfold mono;split<;>omega
      refine⟨hst2.lower Aa ((AJ hst2.fin).mono Aa),Aa,hz0,Aa,fun i=>?_,hmn,fun i=>?_,fun i=>?_,?_,?_,?_⟩
      ·rw[Fg]
       show qsz ((z:Rat)*sh k G i)<=_;have a1:=BS (z:Rat) (sh k G i);have a2:qsz (sh k G i)<=M:=by
        unfold sh;split
        ·omega
        ·have:=HX.out.2.2.2.2.2.1 (i - k);have:=HX.out.2.2.2.2.2.2.2.2;omega
       omega
      ·by_cases e:i=k
       ·subst e
        show qsz (Q i+mono i (z:Rat) i)<=M;rw[hst.1 i Aa,Rat.zero_add];exact hmn i
       ·show qsz (Q i+mono k (z:Rat) i)<=M
        rw[ER e,Rat.add_zero];exact HS.out.2.1 i
      ·have h1:=hst.2.2.2.2.2.2 i
       have:=HX.out.2.2.2.2.2.2.1 _ (show n - (k+1)<=n by omega) _ h1;omega
      ·have:=Bj ((Dc k (z:Rat)).cv (AJ HX.out.2.2.1));omega
      ·have:=Bj (Dc k (z:Rat));omega
      ·have:=Bj hst.2.1;have:=HN.out.2.2;omega)
     have hkk:(pl R:Int) - 1 - ((pl G:Int) - 1)=(k:Nat):=by omega
     have hkl:k<=l.length:=by omega
     have hplRb:pl R<=549755813888:=by omega
     have hzrow:De 0 (w5.alloc (.cells #[.bool b5,.slice A5 n5 c5] 26)) (.slice (some ⟨w5.heap.size,0,none⟩) 1 1) [z]:=
      Mo.has (CK.row (EI.own (EI.mk HD.out.2 (base:=0) (Nat.zero_le _) 26))) (fun x hx=>by
       simp at hx;subst hx;have h1:sz x.natAbs<=qsz (x:Rat):=by rw[Bi];omega
       have h2:=HX.out.2.2.2.2.2.2.2.1;omega)
     have HR:=Ad hzrow;clear hst hzv hzq hrq hbb hz0 hst2 hplR hzz hzrow hk
     go_wp2_with fail
     refine AB (P5 _ z k _ HR.out HZ.out.2.2.1 Aa) ?_;rintro r6 w6 hr6 hx6;replace xw:=(xw.alloc _).trans hx6;replace hx:=(hx.alloc _).trans hx6;have H6:=Ad hr6;clear hr6 hx6 HR hkk
     go_wp2_with fail
     refine AB (kJ _ _ Q (mono k (z:Rat)) M M _ (HS.out.2.2.2.2.2.2.ext xw) H6.out HS.out.2.1 HZ.out.2.2.2.2.2.1 (by have:=HX.out.2.2.2.2.2.2.2.1;omega) HZ.out.2.2.2.2.2.2.2.2.2.2 HZ.out.2.2.2.2.2.2.2.2.2.1) ?_;rintro r7 w7 hr7 hx7;obtain⟨A7,c7,rfl,-⟩:=hr7.shape;have h6:=H6.out.ext hx7;have H7:=Ad hr7;replace xw:=xw.trans hx7;replace hx:=hx.trans hx7;have H6':=Ad h6;clear h6 hx7 hr7 H6
     go_wp2_with fail
     refine AB (HC.out.2.2 k z _ hx _ H6'.out Aa (by have:=HZ.out.2.2.2.1;omega)) ?_;rintro r8 w8 hr8 hx8;have h7:=H7.out.ext hx8;replace xw:=xw.trans hx8;replace hx:=hx.trans hx8;have H8:=Ad (Ai hr8 h7);clear hr8 h7 hx8 H7 H6'
     go_wp2_with fail
     refine AB (jY _ _ R (cv (mono k (z:Rat)) G) M (2*M) _ (HS.out.2.2.2.2.2.1.ext xw) H8.out.1 HZ.out.2.2.2.2.2.2.2.1 HZ.out.2.2.2.2.1 (by have:=HX.out.2.2.2.2.2.2.2.1;omega) hplRb HZ.out.2.2.2.2.2.2.2.2.1) ?_;rintro r9 w9 hr9 hx9;have h8:=H8.out.2.ext hx9;replace hx:=hx.trans hx9;obtain⟨A9,c9,rfl,-⟩:=hr9.shape;have H9:=Ad (Ai hr9 h8);clear hr9 h8 hx9 H8;go_wp2
     go_roundw
     case rel=>exact⟨_,_,H9.out.1,H9.out.2,HZ.out.1,by have:=HZ.out.2.1;omega,HZ.out.2.2.2.2.2.2.1,hx⟩
     case measure=>exact HZ.out.2.1
    ·have hs0:((rv % (ld G).num).sign != 0)=true:=by rw[Sw];simpa using hd
     have hno:¬ Ie F G:=by
      have h1:=HS.out.1;rw[Hq.out.2.2.2]at h1;exact h1.no HX.out.2.2.1 HX.out.2.2.2.2.1 HX.out.2.2.2.1 (by rw[HQ.out.2.2.2,<-Hq.out.2.1];exact hd)
     have HNo:=Ad hno;clear hno hd;go_wp2
     go_ret2
     exact Ag.mk ⟨_,false,rfl,⟨_,_,_,rfl⟩,⟨fun h=>absurd h Ab,fun h=>absurd h HNo.out⟩,fun h=>absurd h Ab⟩ hx
  ·have hfR:=HS.out.1.fin
   have hzd:Ie F G↔R=pz:=by rw[HS.out.1.zdv,Us hfR HX.out.2.2.1 Aa]
   by_cases hp:pl R=0
   ·have hRz:=(Bt hfR).1 hp
    have hQq:Q=pq F G:=by
     have h1:=HS.out.1.2.2.2.1;exact(Ib HX.out.1 HX.out.2.2.1 HX.out.2.2.2.2.1 ⟨_,HS.out.1.2.1⟩ h1 (by rw[hRz];exact BA.pz _)).1
    have HY:=Ad (Ai (hzd.2 hRz) hQq);clear hfR hzd hRz hQq hle;rw[hp];go_wp2
    go_ret2
    exact Ag.mk ⟨_,true,rfl,⟨_,_,_,rfl⟩,⟨fun _=>HY.out.1,fun _=>rfl⟩,fun _=>by rw[<-HY.out.2];exact HS.out.2.2.2.2.2.2⟩ hx
   ·have hno:¬ Ie F G:=fun h=>hp (by rw[hzd.1 h,BH])
    have hb:((pl R:Int)==0)=false:=by simpa using hp
    have HY:=Ad hno;clear hfR hzd hno hp;go_wp2
    go_ret2
    exact Ag.mk ⟨_,false,rfl,⟨_,_,_,rfl⟩,⟨fun h=>absurd h Ab,fun h=>absurd h HY.out⟩,fun h=>absurd h Ab⟩ hx
end Go.Proofs.YtmhgnigpmompmaaGreat
