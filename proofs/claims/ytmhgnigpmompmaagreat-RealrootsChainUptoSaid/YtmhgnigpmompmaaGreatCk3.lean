/- Lemmas: The contracts of the reference's fractions: the operations. The contracts of rational's functions: Sub, Cmp; qpoly.zero. The walks of qpoly: rows. The walks of qpoly: Add, Sub, Scale. The walks of qpoly: Scale; the wrappers. The walk of qpoly.Mul. The walks of qpoly: Derivative. The division, place by place. Plain. The walk of qpoly.divide. Power sums, one after the other; how many digits they need. Plain. How many digits power sums need. Plain. The reference's power sums: what is left of the shifted derivative. Plain. The polynomial with given power sums. Plain. The walks of the reference's polynomials: Normal, Degree, At. The walks of the reference's polynomials: Add, Scale, Sub, Derivative. The walks of the reference's polynomials: Sub, Derivative, Mul. The walk of the reference's division of polynomials. Euclid's algorithm for polynomials: what a round keeps; sizes. Plain. Interpolation: Newton's and Lagrange's way; sizes. Plain. Euclid's algorithm with cofactors: what a round keeps; sizes. Plain. The walks of the reference's polynomials: Lead, Monic, Eval; contracts over polynomials. The walks of qpoly: monic, DivMod. The walks of qpoly: PowerSums. The walks of the reference's polynomials: PowerSums. The walks of qpoly: FromPowerSums. The walks of the reference's polynomials: FromPowerSums. The walks of the statements' helpers: Z, Q, Qs, Frac, SameRats. The walks of bigint.Bits, Cmp, Pow (of 2), Sqrt. The walks of zpoly: trimmed, Normal, Degree. The contracts of bigint's functions: subtraction. The walks of zpoly: Add, Sub, Scale. Clearing denominators; primitive polynomials are their own primitive part. Plain. Gauss: the content of a product. Plain. The walk of zpoly.Mul. The walks of zpoly: lead, power, PseudoDiv. The walks of zpoly: Content, Primitive. The walk of zpoly.PseudoDiv. Division of polynomials over the integers without remainder. Plain. The walks of bigint.Exact where nothing is divided, and of zpoly.Divide. The walks of bigint.Pow (of 2) and bigint.Sqrt. A region that draws its order, some operations of whose first part may come late; new blocks are told apart. -/
import Derived.Test.YtmhgnigpmompmaaGreatCk1
import Derived.Test.YtmhgnigpmompmaaGreatCk2
import Derived.Deep.RegionWith
import Derived.WalkSmall
import Derived.Lib.RabinKarpLaws
import Derived.Deep.Cut
import Derived.Deep.DeepCutAuto
set_option linter.unusedVariables false
set_option linter.unusedSimpArgs false
namespace Go.Proofs.YtmhgnigpmompmaaGreat
open Go.RowKit Go.Hp
theorem F9(v:Value)(q:Rat)(w:World)(hv:BQ w v q):Calls Tryz.prog 22 #[v] w (Ad w fun r w'=>Bw w' r q):=by
 obtain⟨b,A,n,c,b',A',n',c',x,y,rfl,hx,hy,sx,sy,hq⟩:=hv.form;have HX:=Lib.hid hx;have HY:=Lib.hid hy;clear hx hy hv;have Hq:=Lib.hid hq;clear hq
 go_enter Tryz.func22,Tryz.ntmps22
 go_wp2_with fail
 refine Calls.mono (Ha _ _ x y _ (HX.out.ext (((Ext.refl w).alloc _).alloc _)) (HY.out.ext (((Ext.refl w).alloc _).alloc _)) Aa Aa) ?_;rintro e w1 ⟨r,rfl,hr,hx1⟩;rw[←Hq.out]at hr;obtain⟨b5,A5,n5,c5,b6,A6,n6,c6,rfl⟩:=hr.cells;have hc1:=hx1.cells;have hf1:=hx1.frozens;have Hfin:=Lib.hid (Cs hr hx1.a2 (AL.at_ hx1 (g:=w.heap.size+1) Ac (by simp[Ag])) Aa);clear hr;go_wp2;refine bodyPost_ret (v := .agg #[.bool b5,.slice A5 n5 c5,.bool b6,.slice A6 n6 c6]) (by simp[results,Tryz.results22,go_sem,hc1]) rfl ?_
 exact Hfin.out
theorem Pf(v:Value)(q:Rat)(w:World)(hv:BQ w v q):Calls Tryz.prog 56 #[v] w (Ad w fun r _=>r = .int .i64 (KA q)):=by
 obtain⟨b,A,n,c,b',A',n',c',x,y,rfl,hx,hy,sx,sy,hq⟩:=hv.form;have HX:=Lib.hid hx;have HY:=Lib.hid hy;clear hx hy hv sx sy;have Hq:=Lib.hid (show KA q=x.sign*y.sign by rw[hq];exact MC x y);clear hq;have hb:=I7 x y
 go_enter Tryz.func56,Tryz.ntmps56
 go_wp2_with fail
 refine Ae 5 [3,4,5,6,7] [[],[0],[0,1],[],[3],[0,1,2,3,4],[0,1,2,3,4,5],[0,1,2,3,4,5,6]] [1] [_] [(kv ?_),(kv ?_),(fun γ=>γ 2),(kv ?_),(kv ?_)] (fun γ w'=>[True,True,aM w' (γ 2) x.sign,True,True]) Bd Ah Ah Bb Ah Bc Bg ?hstep1 ?_
 case hstep1 =>
  iterate 5 refine⟨?_,?_⟩
  trivial
  iterate 2 focus
   intro γ w' he hf;clear hf;refine⟨by trivial,?_⟩;intro R hR;have hc:=he.cells;go_simp;refine hR _ _ (Ext.refl _) ?_ trivial;rfl
  ·intro γ w' he hf;clear hf;refine⟨trivial,?_⟩;intro R hR
   go_simp;exact AX (Jz _ x w' (HX.out.ext he.a1)) hR
  iterate 2 focus
   intro γ w' he hf;clear hf;refine⟨by trivial,?_⟩;intro R hR;have hc:=he.cells;go_simp;refine hR _ _ (Ext.refl _) ?_ trivial;rfl
 intro γ w1 hx1 hF;have p2:aM w1 (γ 2) x.sign:=Au.get hF 2 Ab;clear hF;simp only[AZ,Nat.reduceAdd];generalize γ 2=g2 at *;clear γ;obtain rfl:g2 = .int .i64 x.sign:=p2
 go_wp2_with fail
 refine Calls.mono (Jz _ y _ (HY.out.ext hx1.a1)) ?_;rintro e w2 ⟨r,rfl,rfl,hx2⟩;replace hx1:=hx1.trans hx2;go_wp2
 go_ret
 exact Ad.mk (by rw[Hq.out];rfl) hx1.a1
theorem ZJ(v:Value)(q:Rat)(w:World)(hv:BQ w v q):Calls Tryz.prog 55 #[v] w (Ad w fun r w'=>Bw w' r (-q)):=by
 obtain⟨b,A,n,c,b',A',n',c',x,y,rfl,hx,hy,sx,sy,hq⟩:=hv.form;have HX:=Lib.hid hx;have HY:=Lib.hid hy;clear hx hy hv;have Hq:=Lib.hid hq;clear hq
 go_enter Tryz.func55,Tryz.ntmps55
 go_wp2_with fail
 refine Ae 5 [3,4,5,6,7] [[],[0],[0,1],[],[3],[0,1,2,3,4],[0,1,2,3,4,5]] [1] [_] [(kv ?_),(kv ?_),(fun γ=>γ 2),(kv ?_),(kv ?_)] (fun γ w'=>[True,True,AC w' (γ 2) (-x),True,True]) Bd Ah Ah Bb Ah Bc Bg ?hstep2 ?_
 case hstep2 =>
  iterate 5 refine⟨?_,?_⟩
  trivial
  iterate 2 focus
   intro γ w' he hf;clear hf;refine⟨by trivial,?_⟩;intro R hR;have hc:=he.cells;go_simp;refine hR _ _ (Ext.refl _) ?_ trivial;rfl
  ·intro γ w' he hf;clear hf;refine⟨trivial,?_⟩;intro R hR
   go_simp;exact AX (Tn _ x w' (HX.out.ext he.a2)) hR
  iterate 2 focus
   intro γ w' he hf;clear hf;refine⟨by trivial,?_⟩;intro R hR;have hc:=he.cells;go_simp;refine hR _ _ (Ext.refl _) ?_ trivial;rfl
 intro γ w1 hx1 hF;have p2:AC w1 (γ 2) (-x):=Au.get hF 2 Ab;clear hF;simp only[AZ,Nat.reduceAdd];generalize γ 2=g2 at *;clear γ
 go_wp2_with fail
 refine Calls.mono (Ha _ _ (-x) y _ (p2.has (by rw[Int.natAbs_neg];omega)) (HY.out.ext hx1.a2) (by rw[Int.natAbs_neg];omega) Aa) ?_;rintro e w2 ⟨r,rfl,hr,hx2⟩;replace hx1:=hx1.trans hx2;clear hx2 p2;rw[←Rat.neg_divInt,←Hq.out]at hr;obtain⟨b5,A5,n5,c5,b6,A6,n6,c6,rfl⟩:=hr.cells;have hc1:=hx1.cells;have hf1:=hx1.frozens;have Hfin:=Lib.hid (Cs hr hx1.a2 (AL.at_ hx1 (g:=w.heap.size+1) Ac (by simp[Ag])) Aa)
 clear hr;go_wp2;refine bodyPost_ret (v := .agg #[.bool b5,.slice A5 n5 c5,.bool b6,.slice A6 n6 c6]) (by simp[results,Tryz.results55,go_sem,hc1]) rfl ?_;exact Hfin.out
theorem bO(v u:Value)(p q:Rat)(w:World)(hv:BQ w v p)(hu:BQ w u q):Calls Tryz.prog 129 #[v,u] w (Ad w fun r w'=>Bw w' r (p*q)):=by
 obtain⟨b,A,n,c,b',A',n',c',x,y,rfl,hx,hy,sx,sy,hp⟩:=hv.form;obtain⟨d,E,m,e,d',E',m',e',s,t,rfl,hs,ht,ss,st,hq⟩:=hu.form;have HX:=Lib.hid (And.intro hx hy);have HY:=Lib.hid (And.intro hs ht);clear hx hy hv hs ht hu;have Hq:=Lib.hid (show Rat.divInt (x*s) (y*t)=p*q by rw[hp,hq,Rat.divInt_mul_divInt]);clear hp hq;have m1:=GI sx ss;have m2:=GI sy st
 go_enter Tryz.func129,Tryz.ntmps129
 go_wp2_with fail
 refine Ae 9 [5,6,7,8,9,10,11,12,13] [[],[0],[],[2],[0,1,2,3],[],[5],[],[7],[0,1,2,3,4,5,6,7,8],[0,1,2,3,4,5,6,7,8,9],[0,1,2,3,4,5,6,7,8,9,10]] [2,3] [_,_] [(kv ?_),(kv ?_),(kv ?_),(kv ?_),(fun γ=>γ 4),(kv ?_),(kv ?_),(kv ?_),(kv ?_)] (fun γ w'=>[True,True,True,True,AC w' (γ 4) (x*s),True,True,True,True]) Bd Ah Ah Bb Ah Bc Bg ?hstep3 ?_
 case hstep3 =>
  iterate 9 refine⟨?_,?_⟩
  trivial
  iterate 4 focus
   intro γ w' he hf;clear hf;refine⟨by trivial,?_⟩;intro R hR;have hc:=he.cells;go_simp;refine hR _ _ (Ext.refl _) ?_ trivial;rfl
  ·intro γ w' he hf;clear hf;refine⟨trivial,?_⟩;intro R hR
   go_simp;exact AX (IJ _ _ x s w' (HX.out.1.ext he.a3) (HY.out.1.ext he.a3) Aa Aa) hR
  iterate 4 focus
   intro γ w' he hf;clear hf;refine⟨by trivial,?_⟩;intro R hR;have hc:=he.cells;go_simp;refine hR _ _ (Ext.refl _) ?_ trivial;rfl
 intro γ w1 hx1 hF;have p4:AC w1 (γ 4) (x*s):=Au.get hF 4 Ab;clear hF;simp only[AZ,Nat.reduceAdd];generalize γ 4=g4 at *;clear γ
 go_wp2_with fail
 refine Calls.mono (IJ _ _ y t _ (HX.out.2.ext hx1.a3) (HY.out.2.ext hx1.a3) Aa Aa) ?_;rintro e w9 ⟨g9,rfl,p9,hx9⟩;replace p4:=p4.ext hx9;replace hx1:=hx1.trans hx9;clear hx9
 go_wp2_with fail
 refine Calls.mono (Ha _ _ (x*s) (y*t) _ (p4.has Aa) (p9.has Aa) m1 m2) ?_;rintro e w2 ⟨r,rfl,hr,hx2⟩;replace hx1:=hx1.trans hx2;clear hx2 p4 p9;rw[Hq.out]at hr;obtain⟨b5,A5,n5,c5,b6,A6,n6,c6,rfl⟩:=hr.cells;have hc1:=hx1.cells;have hf1:=hx1.frozens;have Hfin:=Lib.hid (Cs hr hx1.a3 (AL.at_ hx1 (g:=w.heap.size+2) Ac (by simp[Ag])) Aa);clear hr;go_wp2;refine bodyPost_ret (v := .agg #[.bool b5,.slice A5 n5 c5,.bool b6,.slice A6 n6 c6]) (by simp[results,Tryz.results129,go_sem,hc1]) rfl ?_
 exact Hfin.out
theorem Ty(v u:Value)(p q:Rat)(w:World)(hv:Bw w v p)(hu:Bw w u q):Calls Tryz.prog 79 #[v,u] w (Ad w fun r _=>r = .bool (decide (p=q))):=by
 obtain⟨b,A,n,c,b',A',n',c',rfl,h1,h2⟩:=hv;obtain⟨d,E,m,e,d',E',m',e',rfl,k1,k2⟩:=hu;have H:=Lib.hid (And.intro h1 (And.intro h2 (And.intro k1 k2)));clear h1 h2 k1 k2
 go_enter Tryz.func79,Tryz.ntmps79
 go_wp2_with fail
 refine Calls.mono (O8 _ _ p.num q.num _ (H.out.1.ext (((Ext.refl w).alloc _).alloc _)) (H.out.2.2.1.ext (((Ext.refl w).alloc _).alloc _))) ?_;rintro e w1 ⟨r,rfl,rfl,hx1⟩;have hc1:=hx1.cells;have hf1:=hx1.frozens;by_cases hn:p.num=q.num
 ·have hb:decide (p.num=q.num)=true:=decide_eq_true hn
  have Hn:=Lib.hid hn;clear hn
  go_wp2_with fail
  refine Calls.mono (O8 _ _ (p.den:Int) (q.den:Int) _ (H.out.2.1.ext hx1.a2) (H.out.2.2.2.ext hx1.a2)) ?_;rintro e w2 ⟨r,rfl,rfl,hx2⟩;replace hx1:=hx1.trans hx2;clear hx2 hc1 hf1;go_wp2
  go_ret
  refine Ad.mk (show Value.bool (decide ((p.den:Int)=(q.den:Int)))=Value.bool (decide (p=q))from ?_) hx1.a2;exact congrArg _ (decide_eq_decide.2 ⟨fun h=>Rat.ext Hn.out Aa,fun h=>by rw[h]⟩)
 ·have hb:decide (p.num=q.num)=false:=decide_eq_false hn
  have Hn:=Lib.hid hn;clear hn;go_wp2
  go_ret
  refine Ad.mk (show Value.bool false=Value.bool (decide (p=q))from ?_) hx1.a2;exact congrArg _ (decide_eq_false fun h=>Hn.out (by rw[h])).symm
end Go.Proofs.YtmhgnigpmompmaaGreat
namespace Go.Hp
open Go.RowKit
theorem Bw.parts4{w:World}{b b':Bool}{A A':Option Addr}{n c n' c':Nat}{q:Rat}(h:Bw w (.agg #[.bool b,.slice A n c,.bool b',.slice A' n' c']) q):AC w (.agg #[.bool b,.slice A n c]) q.num∧AC w (.agg #[.bool b',.slice A' n' c']) (q.den:Int):=by
 obtain⟨_,_,_,_,_,_,_,_,e,h1,h2⟩:=h;have e:=R4 e;simp only[Array.mk.injEq,List.cons.injEq,Value.bool.injEq,Value.slice.injEq,and_true]at e;obtain⟨rfl,⟨rfl,rfl,rfl⟩,rfl,rfl,rfl,rfl⟩:=e;exact⟨h1,h2⟩
theorem GN(q:Rat):sz q.num.natAbs≤qsz q:=by unfold qsz;omega
theorem EX(q:Rat):sz ((q.den:Int)).natAbs≤qsz q:=by rw[Int.natAbs_natCast];unfold qsz;omega
theorem F6{x y:Int}{a b:Nat}(hx:sz x.natAbs≤a)(hy:sz y.natAbs≤b):sz (x*y).natAbs≤a+b:=by
 rw[Int.natAbs_mul];have:=BU x.natAbs y.natAbs;omega
theorem Ym{x y:Int}{a:Nat}(hx:sz x.natAbs≤a)(hy:sz y.natAbs≤a):sz (x+y).natAbs≤a+1:=by
 have h1:=Bf (Int.natAbs_add_le x y);have h2:=G6 x.natAbs y.natAbs;omega
theorem Ny(p q:Rat):Rat.divInt (p.num*q.den+q.num*p.den) (p.den*q.den)=p+q:=by
 have hp:(p.den:Int)≠0:=by have:=p.den_nz;omega
 have hq:(q.den:Int)≠0:=by have:=q.den_nz;omega
 rw[←Rat.divInt_add_divInt _ _ hp hq,Rat.num_divInt_den,Rat.num_divInt_den]
theorem Nr(p q:Rat):Rat.divInt (p.num*q.den) (p.den*q.num)=p / q:=by
 rw[LU,Rat.num_divInt_den,Rat.num_divInt_den]
end Go.Hp
namespace Go.Proofs.YtmhgnigpmompmaaGreat
open Go.RowKit Go.Hp
set_option maxHeartbeats 2000000 in
theorem XI(v u:Value)(p q:Rat)(w:World)(hv:BQ w v p)(hu:BQ w u q)(hs:qsz p+qsz q < 549755813888):Calls Tryz.prog 77 #[v,u] w (Ad w fun r w'=>Bw w' r (p+q)):=by
 have HV:=Lib.hid hv;have HU:=Lib.hid hu;have s1:=hv.qsz;have s2:=hu.qsz;obtain⟨b,A,n,c,b',A',n',c',x,y,rfl,-⟩:=hv.form;obtain⟨d,E,m,e,d',E',m',e',s,t,rfl,-⟩:=hu.form;clear hv hu;have HS:=Lib.hid (And.intro (GN p) (And.intro (EX p) (And.intro (GN q) (EX q))));have Hz:=Lib.hid (Ny p q)
 go_enter Tryz.func77,Tryz.ntmps77
 go_wp2_with fail
 refine Db 6 [7,8,9,10,5,6] [[],[0],[],[0,1,2],[],[],[0,1,2,3,4,5],[0,1,2,3,4,5,6]] [2,3] [_,_] [(kv ?_),(fun γ=>γ 1),(kv ?_),(fun γ=>γ 3),(fun γ=>γ 4),(fun γ=>γ 5)] (fun γ w'=>[True,Bw w' (γ 1) p,True,Bw w' (γ 3) q,AV w' (γ 4) (w.heap.size+3) #[.bool false,.slice none 0 0,.bool false,.slice none 0 0] 28,AV w' (γ 5) (w.heap.size+3) #[.bool false,.slice none 0 0,.bool false,.slice none 0 0] 28]) Bd Ah Ah Bb Ah Bc Bg ?hstep4 ?_
 case hstep4 =>
  iterate 6 refine⟨?_,?_⟩
  trivial
  iterate 1 focus
   intro γ w' he hf;clear hf;refine⟨by trivial,?_⟩;intro R hR;have hc:=he.cells;go_simp;refine hR _ _ (Ext.refl _) ?_ trivial;rfl
  ·intro γ w' he hf;clear hf;refine⟨trivial,?_⟩;intro R hR
   go_simp;exact AX (F9 _ p w' (HV.out.ext he.a3)) hR
  iterate 1 focus
   intro γ w' he hf;clear hf;refine⟨by trivial,?_⟩;intro R hR;have hc:=he.cells;go_simp;refine hR _ _ (Ext.refl _) ?_ trivial;rfl
  ·intro γ w' he hf;clear hf;refine⟨trivial,?_⟩;intro R hR
   go_simp;exact AX (F9 _ q w' (HU.out.ext he.a3)) hR
  ·intro γ w' he hf;clear hf;refine⟨trivial,?_⟩;intro R hR
   go_simp;exact hR _ _ ((Ext.refl _).alloc _) rfl (AV.mk (Nat.le_trans Ac he.size) (by simp[Ag]))
  ·intro γ w' he hf;clear hf;refine⟨trivial,?_⟩;intro R hR
   go_simp;exact hR _ _ ((Ext.refl _).alloc _) rfl (AV.mk (Nat.le_trans Ac he.size) (by simp[Ag]))
 intro γ w1 hx1 hF hA;have na4x5:γ 4≠γ 5:=hA 4 5 Ab Ab Ab ⟨_,_,rfl,rfl⟩ ⟨_,_,rfl,rfl⟩;clear hA;have p1:Bw w1 (γ 1) p:=Au.get hF 1 Ab;have p3:Bw w1 (γ 3) q:=Au.get hF 3 Ab;have p4:AV w1 (γ 4) (w.heap.size+3) #[.bool false,.slice none 0 0,.bool false,.slice none 0 0] 28:=Au.get hF 4 Ab;have p5:AV w1 (γ 5) (w.heap.size+3) #[.bool false,.slice none 0 0,.bool false,.slice none 0 0] 28:=Au.get hF 5 Ab;clear hF
 simp only[AZ,Nat.reduceAdd];generalize γ 1=g1 at *;generalize γ 3=g3 at *;generalize γ 4=g4 at *;generalize γ 5=g5 at *;clear γ;obtain⟨ga,rfl,hga,ea⟩:=p4;obtain⟨gb,rfl,hgb,eb⟩:=p5;have hab:ga≠gb:=fun e=>na4x5 (by rw[e]);clear na4x5;obtain⟨b1,A1,n1,c1,b2,A2,n2,c2,rfl⟩:=p1.cells;obtain⟨b3,A3,n3,c3,b4,A4,n4,c4,rfl⟩:=p3.cells;obtain⟨cea0,cea1,cea2,cea3⟩:=ea.cells4;have fea:=ea.frozen;obtain⟨ceb0,ceb1,ceb2,ceb3⟩:=eb.cells4
 have feb:=eb.frozen
 go_upto_region 2 with(fail)
 obtain⟨W1,eW,ea',U⟩:=ea.put4 (.bool b1) (.slice A1 n1 c1) (.bool b2) (.slice A2 n2 c2) rfl rfl rfl rfl;rw[←eW];clear eW ea;replace p1:=p1.kd U.kd;replace p3:=p3.kd U.kd;replace eb:=eb.upd U Ai;replace hx1:=U.from_ hx1 Ai;have ea:=ea';clear U ea';obtain⟨W2,eW,eb',U⟩:=eb.put4 (.bool b3) (.slice A3 n3 c3) (.bool b4) (.slice A4 n4 c4) rfl rfl rfl rfl;rw[←eW];clear eW eb;replace p1:=p1.kd U.kd;replace p3:=p3.kd U.kd
 replace ea:=ea.upd U Ai;replace hx1:=U.from_ hx1 Ai;have eb:=eb';clear U eb';clear cea0 cea1 cea2 cea3 ceb0 ceb1 ceb2 ceb3 fea feb;have Hp:=Lib.hid p1.parts4;have Hq:=Lib.hid p3.parts4;clear p1 p3;obtain⟨cea0,cea1,cea2,cea3⟩:=ea.cells4;have fea:=ea.frozen;obtain⟨ceb0,ceb1,ceb2,ceb3⟩:=eb.cells4;have feb:=eb.frozen;have m1:=F6 HS.out.1 HS.out.2.2.2;have m2:=F6 HS.out.2.2.1 HS.out.2.1;have m3:=F6 HS.out.2.1 HS.out.2.2.2
 have m4:=Ym m1 (show sz (q.num*p.den).natAbs≤qsz p+qsz q by omega);have HB:=Lib.hid (show sz p.num.natAbs≤274877906944∧sz ((p.den:Int)).natAbs≤274877906944∧sz q.num.natAbs≤274877906944∧sz ((q.den:Int)).natAbs≤274877906944 by
  have:=HS.out;omega)
 go_wp2_with fail
 refine Ae 15 [11,12,13,14,15,16,17,18,19,20,21,22,23,24,25] [[],[0],[],[2],[0,1,2,3],[],[5],[],[7],[0,1,2,3,4,5,6,7,8],[0,1,2,3,4,5,6,7,8,9],[],[11],[],[13],[0,1,2,3,4,5,6,7,8,9,10,11,12,13,14],[0,1,2,3,4,5,6,7,8,9,10,11,12,13,14,15],[0,1,2,3,4,5,6,7,8,9,10,11,12,13,14,15,16]] [5,6] [_,_] [(kv ?_),(kv ?_),(kv ?_),(kv ?_),(fun γ=>γ 4),(kv ?_),(kv ?_),(kv ?_),(kv ?_),(fun γ=>γ 9),(fun γ=>γ 10),(kv ?_),(kv ?_),(kv ?_),(kv ?_)] (fun γ w'=>[True,True,True,True,AC w' (γ 4) (p.num*q.den),True,True,True,True,AC w' (γ 9) (q.num*p.den),AC w' (γ 10) (p.num*q.den+q.num*p.den),True,True,True,True]) Bd Ah Ah Bb Ah Bc Bg ?hstep5 ?_
 case hstep5 =>
  iterate 15 refine⟨?_,?_⟩
  trivial
  iterate 4 focus
   intro γ w' he hf;clear hf;refine⟨by trivial,?_⟩;intro R hR;have hc:=he.cells;have cq0:=he.cell cea0;have cq1:=he.cell cea1;have cq2:=he.cell cea2;have cq3:=he.cell cea3;have cq4:=he.cell ceb0;have cq5:=he.cell ceb1;have cq6:=he.cell ceb2;have cq7:=he.cell ceb3;go_simp;refine hR _ _ (Ext.refl _) ?_ trivial;rfl
  ·intro γ w' he hf;clear hf;refine⟨trivial,?_⟩;intro R hR
   go_simp;exact AX (IJ _ _ _ _ w' ((Hp.out.1.ext he).has (by have:=HB.out;omega)) ((Hq.out.2.ext he).has (by have:=HB.out;omega)) (by have:=HB.out;omega) (by have:=HB.out;omega)) hR
  iterate 4 focus
   intro γ w' he hf;clear hf;refine⟨by trivial,?_⟩;intro R hR;have hc:=he.cells;have cq0:=he.cell cea0;have cq1:=he.cell cea1;have cq2:=he.cell cea2;have cq3:=he.cell cea3;have cq4:=he.cell ceb0;have cq5:=he.cell ceb1;have cq6:=he.cell ceb2;have cq7:=he.cell ceb3;go_simp;refine hR _ _ (Ext.refl _) ?_ trivial;rfl
  ·intro γ w' he hf;clear hf;refine⟨trivial,?_⟩;intro R hR
   go_simp;exact AX (IJ _ _ _ _ w' ((Hq.out.1.ext he).has (by have:=HB.out;omega)) ((Hp.out.2.ext he).has (by have:=HB.out;omega)) (by have:=HB.out;omega) (by have:=HB.out;omega)) hR
  ·intro γ w' he hf;have f4:AC w' (γ 4) (p.num*q.den):=hf 4 Ab;have f9:AC w' (γ 9) (q.num*p.den):=hf 9 Ab;clear hf;refine⟨trivial,?_⟩;intro R hR
   go_simp;exact AX (Vz _ _ _ _ w' (f4.has Aa) (f9.has Aa) Aa Aa) hR
  iterate 4 focus
   intro γ w' he hf;clear hf;refine⟨by trivial,?_⟩;intro R hR;have hc:=he.cells;have cq0:=he.cell cea0;have cq1:=he.cell cea1;have cq2:=he.cell cea2;have cq3:=he.cell cea3;have cq4:=he.cell ceb0;have cq5:=he.cell ceb1;have cq6:=he.cell ceb2;have cq7:=he.cell ceb3;go_simp;refine hR _ _ (Ext.refl _) ?_ trivial;rfl
 intro γ w6 hx6 hF;have p4:AC w6 (γ 4) (p.num*q.den):=Au.get hF 4 Ab;have p9:AC w6 (γ 9) (q.num*p.den):=Au.get hF 9 Ab;have p10:AC w6 (γ 10) (p.num*q.den+q.num*p.den):=Au.get hF 10 Ab;clear hF;simp only[AZ,Nat.reduceAdd];generalize γ 4=g4 at *;generalize γ 9=g9 at *;generalize γ 10=g10 at *;clear γ;clear cea0 cea1 cea2 cea3 ceb0 ceb1 ceb2 ceb3 fea feb ea eb;replace hx1:=hx1.trans hx6
 go_wp2_with fail
 refine Calls.mono (IJ _ _ _ _ _ ((Hp.out.2.ext hx6).has (by have:=HB.out;omega)) ((Hq.out.2.ext hx6).has (by have:=HB.out;omega)) (by have:=HB.out;omega) (by have:=HB.out;omega)) ?_;rintro e w7 ⟨r,rfl,p15,hx7⟩;replace p10:=p10.ext hx7;replace hx1:=hx1.trans hx7;clear hx7 hx6 p4 p9
 go_wp2_with fail
 refine Calls.mono (Ha _ _ _ _ _ (p10.has Aa) (p15.has Aa) Aa Aa) ?_;rintro e w10 ⟨r,rfl,hr,hx10⟩;rw[Hz.out]at hr;replace hx1:=hx1.trans hx10;clear hx10 p10 p15;obtain⟨b5,A5,n5,c5,b6,A6,n6,c6,rfl⟩:=hr.cells;have hc1:=hx1.cells;have hf1:=hx1.frozens;have Hfin:=Lib.hid (Cs hr hx1.a3 (AL.at_ hx1 (g:=w.heap.size+2) Ac (by simp[Ag])) Aa);clear hr;go_wp2;refine bodyPost_ret (v := .agg #[.bool b5,.slice A5 n5 c5,.bool b6,.slice A6 n6 c6]) (by simp[results,Tryz.results77,go_sem,hc1]) rfl ?_
 exact Hfin.out
set_option maxHeartbeats 2000000 in
theorem QW(v u:Value)(p q:Rat)(w:World)(hv:BQ w v p)(hu:BQ w u q):Calls Tryz.prog 128 #[v,u] w (Ad w fun r w'=>Bw w' r (p / q)):=by
 have HV:=Lib.hid hv;have HU:=Lib.hid hu;have s1:=hv.qsz;have s2:=hu.qsz;obtain⟨b,A,n,c,b',A',n',c',x,y,rfl,-⟩:=hv.form;obtain⟨d,E,m,e,d',E',m',e',s,t,rfl,-⟩:=hu.form;clear hv hu;have HS:=Lib.hid (And.intro (GN p) (And.intro (EX p) (And.intro (GN q) (EX q))));have Hz:=Lib.hid (Nr p q)
 go_enter Tryz.func128,Tryz.ntmps128
 go_wp2_with fail
 refine Db 6 [7,8,9,10,5,6] [[],[0],[],[0,1,2],[],[],[0,1,2,3,4,5],[0,1,2,3,4,5,6]] [2,3] [_,_] [(kv ?_),(fun γ=>γ 1),(kv ?_),(fun γ=>γ 3),(fun γ=>γ 4),(fun γ=>γ 5)] (fun γ w'=>[True,Bw w' (γ 1) p,True,Bw w' (γ 3) q,AV w' (γ 4) (w.heap.size+3) #[.bool false,.slice none 0 0,.bool false,.slice none 0 0] 28,AV w' (γ 5) (w.heap.size+3) #[.bool false,.slice none 0 0,.bool false,.slice none 0 0] 28]) Bd Ah Ah Bb Ah Bc Bg ?hstep6 ?_
 case hstep6 =>
  iterate 6 refine⟨?_,?_⟩
  trivial
  iterate 1 focus
   intro γ w' he hf;clear hf;refine⟨by trivial,?_⟩;intro R hR;have hc:=he.cells;go_simp;refine hR _ _ (Ext.refl _) ?_ trivial;rfl
  ·intro γ w' he hf;clear hf;refine⟨trivial,?_⟩;intro R hR
   go_simp;exact AX (F9 _ p w' (HV.out.ext he.a3)) hR
  iterate 1 focus
   intro γ w' he hf;clear hf;refine⟨by trivial,?_⟩;intro R hR;have hc:=he.cells;go_simp;refine hR _ _ (Ext.refl _) ?_ trivial;rfl
  ·intro γ w' he hf;clear hf;refine⟨trivial,?_⟩;intro R hR
   go_simp;exact AX (F9 _ q w' (HU.out.ext he.a3)) hR
  ·intro γ w' he hf;clear hf;refine⟨trivial,?_⟩;intro R hR
   go_simp;exact hR _ _ ((Ext.refl _).alloc _) rfl (AV.mk (Nat.le_trans Ac he.size) (by simp[Ag]))
  ·intro γ w' he hf;clear hf;refine⟨trivial,?_⟩;intro R hR
   go_simp;exact hR _ _ ((Ext.refl _).alloc _) rfl (AV.mk (Nat.le_trans Ac he.size) (by simp[Ag]))
 intro γ w1 hx1 hF hA;have na4x5:γ 4≠γ 5:=hA 4 5 Ab Ab Ab ⟨_,_,rfl,rfl⟩ ⟨_,_,rfl,rfl⟩;clear hA;have p1:Bw w1 (γ 1) p:=Au.get hF 1 Ab;have p3:Bw w1 (γ 3) q:=Au.get hF 3 Ab;have p4:AV w1 (γ 4) (w.heap.size+3) #[.bool false,.slice none 0 0,.bool false,.slice none 0 0] 28:=Au.get hF 4 Ab;have p5:AV w1 (γ 5) (w.heap.size+3) #[.bool false,.slice none 0 0,.bool false,.slice none 0 0] 28:=Au.get hF 5 Ab;clear hF
 simp only[AZ,Nat.reduceAdd];generalize γ 1=g1 at *;generalize γ 3=g3 at *;generalize γ 4=g4 at *;generalize γ 5=g5 at *;clear γ;obtain⟨ga,rfl,hga,ea⟩:=p4;obtain⟨gb,rfl,hgb,eb⟩:=p5;have hab:ga≠gb:=fun e=>na4x5 (by rw[e]);clear na4x5;obtain⟨b1,A1,n1,c1,b2,A2,n2,c2,rfl⟩:=p1.cells;obtain⟨b3,A3,n3,c3,b4,A4,n4,c4,rfl⟩:=p3.cells;obtain⟨cea0,cea1,cea2,cea3⟩:=ea.cells4;have fea:=ea.frozen;obtain⟨ceb0,ceb1,ceb2,ceb3⟩:=eb.cells4
 have feb:=eb.frozen
 go_upto_region 2 with(fail)
 obtain⟨W1,eW,ea',U⟩:=ea.put4 (.bool b1) (.slice A1 n1 c1) (.bool b2) (.slice A2 n2 c2) rfl rfl rfl rfl;rw[←eW];clear eW ea;replace p1:=p1.kd U.kd;replace p3:=p3.kd U.kd;replace eb:=eb.upd U Ai;replace hx1:=U.from_ hx1 Ai;have ea:=ea';clear U ea';obtain⟨W2,eW,eb',U⟩:=eb.put4 (.bool b3) (.slice A3 n3 c3) (.bool b4) (.slice A4 n4 c4) rfl rfl rfl rfl;rw[←eW];clear eW eb;replace p1:=p1.kd U.kd;replace p3:=p3.kd U.kd
 replace ea:=ea.upd U Ai;replace hx1:=U.from_ hx1 Ai;have eb:=eb';clear U eb';clear cea0 cea1 cea2 cea3 ceb0 ceb1 ceb2 ceb3 fea feb;have Hp:=Lib.hid p1.parts4;have Hq:=Lib.hid p3.parts4;clear p1 p3;obtain⟨cea0,cea1,cea2,cea3⟩:=ea.cells4;have fea:=ea.frozen;obtain⟨ceb0,ceb1,ceb2,ceb3⟩:=eb.cells4;have feb:=eb.frozen;have m1:=F6 HS.out.1 HS.out.2.2.2;have m2:=F6 HS.out.2.1 HS.out.2.2.1;have HB:=Lib.hid (show sz p.num.natAbs≤274877906944∧sz ((p.den:Int)).natAbs≤274877906944∧sz q.num.natAbs≤274877906944∧sz ((q.den:Int)).natAbs≤274877906944 by
  have:=HS.out;omega)
 go_wp2_with fail
 refine Ae 9 [11,12,13,14,15,16,17,18,19] [[],[0],[],[2],[0,1,2,3],[],[5],[],[7],[0,1,2,3,4,5,6,7,8],[0,1,2,3,4,5,6,7,8,9],[0,1,2,3,4,5,6,7,8,9,10]] [5,6] [_,_] [(kv ?_),(kv ?_),(kv ?_),(kv ?_),(fun γ=>γ 4),(kv ?_),(kv ?_),(kv ?_),(kv ?_)] (fun γ w'=>[True,True,True,True,AC w' (γ 4) (p.num*q.den),True,True,True,True]) Bd Ah Ah Bb Ah Bc Bg ?hstep7 ?_
 case hstep7 =>
  iterate 9 refine⟨?_,?_⟩
  trivial
  iterate 4 focus
   intro γ w' he hf;clear hf;refine⟨by trivial,?_⟩;intro R hR;have hc:=he.cells;have cq0:=he.cell cea0;have cq1:=he.cell cea1;have cq2:=he.cell cea2;have cq3:=he.cell cea3;have cq4:=he.cell ceb0;have cq5:=he.cell ceb1;have cq6:=he.cell ceb2;have cq7:=he.cell ceb3;go_simp;refine hR _ _ (Ext.refl _) ?_ trivial;rfl
  ·intro γ w' he hf;clear hf;refine⟨trivial,?_⟩;intro R hR
   go_simp;exact AX (IJ _ _ _ _ w' ((Hp.out.1.ext he).has (by have:=HB.out;omega)) ((Hq.out.2.ext he).has (by have:=HB.out;omega)) (by have:=HB.out;omega) (by have:=HB.out;omega)) hR
  iterate 4 focus
   intro γ w' he hf;clear hf;refine⟨by trivial,?_⟩;intro R hR;have hc:=he.cells;have cq0:=he.cell cea0;have cq1:=he.cell cea1;have cq2:=he.cell cea2;have cq3:=he.cell cea3;have cq4:=he.cell ceb0;have cq5:=he.cell ceb1;have cq6:=he.cell ceb2;have cq7:=he.cell ceb3;go_simp;refine hR _ _ (Ext.refl _) ?_ trivial;rfl
 intro γ w6 hx6 hF;have p4:AC w6 (γ 4) (p.num*q.den):=Au.get hF 4 Ab;clear hF;simp only[AZ,Nat.reduceAdd];generalize γ 4=g4 at *;clear γ;clear cea0 cea1 cea2 cea3 ceb0 ceb1 ceb2 ceb3 fea feb ea eb;replace hx1:=hx1.trans hx6
 go_wp2_with fail
 refine Calls.mono (IJ _ _ _ _ _ ((Hp.out.2.ext hx6).has (by have:=HB.out;omega)) ((Hq.out.1.ext hx6).has (by have:=HB.out;omega)) (by have:=HB.out;omega) (by have:=HB.out;omega)) ?_;rintro e w7 ⟨r,rfl,p15,hx7⟩;replace p4:=p4.ext hx7;replace hx1:=hx1.trans hx7;clear hx7 hx6
 go_wp2_with fail
 refine Calls.mono (Ha _ _ _ _ _ (p4.has Aa) (p15.has Aa) Aa Aa) ?_;rintro e w10 ⟨r,rfl,hr,hx10⟩;rw[Hz.out]at hr;replace hx1:=hx1.trans hx10;clear hx10 p4 p15;obtain⟨b5,A5,n5,c5,b6,A6,n6,c6,rfl⟩:=hr.cells;have hc1:=hx1.cells;have hf1:=hx1.frozens;have Hfin:=Lib.hid (Cs hr hx1.a3 (AL.at_ hx1 (g:=w.heap.size+2) Ac (by simp[Ag])) Aa);clear hr;go_wp2;refine bodyPost_ret (v := .agg #[.bool b5,.slice A5 n5 c5,.bool b6,.slice A6 n6 c6]) (by simp[results,Tryz.results128,go_sem,hc1]) rfl ?_
 exact Hfin.out
theorem Xy(v u:Value)(p q:Rat)(w:World)(hv:BQ w v p)(hu:BQ w u q)(hs:qsz p+qsz q < 549755813888):Calls Tryz.prog 57 #[v,u] w (Ad w fun r w'=>Bw w' r (p - q)):=by
 have HV:=Lib.hid hv;have HU:=Lib.hid hu;have hs2:=hu.qsz;obtain⟨b,A,n,c,b',A',n',c',x,y,rfl,-⟩:=hv.form;obtain⟨d,E,m,e,d',E',m',e',s,t,rfl,-⟩:=hu.form;clear hv hu;rw[Rat.sub_eq_add_neg]
 go_enter Tryz.func57,Tryz.ntmps57
 go_wp2_with fail
 refine Ae 3 [5,6,7] [[],[],[1],[0,1,2],[0,1,2,3]] [2,3] [_,_] [(kv ?_),(kv ?_),(fun γ=>γ 2)] (fun γ w'=>[True,True,Bw w' (γ 2) (-q)]) Bd Ah Ah Bb Ah Bc Bg ?hstep8 ?_
 case hstep8 =>
  iterate 3 refine⟨?_,?_⟩
  trivial
  iterate 2 focus
   intro γ w' he hf;clear hf;refine⟨by trivial,?_⟩;intro R hR;have hc:=he.cells;go_simp;refine hR _ _ (Ext.refl _) ?_ trivial;rfl
  ·intro γ w' he hf;clear hf;refine⟨trivial,?_⟩;intro R hR
   go_simp;exact AX (ZJ _ q w' (HU.out.ext he.a3)) hR
 intro γ w1 hx1 hF;have p2:Bw w1 (γ 2) (-q):=Au.get hF 2 Ab;clear hF;simp only[AZ,Nat.reduceAdd];generalize γ 2=g2 at *;clear γ
 go_wp2_with fail
 refine Calls.mono (XI _ _ p (-q) _ (HV.out.ext hx1.a3) (p2.has (by rw[FW];exact hs2)) (by rw[FW];exact hs)) ?_;rintro e w2 ⟨r,rfl,hr,hx2⟩;replace hx1:=hx1.trans hx2;clear hx2 p2;obtain⟨b5,A5,n5,c5,b6,A6,n6,c6,rfl⟩:=hr.cells;have hc1:=hx1.cells;have hf1:=hx1.frozens;have Hfin:=Lib.hid (Cs hr hx1.a3 (AL.at_ hx1 (g:=w.heap.size+2) Ac (by simp[Ag])) Aa);clear hr;go_wp2;refine bodyPost_ret (v := .agg #[.bool b5,.slice A5 n5 c5,.bool b6,.slice A6 n6 c6]) (by simp[results,Tryz.results57,go_sem,hc1]) rfl ?_
 exact Hfin.out
theorem XT(v u:Value)(p q:Rat)(w:World)(hv:BQ w v p)(hu:BQ w u q)(hs:qsz p+qsz q < 274877906944):Calls Tryz.prog 20 #[v,u] w (Ad w fun r _=>r = .int .i64 (KA (p - q))):=by
 have HV:=Lib.hid hv;have HU:=Lib.hid hu;obtain⟨b,A,n,c,b',A',n',c',x,y,rfl,-⟩:=hv.form;obtain⟨d,E,m,e,d',E',m',e',s,t,rfl,-⟩:=hu.form;clear hv hu
 go_enter Tryz.func20,Tryz.ntmps20
 go_wp2_with fail
 refine Calls.mono (Xy _ _ p q _ (HV.out.ext (((Ext.refl w).alloc _).alloc _)) (HU.out.ext (((Ext.refl w).alloc _).alloc _)) Aa) ?_;rintro e w1 ⟨r,rfl,hr,hx1⟩
 go_wp2_with fail
 refine Calls.mono (Pf _ (p - q) _ (hr.has (by have:=Py p q;omega))) ?_;rintro e w2 ⟨r,rfl,rfl,hx2⟩;go_wp2
 go_ret
 exact Ad.mk rfl (hx1.trans hx2).a2
theorem ZB(v u:Value)(p q:Rat)(w:World)(hv:BQ w v p)(hu:BQ w u q):Calls Tryz.prog 99 #[v,u] w (Ad w fun r w'=>Bw w' r (p - q)):=by
 have HV:=Lib.hid hv;have HU:=Lib.hid hu;have hs:=hu.qsz;obtain⟨b,A,n,c,b',A',n',c',x,y,rfl,-⟩:=hv.form;obtain⟨d,E,m,e,d',E',m',e',s,t,rfl,-⟩:=hu.form;clear hv hu;rw[Rat.sub_eq_add_neg]
 go_enter Tryz.func99,Tryz.ntmps99
 go_wp2_with fail
 refine Ae 3 [5,6,7] [[],[],[1],[0,1,2],[0,1,2,3]] [2,3] [_,_] [(kv ?_),(kv ?_),(fun γ=>γ 2)] (fun γ w'=>[True,True,Bw w' (γ 2) (-q)]) Bd Ah Ah Bb Ah Bc Bg ?hstep1 ?_
 case hstep1 =>
  iterate 3 refine⟨?_,?_⟩
  trivial
  iterate 2 focus
   intro γ w' he hf;clear hf;refine⟨by trivial,?_⟩;intro R hR;have hc:=he.cells;go_simp;refine hR _ _ (Ext.refl _) ?_ trivial;rfl
  ·intro γ w' he hf;clear hf;refine⟨trivial,?_⟩;intro R hR
   go_simp;exact AX (Zt _ q w' (HU.out.ext he.a3)) hR
 intro γ w1 hx1 hF;have p2:Bw w1 (γ 2) (-q):=Au.get hF 2 Ab;clear hF;simp only[AZ,Nat.reduceAdd];generalize γ 2=g2 at *;clear γ
 go_wp2_with fail
 refine Calls.mono (Tf _ _ p (-q) _ (HV.out.ext hx1.a3) (p2.has (by rw[FW];exact hs))) ?_;rintro e w2 ⟨r,rfl,hr,hx2⟩;replace hx1:=hx1.trans hx2;clear hx2 p2;obtain⟨b5,A5,n5,c5,b6,A6,n6,c6,rfl⟩:=hr.cells;have hc1:=hx1.cells;have hf1:=hx1.frozens;have Hfin:=Lib.hid (Cs hr hx1.a3 (AL.at_ hx1 (g:=w.heap.size+2) Ac (by simp[Ag])) Aa);clear hr;go_wp2;refine bodyPost_ret (v := .agg #[.bool b5,.slice A5 n5 c5,.bool b6,.slice A6 n6 c6]) (by simp[results,Tryz.results99,go_sem,hc1]) rfl ?_
 exact Hfin.out
theorem WH(v u:Value)(p q:Rat)(w:World)(hv:BQ w v p)(hu:BQ w u q)(hs:qsz p+qsz q < 274877906944):Calls Tryz.prog 49 #[v,u] w (Ad w fun r _=>r = .int .i64 (KA (p - q))):=by
 have HV:=Lib.hid hv;have HU:=Lib.hid hu;obtain⟨b,A,n,c,b',A',n',c',x,y,rfl,-⟩:=hv.form;obtain⟨d,E,m,e,d',E',m',e',s,t,rfl,-⟩:=hu.form;clear hv hu
 go_enter Tryz.func49,Tryz.ntmps49
 go_wp2_with fail
 refine Calls.mono (ZB _ _ p q _ (HV.out.ext (((Ext.refl w).alloc _).alloc _)) (HU.out.ext (((Ext.refl w).alloc _).alloc _))) ?_;rintro e w1 ⟨r,rfl,hr,hx1⟩
 go_wp2_with fail
 refine Calls.mono (Na _ (p - q) _ (hr.has (by have:=Py p q;omega))) ?_;rintro e w2 ⟨r,rfl,rfl,hx2⟩;go_wp2
 go_ret
 exact Ad.mk rfl (hx1.trans hx2).a2
theorem VP{q:Rat}(h:q=0):(KA q==0)=true:=by subst h;rfl
theorem WY{q:Rat}(h:q≠0):(KA q==0)=false:=by simpa[Qj] using h
theorem bB(v:Value)(q:Rat)(w:World)(hv:BQ w v q):Calls Tryz.prog 179 #[v] w (Ad w fun r _=>r = .bool (KA q==0)):=by
 have HV:=Lib.hid hv;obtain⟨b,A,n,c,b',A',n',c',x,y,rfl,-⟩:=hv.form;clear hv
 go_enter Tryz.func179,Tryz.ntmps179
 go_wp2_with fail
 refine Calls.mono (Na _ q _ (HV.out.ext ((Ext.refl w).alloc _))) ?_;rintro e w1 ⟨r,rfl,rfl,hx1⟩;go_wp2
 go_ret
 exact Ad.mk rfl hx1.a1
set_option maxHeartbeats 400000 in
/-- qpoly.trimmed: without the zeros at the end,in place. -/
theorem GR(base:Nat)(A:Option Addr)(c:Nat)(l:List Rat)(w:World)(hl:l.length≤c)(hc:c≤9223372036854775807)(hA:KH base w A l) :
  Calls Tryz.prog 158 #[.slice A l.length c] w fun e w'=>e = .returned (.slice A (BK l).length c)∧w=w':=by
 go_enter Tryz.func158,Tryz.ntmps158
 go_wp2
 go_loop [0] (fun v=>∃ m:Nat,m≤l.length∧v = .slice A m c∧∀ j,m≤j→(h:j < l.length)→l[j]=0) (fun v=>match v with | .slice _ m _=>m | _=>0)
 case atStart=>exact⟨l.length,Nat.le_refl _,rfl,fun j h1 h2=>Aa⟩
 case round =>
  obtain⟨m,hm,rfl,hz⟩:=hrel;by_cases h0:0 < m
  ·obtain⟨m,rfl⟩:∃ k,m=k+1:=⟨m - 1,Aa⟩
   obtain⟨g,o,b,A1,n,c1,b',A1',n',c',rfl,hb,q0,q1,q2,q3,hq⟩:=hA.at_ (j:=m) Aa;have hn:=hq.num_len;by_cases hd0:l[m]'(Aa)=0
   ·have hb:(((n:Nat):Int)==0)=true:=by rw[hn,hd0];rfl
    clear hA hn;go_wp2
    go_round
    case rel=>exact⟨m,Aa,rfl,fun j h1 h2=>by
     rcases Nat.eq_or_lt_of_le h1 with e | e
     ·subst e;exact hd0
     ·exact hz j Aa h2⟩
    case measure=>simp
   ·have hb:(((n:Nat):Int)==0)=false:=by
     have:=DL (n:=l[m].num.natAbs) (by have:l[m].num≠0:=fun e=>hd0 (Rat.num_eq_zero.1 e);omega);rw[←hn]at this;simp;omega
    clear hA hn;go_wp2
    go_ret
    have ht:=Fv hm hz (fun h _=>by simpa using hd0);have hlen:(BK l).length=m+1:=by rw[ht,List.length_take];omega
    exact⟨by rw[hlen];rfl,rfl⟩
  ·obtain rfl:m=0:=by omega
   go_wp2
   go_ret
   have ht:=Fv hm hz (fun h hh=>Aa);have hlen:(BK l).length=0:=by rw[ht];rfl
   exact⟨by rw[hlen];rfl,rfl⟩
theorem OQ.trim{base:Nat}{w:World}{A:Option Addr}{l:List Rat}(h:KH base w A l){c:Nat}(hl:l.length≤c)(hc:c≤9223372036854775807:=by omega):OQ base w (.slice A (BK l).length c) (BK l):=by
 refine⟨A,c,rfl,by have:=NH l;omega,hc,?_⟩;rw[EZ l];exact Dq.take h _
theorem Mr:(Tryz.prog.info? 28).map (fun i=>(i.zero,i.size,i.bytes))=some (some (.agg #[.bool false,.slice none 0 0,.bool false,.slice none 0 0]),4,64):=by kernel_rfl
theorem KJ(n:Nat)(x:Int)(hx:x=n)(hn:n≤1099511627776)(w:World):∃ W,(Instr.makeSlice 135 (.int .i64 x) (.int .i64 x)).run Tryz.prog w = .ok (.slice (some ⟨w.heap.size,0,none⟩) n n) W∧Ck W w.heap.size 28 (List.replicate n none)∧Ext w W:=by
 subst hx;obtain⟨i0,hi,hz0,hz1,hz2⟩:=info_parts Mr;have h:=run_make (P:=Tryz.prog) w 135 28 i0 (.agg #[.bool false,.slice none 0 0,.bool false,.slice none 0 0]) Tryz.underlying135 hi hz0 .i64 .i64 (n:Int) (n:Int) Aa Aa (by rw[hz2];omega) Aa;rw[h,hz1,Int.toNat_natCast];exact⟨_,rfl,Ck.new w _ n,(Ext.refl w).alloc _⟩
theorem Q0{l:List (Option Rat)}{m:List Rat}{k n:Nat}{q:Rat}(h:l=(m.take k).map some ++ List.replicate (n - k) none)(hk:k < n)(hm:m.length=n)(hq:m[k]'(by omega)=q):l.set k (some q)=(m.take (k+1)).map some ++ List.replicate (n - (k+1)) none:=by
 subst h;have h1:((m.take k).map some:List (Option Rat)).length=k:=by simp;omega
 rw[List.set_append,if_neg (by rw[h1];omega),h1,Nat.sub_self,show n - k=(n - (k+1))+1 from Aa,List.replicate_succ,List.set_cons_zero,List.take_succ_eq_append_getElem Aa,hq];simp
set_option maxHeartbeats 1000000 in
theorem MG(v:Value)(l:List Rat)(w:World)(hv:Kz 0 w v l)(hn:l.length≤1099511627776):Calls Tryz.prog 156 #[v] w (Ad w fun r w'=>r = .slice (some ⟨w.heap.size,0,none⟩) (BK l).length l.length∧Ck w' w.heap.size 28 (l.map some)):=by
 obtain⟨A,c,rfl,hl,hc,hA⟩:=hv;obtain⟨W0,hmk,ea,hx⟩:=KJ l.length (l.length:Int) rfl hn w;have HA:Hid (PE 0 w A l):=Lib.hid hA;clear hA
 go_enter Tryz.func156,Tryz.ntmps156
 go_wp2
 go_loopw [11] (fun iv wr=>∃ (k:Nat) (la:List (Option Rat)),k≤l.length∧iv = .int .i64 k∧Ck wr w.heap.size 28 la∧la.length=l.length∧la=(l.take k).map some ++ List.replicate (l.length - k) none∧Ext w wr) (fun iv _=>l.length - (intOf iv).toNat)
 case atStart=>exact⟨0,_,Nat.zero_le _,rfl,ea,Ac,Ac,hx⟩
 case round =>
  obtain⟨k,la,hk,rfl,ea,hlen,hla,hx⟩:=hrel;have Hla:=Lib.hid hla;clear hla;have Hlen:=Lib.hid hlen;clear hlen;by_cases hkl:k < l.length
  ·obtain⟨g,o,b,A1,n,c1,b',A1',n',c1',rfl,_,q0,q1,q2,q3,hq⟩:=HA.out.at_ (j:=k) hkl
   replace q0:=hx.cell q0;replace q1:=hx.cell q1;replace q2:=hx.cell q2;replace q3:=hx.cell q3;have Hq:=Lib.hid hq;clear hq
   go_wp2_with fail
   refine Calls.mono (Gn _ _ _ (Hq.out.ext (hx.alloc _))) ?_;rintro e w2 ⟨r,rfl,hr,hx2⟩;replace ea:=ea.ext hx2.a1;replace hx:=hx.trans hx2.a1;clear hx2 q0 q1 q2 q3;obtain⟨b5,A5,n5,c5,b6,A6,n6,c6,rfl⟩:=hr.cells;have hkla:k < la.length:=by have:=Hlen.out;omega
   obtain⟨_,_,_,_,_,_,_,_,ca0,ca1,ca2,ca3,-⟩:=ea.at_ (j:=k) (by first | omega | (simp;omega));have fa0:=ea.frozen (k*4);have fa1:=ea.frozen (k*4+1);have fa2:=ea.frozen (k*4+2);have fa3:=ea.frozen (k*4+3);go_wp2;obtain⟨W3,eW,ea',U⟩:=ea.put (k:=k) (by first | omega | (simp;omega)) hr;rw[←eW];clear eW ea;replace hx:=U.from_ hx Ai;have ea:=ea';clear U ea'
   go_roundw
   case rel=>exact⟨k+1,_,Aa,by go_num,ea,by simpa using Hlen.out,Q0 Hla.out hkl rfl rfl,hx⟩
   case measure=>simp[intOf];omega
  ·obtain rfl:k=l.length:=by omega
   replace ea:Ck wr w.heap.size 28 (l.map some):=by
    have:=Hla.out;rw[Nat.sub_self,List.replicate_zero,List.append_nil,List.take_of_length_le (Nat.le_refl _)]at this;rw[←this];exact ea
   have hrow:=ea.row (m:=l) rfl (Nat.le_refl _)
   go_wp2_with fail
   refine Calls.mono (GR w.heap.size _ _ l _ (Nat.le_refl _) Aa hrow) ?_;rintro e w2 ⟨rfl,rfl⟩;go_wp2
   go_ret
   exact Ad.mk ⟨rfl,ea⟩ hx
theorem Ux(v:Value)(l:List Rat)(w:World)(hv:Kz 0 w v l)(hn:l.length≤1099511627776):Calls Tryz.prog 156 #[v] w (Ad w fun r w'=>OQ w.heap.size w' r (BK l)):=
 Ad.imp (MG v l w hv hn) fun _ _ ⟨e,h⟩=>by subst e;exact OQ.trim (h.row rfl (Nat.le_refl _)) (Nat.le_refl _) Aa
end Go.Proofs.YtmhgnigpmompmaaGreat
namespace Go.Hp
theorem BQ.zero(w:World):BQ w (.agg #[.bool false,.slice none 0 0,.bool false,.slice none 0 0]) 0:=
 ⟨_,_,_,_,_,_,_,_,0,0,rfl,(AC.zero w).has Ab,(AC.zero w).has Ab,Ab,Ab,Ac⟩
end Go.Hp
namespace Go.Proofs.YtmhgnigpmompmaaGreat
open Go.RowKit Go.Hp
end Go.Proofs.YtmhgnigpmompmaaGreat
namespace Go.Hp
theorem Ck.full_at{w:World}{g:Nat}{t:TypeId}{N:Nat}{F:Nat→Rat}(h:Ck w g t (Dn N F)){j:Nat}(hj:j < N) :
  ∃ b A n c b' A' n' c',w.cell? ⟨g,j*4,none⟩=some (.bool b)∧w.cell? ⟨g,j*4+1,none⟩=some (.slice A n c)∧w.cell? ⟨g,j*4+2,none⟩=some (.bool b')∧w.cell? ⟨g,j*4+3,none⟩=some (.slice A' n' c')∧Bw w (.agg #[.bool b,.slice A n c,.bool b',.slice A' n' c']) (F j):=by
 obtain⟨b,A,n,c,b',A',n',c',q0,q1,q2,q3,q⟩:=h.at_ (j:=j) (by rw[LP];exact hj);rw[WJ]at q;exact⟨b,A,n,c,b',A',n',c',q0,q1,q2,q3,q⟩
end Go.Hp
namespace Go.Proofs.YtmhgnigpmompmaaGreat
open Go.RowKit Go.Hp
end Go.Proofs.YtmhgnigpmompmaaGreat
namespace Go.Hp
theorem TE{x:Int}(h1 : -9223372036854775808≤x)(h2:x≤9223372036854775808):qsz (x:Rat)≤2:=by
 have h3:=Jb (n:=x.natAbs) Aa;have h4:sz 1=1:=by decide
 show max (sz x.natAbs) (sz 1)≤2;omega
theorem Ih{α:Type}(F:Nat→α)(k:Nat):(List.range (k+1)).map F=(List.range k).map F ++ [F k]:=by rw[List.range_succ];simp
theorem UD{n:Nat}(h:n≤1099511627776):n+1≤maxLen:=by simp only[maxLen];omega
end Go.Hp
namespace Go.Proofs.YtmhgnigpmompmaaGreat
open Go.RowKit Go.Hp
end Go.Proofs.YtmhgnigpmompmaaGreat
namespace Go.Hp
def DW(k j:Nat)(c:Rat)(R G:Nat→Rat)(n:Nat):Rat:=R n - (if k≤n∧n - k < j then c*G (n - k)else 0)
theorem KN(k:Nat)(c:Rat)(R G:Nat→Rat):DW k 0 c R G=R:=by
 funext n;unfold DW;rw[if_neg Aa];grind
theorem IV{k m:Nat}{c:Rat}{R G:Nat→Rat}(h:Bq m G):DW k m c R G=psb R (cv (mono k c) G):=by
 funext n
 rw[FR];show R n - _=R n - c*sh k G n;unfold sh;by_cases h1:n < k
 ·rw[if_neg Aa,if_pos h1];grind
 ·rw[if_neg h1]
  by_cases h2:n - k < m
  ·rw[if_pos ⟨Aa,h2⟩]
  ·rw[if_neg Aa,h _ Aa];grind
theorem KM(k j:Nat)(c:Rat)(R G:Nat→Rat)(n:Nat):DW k (j+1) c R G n=if n=k+j then DW k j c R G n - c*G j else DW k j c R G n:=by
 unfold DW;by_cases h:n=k+j
 ·subst h;rw[if_pos rfl,if_pos Aa,if_neg Aa,show k+j - k=j from by omega];grind
 ·rw[if_neg h]
  by_cases h2:k≤n∧n - k < j
  ·rw[if_pos h2,if_pos Aa]
  ·rw[if_neg h2,if_neg Aa]
theorem Qg{k j:Nat}{c:Rat}{R G:Nat→Rat}{m s:Nat}(hG:Bq m G)(h1:∀ n,qsz (R n)≤s)(h2:∀ n,qsz (psb R (cv (mono k c) G) n)≤s)(n:Nat):qsz (DW k j c R G n)≤s:=by
 by_cases h:k≤n∧n - k < j
 ·have e:DW k j c R G n=psb R (cv (mono k c) G) n:=by
   rw[←IV hG];unfold DW;rw[if_pos h];by_cases h3:k≤n∧n - k < m
   ·rw[if_pos h3]
   ·rw[if_neg h3,hG _ Aa];grind
  rw[e];exact h2 n
 ·have e:DW k j c R G n=R n:=by unfold DW;rw[if_neg h];grind
  rw[e];exact h1 n
theorem Qq(l:List Rat):l.map some=Dn l.length (co l):=by
 apply List.ext_getElem
 ·simp[Dn]
 ·intro i h1 h2
  have:i < l.length:=by simpa using h1
  simp[Dn,DT this]
def Js(w:World)(v:Value)(c:Rat):Prop:=∃ a,v = .tuple #[a,.int .i64 0]∧Bw w a c
theorem Js.ext{w w':World}{v:Value}{c:Rat}(h:Js w v c)(e:Ext w w'):Js w' v c:=by
 obtain⟨a,h1,h2⟩:=h;exact⟨a,h1,h2.ext e⟩
theorem YW{la:List (Option Rat)}{n:Nat}{Q:Nat→Rat}(hl:la.length=n)(h:∀ j (hj:j < la.length),la[j]=some (Q j)):la=Dn n Q:=by
 apply List.ext_getElem
 ·simp[Dn,hl]
 ·intro i h1 h2
  rw[h i h1];simp[Dn]
def IE(F G:Nat→Rat)(n s t i:Nat)(la:List (Option Rat))(Q R:Nat→Rat):Prop:=
 la.length=n∧(∀ j (h:j < la.length),i≤j→la[j]=some (Q j))∧(∀ j,j < i→Q j=0)∧Bq n Q∧Bq (i+pl G - 1) R∧F=pad (cv Q G) R∧CD (s+(n - i)*(t+1)) R
theorem IE.start{F G:Nat→Rat}{n s t:Nat}(hF:Bq (n+pl G - 1) F)(hs:CD s F):IE F G n s t n (List.replicate n none) pz F:=
 ⟨Ac,fun j h h'=>by simp at h;omega,fun _ _=>rfl,Bq.pz _,hF,by rw[Cy];funext m;simp only[pad,pz];grind,hs.mono Aa⟩
theorem IE.step{F G:Nat→Rat}{n s t k:Nat}{la:List (Option Rat)}{Q R:Nat→Rat}(hG:Af G)(h0:G≠pz)(hcG:CD t G)(h:IE F G n s t (k+1) la Q R)(hk:k < n){c:Rat}(hc:c=R (k+pl G - 1) / ld G) :
  IE F G n s t k (la.set k (some c)) (pad Q (mono k c)) (psb R (cv (mono k c) G)):=by
 obtain⟨h1,h2,h3,h4,h5,h6,h7⟩:=h;have hp:=AY hG h0;refine⟨by simpa using h1,fun j hj hkj=>?_,fun j hj=>?_,h4.pad ((EL k c).mono Aa),?_,?_,?_⟩
 ·rw[List.getElem_set]
  split
  ·rename_i e;subst e
   show some c=some (Q k+mono k c k);rw[h3 k Aa,K4];congr 1;grind
  ·rename_i e
   rw[h2 j (by simpa using hj) Aa];show some (Q j)=some (Q j+mono k c j);rw[EN (fun e'=>e e'.symm)];congr 1;grind
 ·show Q j+mono k c j=0
  rw[h3 j Aa,EN Aa];grind
 ·subst hc
  exact EJ hG h0 (h5.mono Aa)
 ·rw[D5]
  funext m
  have:=congrFun h6 m;simp only[pad,psb]at this ⊢;grind
 ·subst hc
  refine(CD.step (n:=k) hG h0 h7 hcG).mono ?_;have:n - k=(n - (k+1))+1:=by omega
  rw[this,Nat.succ_mul];omega
theorem IE.end_{F G:Nat→Rat}{n s t:Nat}{la:List (Option Rat)}{Q R:Nat→Rat}(hF:Af F)(hG:Af G)(h0:G≠pz)(h:IE F G n s t 0 la Q R):la=Dn n Q∧Q=pq F G∧R=pr F G∧Bq n Q:=by
 obtain⟨h1,h2,h3,h4,h5,h6,h7⟩:=h;have:=Il hF hG h0 ⟨n,h4⟩ h6 (by rwa[Nat.zero_add]at h5);exact⟨YW h1 fun j hj=>h2 j hj (Nat.zero_le _),this.1,this.2,h4⟩
theorem Nq{k:Nat}{c:Rat}(h:c=0)(R G:Nat→Rat):psb R (cv (mono k c) G)=R:=by
 funext n;rw[FR];simp only[psb,psc];rw[h];grind
theorem Iu(l:List Rat):(BK l).length=pl (co l):=by rw[←(Fb l).pl,Gi]
theorem Ck.isP{base:Nat}{w:World}{g:Nat}{t:TypeId}{N:Nat}{F:Nat→Rat}(h:Ck w g t (Dn N F))(hF:Bq N F)(hb:base≤g){c:Nat}(hc:N≤c)(hm:c≤9223372036854775807):CQ base w (.slice (some ⟨g,0,none⟩) (pl F) c) F:=by
 have e:=J4 hF;have hrow:=h.row (K6 N F) hb;have hl:((List.range N).map F).length=N:=Dx N F;have:=BB hF;refine⟨BK ((List.range N).map F),⟨_,c,by rw[Iu,e],by rw[Iu,e];omega,hm,?_⟩,Fb _,by rw[Gi,e]⟩;rw[EZ];exact Dq.take hrow _
end Go.Hp
namespace Go.Proofs.YtmhgnigpmompmaaGreat
open Go.RowKit Go.Hp
set_option maxRecDepth 20000 in
set_option maxHeartbeats 8000000 in
theorem XR(v u:Value)(F G:Nat→Rat)(s t:Nat)(w:World)(hv:CQ 0 w v F)(hu:CQ 0 w u G)(h0:G≠pz)(hF:CD s F)(hG:CD t G)(hb:pl F≤1099511627776)(hK:s+(pl F+2)*(t+1)+2*t+2≤274877906944) :
  Calls Tryz.prog 157 #[v,u] w (Ad w fun r w'=>∃ a b,r = .tuple #[a,b]∧CQ w.heap.size w' a (pq F G)∧CQ w.heap.size w' b (pr F G)):=by
 have hFf:=hv.fin;have hGf:=hu.fin;have hpG:=AY hGf h0;obtain⟨lf,hfv,hfl,hft,hfc⟩:=hv.hs (fun i=>by have:=hF.elem i;have:0 < (pl F+2)*(t+1):=Nat.mul_pos Aa Aa;omega);obtain⟨E,d,lg,rfl,hgd,hd,hE,hgl,hgt,hgc⟩:=hu.form;obtain⟨A,c,hve⟩:=hfv.len;have Hn:=Lib.hid (MG v lf w hfv Aa);have hft':BK lf=lf:=(Fb lf).uniq hft (Gi lf);subst hve;rw[hfl]at Hn ⊢;have HE:=Lib.hid hE;have HX:=Lib.hid (And.intro hFf (And.intro hGf (And.intro h0 (And.intro hF (And.intro hG hK)))))
 have HL:=Lib.hid (And.intro hfl (And.intro hfc (And.intro hgl (And.intro hgc hft'))));clear hv hu h0 hF hG hK hFf hGf hE hgl hgt hgc hfv hfl hft hfc hft'
 go_enter Tryz.func157,Tryz.ntmps157
 go_wp2_with fail
 refine Calls.mono Hn.out ?_;rintro e w1 ⟨r,rfl,⟨rfl,er⟩,hx1⟩;rw[HL.out.2.2.2.2,HL.out.1];rw[Qq,HL.out.1,HL.out.2.1]at er;clear Hn;by_cases hlt:pl F < pl G
 ·go_wp2
  go_ret2
  have hdl:=JX (F:=F) (G:=G) ((AJ HX.out.1).mono Aa) HX.out.2.1 HX.out.2.2.1;rw[hdl.1,hdl.2];exact Ad.mk ⟨_,_,rfl,CQ.nil _ _,er.isP (AJ HX.out.1) (Nat.le_refl _) (Nat.le_refl _) Aa⟩ hx1
 obtain⟨n,hn⟩:∃ n,n=pl F - pl G+1:=⟨_,rfl⟩
 have hnF:n+pl G=pl F+1:=by omega
 have hn1:1≤n:=by omega
 have hn40:n≤1099511627776:=by omega
 obtain⟨W0,hmk,eq,hxq⟩:=KJ n ((pl F:Int) - pl G+1) Aa hn40 w1;have HN:=Lib.hid hnF;clear hnF hn;have hg12:=er.lt;replace er:=er.ext hxq;replace hx1:=hx1.trans hxq;clear hxq;go_wp2
 go_loopw [6] (fun iv wr=>∃ (i:Nat) (Q Rm:Nat→Rat) (la:List (Option Rat)),i≤n∧(∃ z:Int,z+1=i∧iv = .int .i64 z)∧Ck wr w.heap.size 28 (Dn (pl F) Rm)∧Ck wr w1.heap.size 28 la∧IE F G n s t i la Q Rm∧Ext w wr) (fun iv _=>(intOf iv+1).toNat)
 case atStart=>exact⟨n,pz,F,_,Nat.le_refl _,⟨_,Aa,rfl⟩,er,eq,IE.start ((AJ HX.out.1).mono (by have:=HN.out;omega)) HX.out.2.2.2.1,hx1⟩
 case round =>
  clear er eq hx1;obtain⟨i,Q,Rm,la,hi,⟨z,hz,rfl⟩,er,eq,hst,hx⟩:=hrel;have HR:=Lib.hid hst;clear hst;by_cases hi0:0 < i
  ·obtain⟨k,rfl⟩:∃ k,i=k+1:=⟨i - 1,Aa⟩
   obtain rfl:z=(k:Int):=by omega
   clear hz hi0;have hkn:k < n:=by omega
   have hkp:k+pl G - 1 < pl F:=by have:=HN.out;omega
   have HL2:=HL.out.2.2.1;obtain⟨z1,Z1,zn,zc,z2,Z2,zn',zc',ca0,ca1,ca2,ca3,hza⟩:=er.full_at (j:=k+pl G - 1) hkp;obtain⟨g,o,b,A1,m1,c1,b',A1',m1',c1',rfl,_,q0,q1,q2,q3,hq⟩:=HE.out.at_ (j:=pl G - 1) Aa;replace q0:=hx.cell q0;replace q1:=hx.cell q1;replace q2:=hx.cell q2;replace q3:=hx.cell q3;have hlead:lg[pl G - 1]'(Aa)=ld G:=by rw[←DT,HL.out.2.2.2.1];rfl
   rw[hlead]at hq;have Hq:=Lib.hid (And.intro hza hq);clear hza hq hlead HL2;have HB:=Lib.hid (show qsz (Rm (k+pl G - 1))≤274877906944∧qsz (ld G)≤274877906944∧ld G≠0 by
    have h0:=HN.out;have h1:=HR.out.2.2.2.2.2.2.elem (k+pl G - 1);have h2:qsz (ld G)≤t:=HX.out.2.2.2.2.1.elem _;have h3:=HX.out.2.2.2.2.2;have h4:(n - (k+1))*(t+1)≤(pl F+2)*(t+1):=Nat.mul_le_mul_right _ Aa;exact⟨Aa,Aa,Dc HX.out.2.1 HX.out.2.2.1⟩)
   obtain⟨c0,hc0⟩:∃ c0,c0=Rm (k+pl G - 1) / ld G:=⟨_,rfl⟩
   have Hc0:=Lib.hid hc0;clear hc0;have hkla:k < la.length:=by have:=HR.out.1;omega
   have Hkla:=Lib.hid hkla
   go_wp2_with fail
   go_cut [] (fun wx=>Ck wx w1.heap.size 28 (la.set k (some c0))∧Ck wx w.heap.size 28 (Dn (pl F) Rm)∧Ext w wx)
   case first =>
    refine BJ 20 19 2 [32,33,34,35,36,37,38,39,40,41,42,43,44,45,46,47,48,31,49,50] [[],[],[],[],[],[4],[3,4,5],[3,4,5,6],[2,3,4,5,6,7],[2,3,4,5,6,7,8],[],[],[11],[11,12],[10,11,12,13],[10,11,12,13,14],[2,3,4,5,6,7,8,9,10,11,12,13,14,15],[2,3,4,5,6,7,8,9,10,11,12,13,14,15,16],[2,3,4,5,6,7,8,9,10,11,12,13,14,15,16,17],[2,3,4,5,6,7,8,9,10,11,12,13,14,15,16,17],[0,1,2,3,4,5,6,7,8,9,10,11,12,13,14,15,16,17,18],[0,1,2,3,4,5,6,7,8,9,10,11,12,13,14,15,16,17,18,20]] [4,6,5,1] [_,_,_,_] [(kv ?_),(kv ?_),(kv ?_),(kv ?_),(kv ?_),(kv ?_),(kv ?_),(kv ?_),(kv ?_),(kv ?_),(kv ?_),(kv ?_),(kv ?_),(kv ?_),(kv ?_),(kv ?_),(fun γ=>γ 16),(fun γ=>γ 16),(fun γ=>γ 18),(kv ?_)] (fun γ w'=>[True,True,True,True,True,True,True,True,True,True,True,True,True,True,True,True,Js w' (γ 16) c0,True,Bw w' (γ 18) c0,True]) _ rfl Bd Ah Ah Ah Ah Ah Bb Ah Bc ?hmono1 ?hstep1 ?_ ?hlate1
    case hstep1 =>
     iterate 20 refine⟨?_,?_⟩
     trivial
     iterate 16 focus
      intro γ w' he hf;clear hf;refine⟨by trivial,?_⟩;intro R hR;have hc:=he.cells;have cq0:=he.cell ca0;have cq1:=he.cell ca1;have cq2:=he.cell ca2;have cq3:=he.cell ca3;have cq4:=he.cell q0;have cq5:=he.cell q1;have cq6:=he.cell q2;have cq7:=he.cell q3;go_simp;(try go_ints);(try(rw[if_neg Aa]));(try(rw[if_pos Aa]));(try go_simp);(try go_ints)
      refine hR _ _ (Ext.refl _) ?_ trivial;rfl
     ·intro γ w' he hf;clear hf;refine⟨trivial,?_⟩;intro R hR
      go_simp;exact AX (Hc0.out▸Xt _ _ _ _ w' ((Hq.out.1.ext he).has HB.out.1) ((Hq.out.2.ext (hx.trans he)).has HB.out.2.1) HB.out.2.2) hR
     ·intro γ w' he hf;clear hf;refine⟨trivial,?_⟩;intro R hR
      have hc:=he.cells;go_simp
      (try go_ints);(try(rw[if_neg Aa]));(try(rw[if_pos Aa]));(try go_simp);(try go_ints)
      refine hR _ _ (Ext.refl _) ?_ trivial;rfl
     ·intro γ w' he hf;have f16:Js w' (γ 16) c0:=hf 16 Ab;clear hf;refine⟨trivial,?_⟩;intro R hR
      obtain⟨a,e,ha⟩:=f16;go_simp;exact hR _ _ (Ext.refl _) rfl ha
     ·intro γ w' he hf;have f16:Js w' (γ 16) c0:=hf 16 Ab;clear hf;refine⟨trivial,?_⟩;intro R hR
      obtain⟨a,e,ha⟩:=f16;have hc:=he.cells;go_simp
      (try go_ints);(try(rw[if_neg Aa]));(try(rw[if_pos Aa]));(try go_simp);(try go_ints)
      refine hR _ _ (Ext.refl _) ?_ trivial;rfl
    case hmono1 =>
     exact⟨⟨⟨⟨⟨⟨⟨⟨⟨⟨⟨⟨⟨⟨⟨⟨⟨⟨⟨⟨trivial,(fun γ wA w' e h=>h)⟩,(fun γ wA w' e h=>h)⟩,(fun γ wA w' e h=>h)⟩,(fun γ wA w' e h=>h)⟩,(fun γ wA w' e h=>h)⟩,(fun γ wA w' e h=>h)⟩,(fun γ wA w' e h=>h)⟩,(fun γ wA w' e h=>h)⟩,(fun γ wA w' e h=>h)⟩,(fun γ wA w' e h=>h)⟩,(fun γ wA w' e h=>h)⟩,(fun γ wA w' e h=>h)⟩,(fun γ wA w' e h=>h)⟩,(fun γ wA w' e h=>h)⟩,(fun γ wA w' e h=>h)⟩,(fun γ wA w' e h=>h)⟩,(fun γ wA w' e h=>(show Js wA (γ 16) c0 from h).ext e)⟩,(fun γ wA w' e h=>h)⟩,(fun γ w w' e h=>Bw.ext h e)⟩,(fun γ wA w' e h=>h)⟩
    case hlate1 =>
     intro γ w2 hx2 hF;have p16:Js w2 (γ 16) c0:=(Au.get hF 16 Ab).resolve_left Ab;have p18:Bw w2 (γ 18) c0:=(Au.get hF 18 Ab).resolve_left Ab;clear hF;simp only[AZ,Nat.reduceAdd,EB,Array.getD_eq_getD_getElem?,List.getElem?_toArray,List.getElem?_cons_succ,List.getElem?_cons_zero,Option.getD_some];generalize γ 16=g16 at *;generalize γ 18=g18 at *;clear γ;obtain⟨a16,rfl,-⟩:=p16;obtain⟨b5,A5,n5,c5,b6,A6,n6,c6,rfl⟩:=p18.cells
     clear ca0 ca1 ca2 ca3 q0 q1 q2 q3;replace er:=er.ext hx2;replace eq:=eq.ext hx2;replace hx:=hx.trans hx2;clear hx2;obtain⟨_,_,_,_,_,_,_,_,ca0,ca1,ca2,ca3,-⟩:=eq.at_ (j:=k) (by first | omega | (simp;omega));have fa0:=eq.frozen (k*4);have fa1:=eq.frozen (k*4+1);have fa2:=eq.frozen (k*4+2);have fa3:=eq.frozen (k*4+3);go_wp2;refine⟨?_,?_⟩
     ·go_wp2
      skip;obtain⟨W3,eW,eq',U⟩:=eq.put (k:=k) (by first | omega | (simp;omega)) p18;rw[←eW];clear eW eq;replace er:=er.upd U Ai;replace hx:=U.from_ hx Ai;have eq:=eq';clear U eq'
      go_meet
      case rel=>exact⟨eq,er,hx⟩
     ·go_wp2
      refine⟨?_,trivial⟩;go_wp2;skip;obtain⟨W3,eW,eq',U⟩:=eq.put (k:=k) (by first | omega | (simp;omega)) p18;rw[←eW];clear eW eq;replace er:=er.upd U Ai;replace hx:=U.from_ hx Ai;have eq:=eq';clear U eq'
      go_meet
      case rel=>exact⟨eq,er,hx⟩
    intro γ w2 hx2 hF;have p16:Js w2 (γ 16) c0:=Au.get hF 16 Ab;have p18:Bw w2 (γ 18) c0:=Au.get hF 18 Ab;clear hF;simp only[AZ,Nat.reduceAdd];generalize γ 16=g16 at *;generalize γ 18=g18 at *;clear γ;obtain⟨a16,rfl,-⟩:=p16;obtain⟨b5,A5,n5,c5,b6,A6,n6,c6,rfl⟩:=p18.cells;clear ca0 ca1 ca2 ca3 q0 q1 q2 q3;replace er:=er.ext hx2;replace eq:=eq.ext hx2;replace hx:=hx.trans hx2;clear hx2;obtain⟨_,_,_,_,_,_,_,_,ca0,ca1,ca2,ca3,-⟩:=eq.at_ (j:=k) (by first | omega | (simp;omega))
    have fa0:=eq.frozen (k*4);have fa1:=eq.frozen (k*4+1);have fa2:=eq.frozen (k*4+2);have fa3:=eq.frozen (k*4+3);go_wp2;skip;obtain⟨W3,eW,eq',U⟩:=eq.put (k:=k) (by first | omega | (simp;omega)) p18;rw[←eW];clear eW eq;replace er:=er.upd U Ai;replace hx:=U.from_ hx Ai;have eq:=eq';clear U eq'
    go_meet
    case rel=>exact⟨eq,er,hx⟩
   case rest =>
    clear er eq hx ca0 ca1 ca2 ca3 q0 q1 q2 q3;obtain⟨eq,er,hx⟩:=hcut;have HB2:=Lib.hid (show qsz c0≤274877906944∧(∀ j m,qsz (DW k j c0 Rm G m)≤274877906944)∧∀ j (hj:j < lg.length),qsz lg[j]≤274877906944∧qsz (c0*lg[j])≤274877906944 by
     have h0:=HN.out;have h1:=fun m=>HR.out.2.2.2.2.2.2.elem m;have h1':=h1 (k+pl G - 1);have h2:qsz (ld G)≤t:=HX.out.2.2.2.2.1.elem _;have h3:=HX.out.2.2.2.2.2;have h4:(n - (k+1))*(t+1)+(t+1)≤(pl F+2)*(t+1):=by rw[←Nat.succ_mul];exact Nat.mul_le_mul_right _ Aa
     have h5:=fun m=>(HR.out.2.2.2.2.2.2.step (n:=k) HX.out.2.1 HX.out.2.2.1 HX.out.2.2.2.2.1).elem m;rw[←Hc0.out]at h5;have h6:qsz c0≤s+(n - (k+1))*(t+1)+t:=by rw[Hc0.out];have:=F8 (Rm (k+pl G - 1)) (ld G);omega
     refine⟨Aa,fun j m=>Qg (AJ HX.out.2.1) (fun m=>by have:=h1 m;omega) (fun m=>by have:=h5 m;omega) m,fun j hj=>?_⟩;have h7:qsz lg[j]≤t:=by rw[←DT hj,HL.out.2.2.2.1];exact HX.out.2.2.2.2.1.elem _
     have:=Cq c0 lg[j];exact⟨Aa,Aa⟩)
    have HST:=Lib.hid (HR.out.step HX.out.2.1 HX.out.2.2.1 HX.out.2.2.2.2.1 hkn Hc0.out);obtain⟨y1,Y1,yn,yc,y2,Y2,yn',yc',ca0,ca1,ca2,ca3,hy⟩:=eq.at_ (j:=k) (by rw[List.length_set];exact hkla);rw[List.getElem_set_self]at hy;have Hy:Hid (Bw wc _ c0):=Lib.hid hy;clear hy hkla
    go_wp2_with fail
    refine Calls.mono (bB _ c0 _ (Hy.out.has HB2.out.1)) ?_;rintro e w3 ⟨r,rfl,rfl,hx2⟩;replace er:=er.ext hx2;replace eq:=eq.ext hx2;replace hx:=hx.trans hx2;clear hx2;clear ca0 ca1 ca2 ca3 Hy;by_cases hz:c0=0
    ·have hb:=VP hz
     have Hz:=Lib.hid hz;clear hz;go_wp2;have Hkn:=Lib.hid HST.out;rw[Nq Hz.out]at Hkn
     go_roundw
     case rel=>exact⟨k,_,Rm,_,Aa,⟨(k:Int) - 1,Aa,by go_num⟩,er,eq,Hkn.out,hx⟩
     case measure=>simp[intOf]<;>omega
    ·have hb:=WY hz
     clear hz;go_wp2;obtain⟨wq,rfl⟩:∃ wq:World,wq=wr:=⟨_,rfl⟩
     go_loopw [59] (fun jv wx=>∃ (j:Nat),j≤pl G∧jv = .int .i64 j∧Ck wx w.heap.size 28 (Dn (pl F) (DW k j c0 Rm G))∧Ck wx w1.heap.size 28 (la.set k (some c0))∧Ext w wx) (fun jv _=>pl G - (intOf jv).toNat)
     case atStart=>exact⟨0,Nat.zero_le _,rfl,by rw[KN];exact er,eq,hx⟩
     case round =>
      clear er eq hx;obtain⟨j,hj,rfl,er,eq,hx⟩:=hrel;by_cases hjm:j < pl G
      ·have hjl:j < lg.length:=by have:=HL.out.2.2.1;omega
       obtain⟨g',o',bb,B1,nn,cc1,bb',B1',nn',cc1',hE',_,q0,q1,q2,q3,hq⟩:=HE.out.at_ (j:=j) hjl;cases hE';replace q0:=hx.cell q0;replace q1:=hx.cell q1;replace q2:=hx.cell q2;replace q3:=hx.cell q3;have Hq':=Lib.hid hq;clear hq;have hkj:k+j < pl F:=by have:=HN.out;omega
       have hne8:=er.lt;have hne9:=eq.lt
       go_wp2_with fail
       obtain⟨W10,eW10,e10,x10⟩:=Be.made wr 28 #[.bool bb,.slice B1 nn cc1,.bool bb',.slice B1' nn' cc1'] (by simp[Ag]);rw[←eW10];clear eW10 q0 q1 q2 q3;replace er:=er.ext x10;replace eq:=eq.ext x10;replace hx:=hx.trans x10;clear x10;obtain⟨z1,Z1,zn,zc,z2,Z2,zn',zc',ca0,ca1,ca2,ca3,hza⟩:=er.full_at hkj;obtain⟨y1,Y1,yn,yc,y2,Y2,yn',yc',cb0,cb1,cb2,cb3,hy⟩:=eq.at_ (j:=k) (by rw[List.length_set];exact Hkla.out)
       rw[List.getElem_set_self]at hy;have Hy:Hid (Bw W10 _ c0):=Lib.hid hy;have Hza:=Lib.hid hza;clear hza hy;obtain⟨ce100,ce101,ce102,ce103⟩:=e10.cells4;have fe10:=e10.frozen;refine Ae 17 [64,65,66,67,68,69,70,71,72,73,74,75,76,77,78,79,80] [[],[],[],[1,2],[],[],[],[5,6],[4,5,6,7],[4,5,6,7,8],[],[],[10,11],[10,11,12],[],[10,11,12,13,14],[4,5,6,7,8,9,10,11,12,13,14,15],[0,1,2,3,4,5,6,7,8,9,10,11,12,13,14,15,16],[0,1,2,3,4,5,6,7,8,9,10,11,12,13,14,15,16,17]] [5,6,7,4,8] [_,_,_,_,_] [(kv ?_),(kv ?_),(kv ?_),(kv ?_),(kv ?_),(kv ?_),(kv ?_),(kv ?_),(kv ?_),(kv ?_),(kv ?_),(kv ?_),(kv ?_),(kv ?_),(kv ?_),(fun γ=>γ 15),(fun γ=>γ 16)] (fun γ w'=>[True,True,True,True,True,True,True,True,True,True,True,True,True,True,True,Bw w' (γ 15) (c0*lg[j]),Bw w' (γ 16) (DW k j c0 Rm G (k+j) - c0*lg[j])]) Bd Ah Ah Bb Ah Bc Bg ?hstep2 ?_
       case hstep2 =>
        iterate 17 refine⟨?_,?_⟩
        trivial
        iterate 15 focus
         intro γ w' he hf;clear hf;refine⟨by trivial,?_⟩;intro R hR;have hc:=he.cells;have cq0:=he.cell ca0;have cq1:=he.cell ca1;have cq2:=he.cell ca2;have cq3:=he.cell ca3;have cq4:=he.cell cb0;have cq5:=he.cell cb1;have cq6:=he.cell cb2;have cq7:=he.cell cb3;have cq8:=he.cell ce100;have cq9:=he.cell ce101;have cq10:=he.cell ce102;have cq11:=he.cell ce103;go_simp;(try go_ints);(try(rw[if_neg Aa]));(try(rw[if_pos Aa]));(try go_simp);(try go_ints)
         refine hR _ _ (Ext.refl _) ?_ trivial;rfl
        ·intro γ w' he hf;clear hf;refine⟨trivial,?_⟩;intro R hR
         go_simp;exact AX (VU _ _ _ _ w' ((Hy.out.ext he).has HB2.out.1) ((Hq'.out.ext (hx.trans he)).has (HB2.out.2.2 j hjl).1)) hR
        ·intro γ w' he hf;have f15:Bw w' (γ 15) (c0*lg[j]):=hf 15 Ab;clear hf;refine⟨trivial,?_⟩;intro R hR
         go_simp;exact AX (ZB _ _ _ _ w' ((Hza.out.ext he).has (HB2.out.2.1 _ _)) (f15.has (HB2.out.2.2 j hjl).2)) hR
       intro γ w6 hx6 hF;have p15:Bw w6 (γ 15) (c0*lg[j]):=Au.get hF 15 Ab;have p16:Bw w6 (γ 16) (DW k j c0 Rm G (k+j) - c0*lg[j]):=Au.get hF 16 Ab;clear hF;simp only[AZ,Nat.reduceAdd];generalize γ 15=g15 at *;generalize γ 16=g16 at *;clear γ;clear ca0 ca1 ca2 ca3 cb0 cb1 cb2 cb3 ce100 ce101 ce102 ce103 fe10 e10 p15 Hza Hy;replace er:=er.ext hx6;replace eq:=eq.ext hx6;replace hx:=hx.trans hx6;clear hx6
       obtain⟨b5,A5,n5,c5,b6,A6,n6,c6,rfl⟩:=p16.cells;have hkf:k+j < (Dn (pl F) (DW k j c0 Rm G)).length:=by rw[LP];exact hkj
       have Hkf:=Lib.hid hkf;obtain⟨_,_,_,_,_,_,_,_,ca0,ca1,ca2,ca3,-⟩:=er.at_ (j:=k+j) (by first | omega | (simp;omega));have fa0:=er.frozen ((k+j)*4);have fa1:=er.frozen ((k+j)*4+1);have fa2:=er.frozen ((k+j)*4+2);have fa3:=er.frozen ((k+j)*4+3);clear hkf;go_wp2;have hkf:=Hkf.out;obtain⟨W7,eW,er',U⟩:=er.put (k:=k+j) (by first | omega | (simp;omega)) p16;rw[←eW];clear eW er;replace eq:=eq.upd U Ai
       replace hx:=U.from_ hx Ai;have er:=er';clear U er'
       go_roundw
       case rel=>exact⟨j+1,Aa,by go_num,by
        rw[Qi (G:=DW k (j+1) c0 Rm G) (fun n=>by
         have e:lg[j]=G j:=by rw[←DT hjl,HL.out.2.2.2.1]
         rw[KM,e];split<;>simp_all)]at er
        exact er,eq,hx⟩
       case measure=>simp[intOf];omega
      ·obtain rfl:j=pl G:=by omega
       rw[IV (AJ HX.out.2.1)]at er;have Hkn:=Lib.hid HST.out;go_wp2
       go_roundw
       case rel=>exact⟨k,_,_,_,Aa,⟨(k:Int) - 1,Aa,by go_num⟩,er,eq,Hkn.out,hx⟩
       case measure=>simp[intOf]<;>omega
  ·obtain rfl:i=0:=by omega
   have hz1:z < 0:=by omega
   have HE2:=Lib.hid (HR.out.end_ HX.out.1 HX.out.2.1 HX.out.2.2.1);have hla:=HE2.out.1;rw[hla,HE2.out.2.1]at eq;rw[HE2.out.2.2.1]at er;have Hz:=Lib.hid hz;clear hz hla HR;have hrq:=eq.row (K6 n _) (base:=w.heap.size) Aa;have hrr:=er.row (K6 (pl F) _) (Nat.le_refl _);have hTq:=fun W (e:wr=W)=>GR w.heap.size (some ⟨w1.heap.size,0,none⟩) n ((List.range n).map (pq F G)) W (by rw[Dx];omega) Aa (e▸hrq)
   have hTr:=fun W (e:wr=W)=>GR w.heap.size (some ⟨w.heap.size,0,none⟩) (pl F) ((List.range (pl F)).map (pr F G)) W (by rw[Dx];omega) Aa (e▸hrr);rw[Dx]at hTq hTr;have HT:=Lib.hid (And.intro hTq hTr);have HS2:=Lib.hid (show Bq (pl F) (pr F G)from(DJ HX.out.1 HX.out.2.1 HX.out.2.2.1).mono (by have:=HN.out;omega));have HP:=Lib.hid (And.intro (eq.isP (base:=w.heap.size) (HE2.out.2.1▸HE2.out.2.2.2) Aa (Nat.le_refl _) Aa) (er.isP (base:=w.heap.size) (N:=pl F) HS2.out (Nat.le_refl _) (Nat.le_refl _) Aa))
   clear hTq hTr hrq hrr er eq
   go_wp2_with fail
   refine Calls.mono (HT.out.1 _ rfl) ?_;rintro e w4 ⟨rfl,rfl⟩
   go_wp2_with fail
   refine Calls.mono (HT.out.2 _ rfl) ?_;rintro e w5 ⟨rfl,rfl⟩;go_wp2
   go_ret2
   rw[Iu,Iu,J4 (HE2.out.2.1▸HE2.out.2.2.2),J4 HS2.out];exact Ad.mk ⟨_,_,rfl,HP.out.1,HP.out.2⟩ hx
end Go.Proofs.YtmhgnigpmompmaaGreat
namespace Go.Hp
theorem QP(x:Rat)(a b:Nat):x^(a+b)=x^a*x^b:=by
 induction b with
 | zero=>rw[Nat.add_zero,Rat.pow_zero,Rat.mul_one]
 | succ b ih=>rw[←Nat.add_assoc,Rat.pow_succ,ih,Rat.pow_succ,Rat.mul_assoc]
def Fr(D k Y:Nat)(q:Rat):Prop:=∃ m:Int,q=(m:Rat) / ((D:Rat)^k)∧m.natAbs≤Y
theorem Fr.mono{D k Y Y':Nat}{q:Rat}(h:Fr D k Y q)(l:Y≤Y'):Fr D k Y' q:=by obtain⟨m,h1,h2⟩:=h;exact⟨m,h1,Aa⟩
theorem Fr.zero(D k Y:Nat):Fr D k Y 0:=⟨0,by rw[show((0:Int):Rat)=0 from rfl,Rat.div_def,Rat.zero_mul],Ac⟩
theorem Fr.sub{D k Y Z:Nat}{p q:Rat}(h:Fr D k Y p)(g:Fr D k Z q):Fr D k (Y+Z) (p - q):=by
 obtain⟨m,h1,h2⟩:=h;obtain⟨n,g1,g2⟩:=g;refine⟨m - n,?_,?_⟩
 ·rw[h1,g1,Rat.intCast_sub,Rat.div_def,Rat.div_def,Rat.div_def];grind
 ·have:=Int.natAbs_sub_le m n;omega
theorem Fr.mul{D a b Y Z:Nat}{p q:Rat}(h:Fr D a Y p)(g:Fr D b Z q):Fr D (a+b) (Y*Z) (p*q):=by
 obtain⟨m,h1,h2⟩:=h;obtain⟨n,g1,g2⟩:=g;refine⟨m*n,?_,?_⟩
 ·rw[h1,g1,Rat.intCast_mul,Rat.div_def,Rat.div_def,Rat.div_def,QP,Rat.inv_mul_rev];grind
 ·rw[Int.natAbs_mul];exact Nat.mul_le_mul h2 g2
theorem Fr.up{D k Y:Nat}{q:Rat}(hD:0 < D)(h:Fr D k Y q)(j:Nat):Fr D (k+j) (Y*D^j) q:=by
 have h0:=Jg hD;have h1:Fr D j (D^j) 1:=by
  refine⟨((D^j:Nat):Int),?_,Ac⟩;have h2:(D:Rat)^j≠0:=by
   induction j with
   | zero=>rw[Rat.pow_zero];decide
   | succ j ih=>rw[Rat.pow_succ];intro e;rcases Rat.mul_eq_zero.1 e with e | e<;>contradiction
  rw[Rat.intCast_natCast,Rat.natCast_pow];grind
 have:=h.mul h1;rwa[Rat.mul_one]at this
theorem Fr.qsz{D k Y:Nat}{q:Rat}(hD:0 < D)(h:Fr D k Y q){t:Nat}(h1:sz Y≤t)(h2:sz (D^k)≤t)(h3:1≤t):qsz q≤t:=by
 obtain⟨m,e,hm⟩:=h;rw[←Rat.natCast_pow,IR]at e;rw[e];exact Dr (Nat.le_trans (Bf hm) h1) (by simpa using h2) h3
section
variable{C S:Nat→Rat}{D X:Nat}
end
theorem T9{n:Nat}(h:n≤9223372036854775807):qsz (n:Rat)≤2:=by
 have h3:=Jb (n:=n) Aa;have h4:sz 1=1:=by decide
 show max (sz ((n:Int)).natAbs) (sz 1)≤2;rw[Int.natAbs_natCast];omega
theorem CD.rv{s:Nat}{F:Nat→Rat}(h:CD s F)(d:Nat):CD s (rv d F):=by
 obtain⟨D,X,⟨hD,hF⟩,h1,h2⟩:=h;refine⟨D,X,⟨hD,fun i=>?_⟩,h1,h2⟩;unfold Hp.rv
 split
 ·exact hF _
 ·exact⟨0,by show(0:Rat)=_;grind,Ac⟩
theorem CD.pd{s d:Nat}{F:Nat→Rat}(hC:CD s F)(hs:Bq (d+1) F)(hd:d≤9223372036854775807):CD (1+d*(s+3)) (pd F):=by
 refine CD.of (k:=s+2) (n:=d) (fun i hi=>by unfold Hp.pd;rw[hs (i+1) Aa];exact Rat.mul_zero _) fun i hi=>?_;have h1:=Cq ((i+1:Nat):Rat) (F (i+1));have h2:=T9 (n:=i+1) Aa;have h3:=hC.elem (i+1);show Hp.qsz (((i+1:Nat):Rat)*F (i+1))≤s+2;omega
end Go.Hp
namespace Go.Hp
open Go.RowKit
def ZX(base:Nat)(w:World)(v:Value)(t:TypeId)(l:List Rat):Prop:=l=[]∨∃ g cap,v = .slice (some ⟨g,0,none⟩) l.length cap∧base≤g∧l.length≤cap∧cap≤9223372036854775807∧Ck w g t (l.map some)
def dQ(base:Nat)(w:World)(v:Value)(t:TypeId)(F:Nat→Rat):Prop:=pl F=0∨∃ g cap,v = .slice (some ⟨g,0,none⟩) (pl F) cap∧base≤g∧pl F≤cap∧cap≤9223372036854775807∧Ck w g t (Dn (pl F) F)
theorem DX.arr{base:Nat}{e:TypeId}{w:World}{v:Value}{l:List Rat}(h:DX base e w v l):ZX base w v e l:=by
 obtain⟨ess,h1,h2,⟨h3,h4⟩,h5⟩:=h;rcases h4 with⟨_,h0⟩ | ⟨g,cap,cur,rfl,hbg,hb,hnc,hcm,hcs,htake⟩
 ·exact .inl (List.eq_nil_of_length_eq_zero h0)
 ·refine .inr ⟨g,cap,rfl,hbg,hnc,Gs hcm,cur,hb,by rw[hcs,List.length_map];omega,fun j hj=>?_⟩
  have hj':j < l.length:=by simpa using hj
  have hje:j < ess.length:=by omega
  have hq:=h5 j hj' hje;obtain⟨b,A,n,c,b',A',n',c',e⟩:=Bw.cells_ hq;have ec:=R4 e;have key:∀ i,i < 4→cur[j*4+i]? = ess[j][i]? := fun i hi=>by
   have hlt:j*4+i < l.length*4:=by omega
   rw[←Mc h2 hje hi,←htake,List.getElem?_take_of_lt hlt];simp
  refine⟨b,A,n,c,b',A',n',c',by have:=key 0 Aa;rw[ec]at this;simpa using this,by have:=key 1 Aa;rw[ec]at this;simpa using this,by have:=key 2 Aa;rw[ec]at this;simpa using this,by have:=key 3 Aa;rw[ec]at this;simpa using this,?_⟩;rw[List.getElem_map,←e];exact hq
theorem Ck.pre{w:World}{g:Nat}{t:TypeId}{l:List (Option Rat)}(h:Ck w g t l)(n:Nat):Ck w g t (l.take n):=by
 obtain⟨cs,h1,h2,h3⟩:=h;have hl:(l.take n).length≤l.length:=List.length_take_le' _ _;refine⟨cs,h1,Aa,fun j hj=>?_⟩;have:=h3 j Aa;rw[List.getElem_take];exact this
theorem UR(N n:Nat)(F:Nat→Rat)(h:n≤N):(Dn N F).take n=Dn n F:=by
 unfold Dn;rw[←List.map_take,List.take_range,Nat.min_eq_left h]
theorem ZX.fin{base n c:Nat}{w w':World}{A:Option Addr}{t:TypeId}{l:List Rat}(h:ZX base w (.slice A n c) t l)(e:Ext w w'):dQ base w' (.slice A (BK l).length c) t (co l):=by
 have hp:pl (co l)≤l.length:=BB (Fh l);rcases h with rfl | ⟨g,cap,e1,h1,h2,h3,h4⟩
 ·exact .inl (by rw[Oa,BV])
 ·refine .inr ⟨g,cap,?_,h1,Aa,h3,?_⟩
  ·rw[Iu]
   injection e1 with e1 e2 e3;rw[e1,e3]
  ·have:=(h4.ext e).pre (pl (co l))
   rw[Qq,UR _ _ _ hp]at this;exact this
end Go.Hp
namespace Go.Proofs.YtmhgnigpmompmaaGreat
open Go.RowKit Go.Hp
theorem NW(W:World)(base ty g:Nat)(v:Value)(l:List Rat)(q:Rat){b b':Bool}{A A':Option Addr}{n c n' c':Nat}(h:DX base 28 W v l)(hq:Bw W (.agg #[.bool b,.slice A n c,.bool b',.slice A' n' c']) q)(hn:l.length≤1099511627776)(hb:base≤W.heap.size)(hg:g=W.heap.size) :
  ∃ v' w',(Builtin.append_ #[43,43] ty #[v,.slice (some ⟨g,0,none⟩) 1 1]).run Tryz.prog (W.alloc (.cells #[.bool b,.slice A n c,.bool b',.slice A' n' c'] 28)) = .ok v' w'∧(DX base 28 w' v' (l ++ [q])∧Ch (blk v) (W.alloc (.cells #[.bool b,.slice A n c,.bool b',.slice A' n' c'] 28)) w'):=by
 subst hg;obtain⟨g,cs,e1,h1,h2,h3,h4⟩:=PR.mk hq (base:=W.heap.size) (Nat.le_refl _) 28;cases e1;obtain⟨i0,hi,hz0,hz1,hz2⟩:=info_parts Mr;have ho:=Bw.one h4;have hx:=(Ext.refl W).alloc (.cells #[.bool b,.slice A n c,.bool b',.slice A' n' c'] 28);obtain⟨v',w',a,b,c⟩:=BD.append (P:=Tryz.prog) (h.ext hx) 43 ty i0 _ 64 Tryz.underlying43 hi hz0 hz1 hz2 rfl (by simp[nodig,Ag,Value.cells]) Ab ⟨W.heap.size,0,none⟩ 1 cs h3 h4 h2.news ho.1 ho.2.1 (UD hn) Aa (Nat.le_trans hb hx.size) (fun _ _ _ k hq=>Bw.kd hq k)
 exact⟨v',w',a,b,c⟩
set_option maxHeartbeats 1000000 in
theorem KE(v:Value)(l:List Rat)(w:World)(hv:Kz 0 w v l)(hn:l.length≤1099511627776):Calls Tryz.prog 127 #[v] w (Ad w fun r w'=>CQ w.heap.size w' r (co l)∧dQ w.heap.size w' r 28 (co l)):=by
 have hqs:=hv.qsz;obtain⟨A,c,rfl,hl,hc,hA⟩:=hv;have HA:Hid (PE 0 w A l):=Lib.hid hA;clear hA;have HQ:=Lib.hid hqs;clear hqs
 go_enter Tryz.func127,Tryz.ntmps127
 go_wp2
 go_loopw [3,4] (fun ov iv wr=>∃ (k:Nat),k≤l.length∧iv = .int .i64 k∧DX w.heap.size 28 wr ov ((List.range k).map (co l))∧Ext w wr) (fun _ iv _=>l.length - (intOf iv).toNat)
 case atStart=>exact⟨0,Nat.zero_le _,rfl,BD.nil _ _ _ _ _,Ext.refl _⟩
 case round =>
  obtain⟨k,hk,rfl,hown,hx⟩:=hrel;by_cases hkl:k < l.length
  ·obtain⟨g,o,b,A1,n,c1,b',A1',n',c1',rfl,_,q0,q1,q2,q3,hq⟩:=HA.out.at_ (j:=k) hkl
   replace q0:=hx.cell q0;replace q1:=hx.cell q1;replace q2:=hx.cell q2;replace q3:=hx.cell q3;rw[←DT hkl]at hq;have Hq:=Lib.hid hq;clear hq
   go_wp2_with fail
   refine Calls.mono (F9 _ _ _ (Hq.out.ext hx)) ?_;rintro e w2 ⟨r,rfl,hr,hx2⟩;obtain⟨b5,A5,n5,c5,b6,A6,n6,c6,rfl⟩:=hr.cells;have Hr:=Lib.hid hr;clear hr;replace hown:=hown.ext hx2;replace hx:=hx.trans hx2;have Hown:=Lib.hid hown;clear hown;have hsz:=hx.size;clear hx2 q0 q1 q2 q3
   go_wp2_with (at_builtin;refine AB rfl _ _ 43 rfl u3 (.slice (some ⟨w2.heap.size,0,none⟩) 1 1) rfl rfl (NW w2 w.heap.size _ _ _ _ _ Hown.out Hr.out (by first | (rw[List.length_map,List.length_range];omega) | omega) hsz rfl) ?_)
   first | intro v' w5 hown U | rintro v' w5 ⟨hown,U⟩
   replace hx:=(Hown.out.ext ((Ext.refl w2).alloc _)).from_ U (hx.alloc _) (Nat.le_refl _);have Hown':=Lib.hid hown;clear hown U;go_wp2
   go_roundw
   case rel=>exact⟨k+1,Aa,by go_num,by rw[Ih];exact Hown'.out,hx⟩
   case measure=>simp[intOf]<;>omega
  ·obtain rfl:k=l.length:=by omega
   have hlen:((List.range l.length).map (co l)).length=l.length:=by simp
   have hco:(List.range l.length).map (co l)=l:=by
    apply List.ext_getElem
    ·simp
    ·intro i h1 h2;simp[DT h2]
   rw[hco]at hown;have harr:=DX.arr hown;obtain⟨A2,c2,rfl,h2,h3,h4⟩:=DX.row hown;have Harr:=Lib.hid harr;clear harr;have Hrow:Hid (KH w.heap.size wr A2 l):=Lib.hid h4;clear h4 hco hlen hown;have hx0:=hx;go_wp2;clear hx
   go_loopw [5] (fun nv wx=>∃ m:Nat,m≤l.length∧nv = .int .i64 m∧(∀ j,m≤j→(h:j < l.length)→l[j]=0)∧Ext wr wx) (fun nv _=>(intOf nv).toNat)
   case atStart=>exact⟨l.length,Nat.le_refl _,rfl,fun j h1 h2=>Aa,Ext.refl _⟩
   case round =>
    obtain⟨m,hm,rfl,hz,hx⟩:=hrel;have Hz:=Lib.hid hz;clear hz;by_cases h0:0 < m
    ·obtain⟨m,rfl⟩:∃ k,m=k+1:=⟨m - 1,Aa⟩
     have hml:m < l.length:=by omega
     have Hrow':Hid (KH w.heap.size _ A2 l):=Lib.hid Hrow.out;obtain⟨g,o,b,A1,n,c1,b',A1',n',c1',rfl,hb,q0,q1,q2,q3,hq⟩:=Hrow'.out.at_ (j:=m) hml;replace q0:=hx.cell q0;replace q1:=hx.cell q1;replace q2:=hx.cell q2;replace q3:=hx.cell q3;have Hq:=Lib.hid hq;clear hq
     go_wp2_with fail
     refine Calls.mono (Pf _ l[m] _ ((Hq.out.ext hx).has (HQ.out _ (List.getElem_mem hml)))) ?_;rintro e w2 ⟨r,rfl,rfl,hx2⟩;by_cases hd0:l[m]'(Aa)=0
     ·have hb:=VP hd0
      have Hd:=Lib.hid hd0;clear hd0;go_wp2
      go_roundw
      case rel=>exact⟨m,Aa,by go_num,fun j h1 h2=>by
       rcases Nat.eq_or_lt_of_le h1 with e | e
       ·subst e;exact Hd.out
       ·exact Hz.out j Aa h2,hx.trans hx2⟩
      case measure=>simp[intOf]<;>omega
     ·have hb:=WY hd0
      have Hd:=Lib.hid hd0;clear hd0;go_wp2
      go_ret
      have ht:=Fv hm Hz.out (fun h _=>by simpa using Hd.out);have hlen:(BK l).length=m+1:=by rw[ht,List.length_take];omega
      have hR:=(OQ.trim (Hrow.out.ext (hx.trans hx2)) h2 h3)
      rw[hlen]at hR;exact Ad.mk ⟨CQ.of_trim hR rfl,hlen▸Harr.out.fin (hx.trans hx2)⟩ ((hx0.trans hx).trans hx2)
    ·obtain rfl:m=0:=by omega
     have ht:=Fv hm Hz.out (fun h hh=>Aa);have hlen:(BK l).length=0:=by rw[ht];rfl
     have hR:=(OQ.trim (Hrow.out.ext hx) h2 h3)
     rw[hlen]at hR;have HR:=Lib.hid (And.intro hR hlen);clear hR hlen ht;go_wp2
     go_ret
     exact Ad.mk ⟨CQ.of_trim HR.out.1 rfl,HR.out.2▸Harr.out.fin hx⟩ (hx0.trans hx)
theorem Fa(v:Value)(l:List Rat)(w:World)(hv:Kz 0 w v l)(hn:l.length≤1099511627776):Calls Tryz.prog 127 #[v] w (Ad w fun r w'=>CQ w.heap.size w' r (co l)):=
 Ad.imp (KE v l w hv hn) fun _ _ h=>h.1
theorem Vk(v:Value)(l:List Rat)(w:World)(hv:Kz 0 w v l)(hn:l.length≤1099511627776):Calls Tryz.prog 166 #[v] w (Ad w fun r _=>r = .int .i64 ((pl (co l):Int) - 1)):=by
 have HV:=Lib.hid hv;obtain⟨A,c,rfl⟩:=hv.len;clear hv;have hpl:pl (co l)≤l.length:=BB (Fh l)
 go_enter Tryz.func166,Tryz.ntmps166
 go_wp2_with fail
 refine Calls.mono (Fa _ l _ HV.out hn) ?_;rintro e w1 ⟨r,rfl,hr,hx1⟩;obtain⟨A2,c2,l2,rfl,-⟩:=hr.form;clear hr;go_wp2
 go_ret
 exact Ad.mk rfl hx1
theorem dZ(v:Value)(l:List Rat)(k:Nat)(w:World)(hv:Kz 0 w v l)(hk:k≤9223372036854775807):Calls Tryz.prog 165 #[v,.int .i64 (k:Nat)] w (Ad w fun r w'=>Bw w' r (co l k)):=by
 obtain⟨A,c,rfl,hl,hc,hA⟩:=hv;by_cases hkl:k < l.length
 ·obtain⟨g,o,b,A1,n,c1,b',A1',n',c1',rfl,_,q0,q1,q2,q3,hq⟩:=PE.at_ hA (j:=k) hkl
  rw[←DT hkl]at hq;have Hq:=Lib.hid hq;clear hq hA;have hkc:(k:Int) < l.length:=by omega
  replace q0:=((Ext.refl w).alloc (.cells #[.bool false,.slice none 0 0,.bool false,.slice none 0 0] 28)).cell q0;replace q1:=((Ext.refl w).alloc (.cells #[.bool false,.slice none 0 0,.bool false,.slice none 0 0] 28)).cell q1;replace q2:=((Ext.refl w).alloc (.cells #[.bool false,.slice none 0 0,.bool false,.slice none 0 0] 28)).cell q2;replace q3:=((Ext.refl w).alloc (.cells #[.bool false,.slice none 0 0,.bool false,.slice none 0 0] 28)).cell q3
  go_enter Tryz.func165,Tryz.ntmps165
  go_wp2_with fail
  refine Calls.mono (F9 _ _ _ (Hq.out.ext ((Ext.refl w).alloc _))) ?_;rintro e w1 ⟨r,rfl,hr,hx1⟩;clear q0 q1 q2 q3;obtain⟨b5,A5,n5,c5,b6,A6,n6,c6,rfl⟩:=hr.cells;have hc1:=hx1.cells;have hf1:=hx1.frozens;have Hfin:=Lib.hid (Cs hr hx1.a1 (AL.at_ hx1 (g:=w.heap.size+0) Ac (by simp[Ag])) Aa);clear hr;go_wp2;refine bodyPost_ret (v := .agg #[.bool b5,.slice A5 n5 c5,.bool b6,.slice A6 n6 c6]) (by simp[results,Tryz.results165,go_sem,hc1]) rfl ?_
  exact Hfin.out
 ·have hz:co l k=((0:Int):Rat):=Qo Aa
  have hkc:¬ (k:Int) < l.length:=by omega
  have Hz:=Lib.hid hz;clear hz hA
  go_enter Tryz.func165,Tryz.ntmps165
  go_wp2_with fail
  refine Calls.mono (NC 0 _ Aa Aa) ?_;rintro e w1 ⟨r,rfl,hr,hx1⟩;rw[←Hz.out]at hr;obtain⟨b5,A5,n5,c5,b6,A6,n6,c6,rfl⟩:=hr.cells;have hc1:=hx1.cells;have hf1:=hx1.frozens;have Hfin:=Lib.hid (Cs hr hx1.a1 (AL.at_ hx1 (g:=w.heap.size+0) Ac (by simp[Ag])) Aa);clear hr;go_wp2;refine bodyPost_ret (v := .agg #[.bool b5,.slice A5 n5 c5,.bool b6,.slice A6 n6 c6]) (by simp[results,Tryz.results165,go_sem,hc1]) rfl ?_
  exact Hfin.out
theorem bJ(v:Value)(l:List Rat)(w:World)(hv:Kz 0 w v l):Calls Tryz.prog 165 #[v,.int .i64 (-1)] w (Ad w fun r w'=>Bw w' r 0):=by
 obtain⟨A,c,rfl,hl,hc,hA⟩:=hv;clear hA
 go_enter Tryz.func165,Tryz.ntmps165
 go_wp2_with fail
 refine Calls.mono (NC 0 _ Aa Aa) ?_;rintro e w1 ⟨r,rfl,hr,hx1⟩;obtain⟨b5,A5,n5,c5,b6,A6,n6,c6,rfl⟩:=hr.cells;have hc1:=hx1.cells;have hf1:=hx1.frozens;have Hfin:=Lib.hid (Cs hr hx1.a1 (AL.at_ hx1 (g:=w.heap.size+0) Ac (by simp[Ag])) Aa);clear hr;go_wp2;refine bodyPost_ret (v := .agg #[.bool b5,.slice A5 n5 c5,.bool b6,.slice A6 n6 c6]) (by simp[results,Tryz.results165,go_sem,hc1]) rfl ?_;exact Hfin.out
end Go.Proofs.YtmhgnigpmompmaaGreat
namespace Go.Hp
open Go.RowKit
def CL(w:World)(g:Nat)(t:TypeId)(q:Rat):Prop:=∃ b A n c b' A' n' c',Be w g t #[.bool b,.slice A n c,.bool b',.slice A' n' c']∧Bw w (.agg #[.bool b,.slice A n c,.bool b',.slice A' n' c']) q
theorem CL.ext{w w':World}{g:Nat}{t:TypeId}{q:Rat}(h:CL w g t q)(e:Ext w w'):CL w' g t q:=by
 obtain⟨b,A,n,c,b',A',n',c',h1,h2⟩:=h;exact⟨b,A,n,c,b',A',n',c',h1.ext e,h2.ext e⟩
theorem CL.lt{w:World}{g:Nat}{t:TypeId}{q:Rat}(h:CL w g t q):g < w.heap.size:=by
 obtain⟨b,A,n,c,b',A',n',c',h1,h2⟩:=h;exact h1.lt
theorem CL.upd{w w':World}{g:Nat}{t:TypeId}{q:Rat}{G:List Nat}(h:CL w g t q)(U:Ch G w w')(hg:g∉G):CL w' g t q:=by
 obtain⟨b,A,n,c,b',A',n',c',h1,h2⟩:=h;exact⟨b,A,n,c,b',A',n',c',h1.upd U hg,h2.kd U.kd⟩
theorem CL.mk{w:World}{g:Nat}{t:TypeId}{q:Rat}{b b':Bool}{A A':Option Addr}{n c n' c':Nat}(h:Be w g t #[.bool b,.slice A n c,.bool b',.slice A' n' c'])(k:Bw w (.agg #[.bool b,.slice A n c,.bool b',.slice A' n' c']) q):CL w g t q:=⟨_,_,_,_,_,_,_,_,h,k⟩
theorem DX.off{base:Nat}{e:TypeId}{w w':World}{v:Value}{l:List Rat}{g:Nat}(h:DX base e w v l)(U:Ch [g] w w')(hg:∀ k∈blk v,k < g):DX base e w' v l:=
 BD.upd h U (fun k hk hG=>by have:=hg k hk;simp at hG;omega) fun _ _ q=>q.kd U.kd
end Go.Hp
namespace Go.Proofs.YtmhgnigpmompmaaGreat
open Go.RowKit Go.Hp
end Go.Proofs.YtmhgnigpmompmaaGreat
namespace Go.Hp
open Go.RowKit
theorem Ck.hs{w:World}{g:Nat}{t:TypeId}{N c:Nat}{F:Nat→Rat}(h:Ck w g t (Dn N F))(hs:∀ i,i < N→qsz (F i)≤274877906944)(hc:N≤c)(hm:c≤9223372036854775807):Kz 0 w (.slice (some ⟨g,0,none⟩) N c) ((List.range N).map F):=by
 have hrow:=h.row (K6 N F) (Nat.zero_le g);refine OQ.has (base:=0) ⟨_,c,by rw[Dx],by rw[Dx];exact hc,hm,hrow⟩ fun q hq=>?_;obtain⟨i,hi,rfl⟩:=List.mem_map.1 hq;exact hs i (List.mem_range.1 hi)
end Go.Hp
namespace Go.Proofs.YtmhgnigpmompmaaGreat
open Go.RowKit Go.Hp
theorem Sm(n:Nat)(x:Int)(hx:x=n)(hn:n≤1099511627776)(w:World):∃ W,(Instr.makeSlice 43 (.int .i64 x) (.int .i64 x)).run Tryz.prog w = .ok (.slice (some ⟨w.heap.size,0,none⟩) n n) W∧Ck W w.heap.size 28 (List.replicate n none)∧Ext w W:=by
 subst hx;obtain⟨i0,hi,hz0,hz1,hz2⟩:=info_parts Mr;have h:=run_make (P:=Tryz.prog) w 43 28 i0 (.agg #[.bool false,.slice none 0 0,.bool false,.slice none 0 0]) Tryz.underlying43 hi hz0 .i64 .i64 (n:Int) (n:Int) Aa Aa (by rw[hz2];omega) Aa;rw[h,hz1,Int.toNat_natCast];exact⟨_,rfl,Ck.new w _ n,(Ext.refl w).alloc _⟩
set_option maxRecDepth 20000 in
set_option maxHeartbeats 8000000 in
theorem V9(v u:Value)(l m:List Rat)(s t:Nat)(w:World)(hv:Kz 0 w v l)(hu:Kz 0 w u m)(h0:co m≠pz)(hF:CD s (co l))(hG:CD t (co m))(hn:l.length≤274877906944)(hm:m.length≤274877906944)(hK:s+(pl (co l)+2)*(t+1)+2*t+2≤274877906944) :
  Calls Tryz.prog 70 #[v,u] w (Ad w fun r w'=>∃ a b,r = .tuple #[a,b]∧CQ w.heap.size w' a (pq (co l) (co m))∧CQ w.heap.size w' b (pr (co l) (co m))):=by
 have HV:=Lib.hid hv;have HU:=Lib.hid hu;obtain⟨A,c,rfl⟩:=hv.len;obtain⟨E,d,rfl⟩:=hu.len;clear hv hu;have hp0:=BB (Fh l);have hq0:=BB (Fh m);have hFf:=Af.co l;have hGf:=Af.co m;have hN1:=KE _ l w HV.out Aa;have hN2:=fun w' (e:Ext w w')=>KE _ m w' (HU.out.ext e) Aa;obtain⟨F,hFe⟩:∃ F,F=co l:=⟨_,rfl⟩
 obtain⟨G,hGe⟩:∃ G,G=co m:=⟨_,rfl⟩
 rw[←hFe]at hF hp0 hK hFf hN1;rw[←hGe]at hG hq0 h0 hGf hN2;rw[←hFe,←hGe];have hpG:=AY hGf h0;have HN0:=Lib.hid (And.intro hN1 hN2);clear hN1 hN2;have HX:=Lib.hid (And.intro hFf (And.intro hGf (And.intro h0 (And.intro hF (And.intro hG hK)))));clear HV HU hFe hGe h0 hF hG hK hFf hGf
 go_enter Tryz.func70,Tryz.ntmps70
 go_wp2_with fail
 refine Calls.mono HN0.out.1 ?_;rintro e w1 ⟨r1,rfl,⟨hr1,ha1⟩,hx1⟩;have H1:=Lib.hid (And.intro hr1 ha1);clear hr1 ha1
 go_wp2_with fail
 refine Calls.mono (HN0.out.2 w1 hx1) ?_;rintro e w2 ⟨r2,rfl,⟨hr2,ha2⟩,hx2⟩;obtain⟨g2,cap2,rfl,hg2,hc2,hm2,eg⟩:=ha2.resolve_left Aa;clear HN0 hr2;by_cases hlt:pl F < pl G
 ·obtain⟨A1,c1,la,rfl,k1,k2,-⟩:=H1.out.1.form
  have Hx:=Lib.hid (hx1.trans hx2);clear hx1;have Hx2:=Lib.hid hx2;clear hx2 ha2 eg;go_wp2
  go_ret2
  have hdl:=JX (F:=F) (G:=G) ((AJ HX.out.1).mono Aa) HX.out.2.1 HX.out.2.2.1;rw[hdl.1,hdl.2];exact Ad.mk ⟨_,_,rfl,CQ.nil _ _,H1.out.1.ext Hx2.out⟩ Hx.out
 obtain⟨g1,cap1,rfl,hg1,hc1,hm1,er⟩:=H1.out.2.resolve_left Aa;have hg1w:=er.lt;replace er:=er.ext hx2;replace hx1:=hx1.trans hx2;have hsz2:=hx2.size;have hg2w:=eg.lt;clear H1 hx2 ha2;obtain⟨n,hn'⟩:∃ n,n=pl F - pl G+1:=⟨_,rfl⟩
 have hnF:n+pl G=pl F+1:=by omega
 have hn1:1≤n:=by omega
 have hn40:n≤274877906944:=by omega
 have hpF:pl F≤274877906944:=by omega
 have hpG2:pl G≤274877906944:=by omega
 obtain⟨W0,hmk,eq,hxq⟩:=Sm n ((pl F:Int) - pl G+1) Aa Aa w2;have HN:=Lib.hid hnF;clear hnF hn';replace er:=er.ext hxq;replace eg:=eg.ext hxq;replace hx1:=hx1.trans hxq;have hne1:g1 < g2:=by omega
 have hne2:g2 < w2.heap.size:=by omega
 clear hxq hp0 hq0 hg1w hg2w hsz2 hg2;go_wp2
 go_loopw [9] (fun iv wr=>∃ (i:Nat) (Q Rm:Nat→Rat) (la:List (Option Rat)),i≤n∧(∃ z:Int,z+1=i∧iv = .int .i64 z)∧Ck wr g1 28 (Dn (pl F) Rm)∧Ck wr g2 28 (Dn (pl G) G)∧Ck wr w2.heap.size 28 la∧IE F G n s t i la Q Rm∧Ext w wr) (fun iv _=>(intOf iv+1).toNat)
 case atStart=>exact⟨n,pz,F,_,Nat.le_refl _,⟨_,by have:=HN.out;omega,rfl⟩,er,eg,eq,IE.start ((AJ HX.out.1).mono (by have:=HN.out;omega)) HX.out.2.2.2.1,hx1⟩
 case round =>
  clear er eq eg hx1;obtain⟨i,Q,Rm,la,hi,⟨z,hz,rfl⟩,er,eg,eq,hst,hx⟩:=hrel;have HR:=Lib.hid hst;clear hst;by_cases hi0:0 < i
  ·obtain⟨k,rfl⟩:∃ k,i=k+1:=⟨i - 1,Aa⟩
   obtain rfl:z=(k:Int):=by omega
   clear hz hi0;have hkn:k < n:=by omega
   have hkp:k+pl G - 1 < pl F:=by have:=HN.out;omega
   obtain⟨z1,Z1,zn,zc,z2,Z2,zn',zc',ca0,ca1,ca2,ca3,hza⟩:=er.full_at (j:=k+pl G - 1) hkp;obtain⟨y1,Y1,yn,yc,y2,Y2,yn',yc',cb0,cb1,cb2,cb3,hzb⟩:=eg.full_at (j:=pl G - 1) Aa;have Hq:=Lib.hid (And.intro hza hzb);clear hza hzb;have HB:=Lib.hid (show qsz (Rm (k+pl G - 1))≤274877906944∧qsz (G (pl G - 1))≤274877906944 by
    have h0:=HN.out;have h1:=HR.out.2.2.2.2.2.2.elem (k+pl G - 1);have h2:qsz (G (pl G - 1))≤t:=HX.out.2.2.2.2.1.elem _;have h3:=HX.out.2.2.2.2.2;have h4:(n - (k+1))*(t+1)≤(pl F+2)*(t+1):=Nat.mul_le_mul_right _ Aa;exact⟨Aa,Aa⟩)
   obtain⟨c0,hc0⟩:∃ c0,c0=Rm (k+pl G - 1) / G (pl G - 1):=⟨_,rfl⟩
   have Hc0:=Lib.hid hc0;clear hc0;have hkla:k < la.length:=by have:=HR.out.1;omega
   have Hkla:=Lib.hid hkla;clear hkla
   go_wp2_with fail
   refine Ae 16 [38,39,40,41,42,43,44,45,46,47,48,49,50,51,52,10] [[],[],[],[2],[1,2,3],[1,2,3,4],[0,1,2,3,4,5],[0,1,2,3,4,5,6],[],[],[9],[9,10],[8,9,10,11],[8,9,10,11,12],[0,1,2,3,4,5,6,7,8,9,10,11,12,13],[],[0,1,2,3,4,5,6,7,8,9,10,11,12,13,14,15]] [6,9,7] [_,_,_] [(kv ?_),(kv ?_),(kv ?_),(kv ?_),(kv ?_),(kv ?_),(kv ?_),(kv ?_),(kv ?_),(kv ?_),(kv ?_),(kv ?_),(kv ?_),(kv ?_),(fun γ=>γ 14),(fun γ=>γ 15)] (fun γ w'=>[True,True,True,True,True,True,True,True,True,True,True,True,True,True,Bw w' (γ 14) c0,AV w' (γ 15) wr.heap.size #[.bool false,.slice none 0 0,.bool false,.slice none 0 0] 28]) Bd Ah Ah Bb Ah Bc Bg ?hstep1 ?_
   case hstep1 =>
    iterate 16 refine⟨?_,?_⟩
    trivial
    iterate 14 focus
     intro γ w' he hf;clear hf;refine⟨by trivial,?_⟩;intro R hR;have hc:=he.cells;have cq0:=he.cell ca0;have cq1:=he.cell ca1;have cq2:=he.cell ca2;have cq3:=he.cell ca3;have cq4:=he.cell cb0;have cq5:=he.cell cb1;have cq6:=he.cell cb2;have cq7:=he.cell cb3;go_simp;(try go_ints);(try(rw[if_neg Aa]));(try(rw[if_pos Aa]));(try go_simp);(try go_ints)
     refine hR _ _ (Ext.refl _) ?_ trivial;rfl
    ·intro γ w' he hf;clear hf;refine⟨trivial,?_⟩;intro R hR
     go_simp;exact AX (Hc0.out▸QW _ _ _ _ w' ((Hq.out.1.ext he).has HB.out.1) ((Hq.out.2.ext he).has HB.out.2)) hR
    ·intro γ w' he hf;clear hf;refine⟨trivial,?_⟩;intro R hR
     go_simp;exact hR _ _ ((Ext.refl _).alloc _) rfl (AV.mk (Nat.le_trans Ac he.size) (by simp[Ag]))
   intro γ w3 hx3 hF;have p14:Bw w3 (γ 14) c0:=Au.get hF 14 Ab;have p15:AV w3 (γ 15) wr.heap.size #[.bool false,.slice none 0 0,.bool false,.slice none 0 0] 28:=Au.get hF 15 Ab;clear hF;simp only[AZ,Nat.reduceAdd];generalize γ 14=g14 at *;generalize γ 15=g15 at *;clear γ;obtain⟨gc,rfl,hgc,ec⟩:=p15;obtain⟨b5,A5,n5,c5,b6,A6,n6,c6,rfl⟩:=p14.cells;have hlt2:=eq.lt;have hszw:=hx.size;clear ca0 ca1 ca2 ca3 cb0 cb1 cb2 cb3 Hq HB
   replace er:=er.ext hx3;replace eg:=eg.ext hx3;replace eq:=eq.ext hx3;replace hx:=hx.trans hx3;clear hx3;obtain⟨cec0,cec1,cec2,cec3⟩:=ec.cells4;have fec:=ec.frozen
   go_upto_region 9 with(fail)
   have hge:w.heap.size≤gc:=by omega
   obtain⟨W4,eW,ec',U⟩:=ec.put4 (.bool b5) (.slice A5 n5 c5) (.bool b6) (.slice A6 n6 c6) rfl rfl rfl rfl;rw[←eW];clear eW ec;replace p14:=p14.kd U.kd;replace er:=er.upd U Ai;replace eg:=eg.upd U Ai;replace eq:=eq.upd U Ai;replace hx:=U.from_ hx Ai;have ec:=ec';clear U ec';clear cec0 cec1 cec2 cec3 fec;obtain⟨cec0,cec1,cec2,cec3⟩:=ec.cells4;have fec:=ec.frozen;have hkla:=Hkla.out;obtain⟨_,_,_,_,_,_,_,_,ca0,ca1,ca2,ca3,-⟩:=eq.at_ (j:=k) (by first | omega | (simp;omega))
   have fa0:=eq.frozen (k*4);have fa1:=eq.frozen (k*4+1);have fa2:=eq.frozen (k*4+2);have fa3:=eq.frozen (k*4+3);clear hkla;go_wp2;have hkla:=Hkla.out;obtain⟨W5,eW,eq',U⟩:=eq.put (k:=k) (by first | omega | (simp;omega)) p14;rw[←eW];clear eW eq;replace p14:=p14.kd U.kd;replace er:=er.upd U Ai;replace eg:=eg.upd U Ai;replace ec:=ec.upd U Ai;replace hx:=U.from_ hx Ai;have eq:=eq';clear U eq';have eb:=CL.mk ec p14
   have hlt3:gc≠w2.heap.size:=by omega
   clear cec0 cec1 cec2 cec3 fec p14 ec hkla;have HB2:=Lib.hid (show qsz c0≤274877906944∧(∀ j m,qsz (DW k j c0 Rm G m)≤274877906944)∧∀ j,qsz (G j)≤274877906944∧qsz (c0*G j) < 274877906944 by
    have h0:=HN.out;have h1:=fun m=>HR.out.2.2.2.2.2.2.elem m;have h1':=h1 (k+pl G - 1);have h2:qsz (G (pl G - 1))≤t:=HX.out.2.2.2.2.1.elem _;have h3:=HX.out.2.2.2.2.2;have h4:(n - (k+1))*(t+1)+(t+1)≤(pl F+2)*(t+1):=by rw[←Nat.succ_mul];exact Nat.mul_le_mul_right _ Aa
    have h5:=fun m=>(HR.out.2.2.2.2.2.2.step (n:=k) HX.out.2.1 HX.out.2.2.1 HX.out.2.2.2.2.1).elem m;have h5':∀ m,qsz (psb Rm (cv (mono k c0) G) m)≤s+(n - (k+1))*(t+1)+t+1:=fun m=>by have:=h5 m;rw[Hc0.out];exact this
    have h6:qsz c0≤s+(n - (k+1))*(t+1)+t:=by rw[Hc0.out];have:=F8 (Rm (k+pl G - 1)) (G (pl G - 1));omega
    refine⟨Aa,fun j m=>Qg (AJ HX.out.2.1) (fun m=>by have:=h1 m;omega) (fun m=>by have:=h5' m;omega) m,fun j=>?_⟩;have h7:qsz (G j)≤t:=HX.out.2.2.2.2.1.elem _;have:=Cq c0 (G j);exact⟨Aa,Aa⟩)
   have HST:=Lib.hid (HR.out.step HX.out.2.1 HX.out.2.2.1 HX.out.2.2.2.2.1 hkn Hc0.out);clear HR;obtain⟨wq,rfl⟩:∃ wq:World,wq=wr:=⟨_,rfl⟩
   go_loopw [11] (fun jv wx=>∃ (j:Nat),j≤pl G∧jv = .int .i64 j∧Ck wx g1 28 (Dn (pl F) (DW k j c0 Rm G))∧Ck wx g2 28 (Dn (pl G) G)∧Ck wx w2.heap.size 28 (la.set k (some c0))∧CL wx gc 28 c0∧Ext w wx) (fun jv _=>pl G - (intOf jv).toNat)
   case atStart=>exact⟨0,Nat.zero_le _,rfl,by rw[KN];exact er,eg,eq,eb,hx⟩
   case round =>
    clear er eq eg eb hx;obtain⟨j,hj,rfl,er,eg,eq,eb,hx⟩:=hrel;by_cases hjm:j < pl G
    ·have hkj:k+j < pl F:=by have:=HN.out;omega
     obtain⟨x1,X1,xn,xc,x2,X2,xn',xc',ec,hc⟩:=eb;obtain⟨z1,Z1,zn,zc,z2,Z2,zn',zc',ca0,ca1,ca2,ca3,hza⟩:=er.full_at hkj;obtain⟨y1,Y1,yn,yc,y2,Y2,yn',yc',cb0,cb1,cb2,cb3,hzb⟩:=eg.full_at hjm;have Hc:=Lib.hid hc;have Hza:=Lib.hid hza;have Hzb:=Lib.hid hzb;clear hc hza hzb;obtain⟨cec0,cec1,cec2,cec3⟩:=ec.cells4;have fec:=ec.frozen
     go_wp2_with fail
     refine Ae 17 [63,64,65,66,67,68,69,70,71,72,73,74,75,76,77,78,79] [[],[],[],[1,2],[],[],[],[5,6],[4,5,6,7],[4,5,6,7,8],[],[],[],[11,12],[11,12,13],[10,11,12,13,14],[4,5,6,7,8,9,10,11,12,13,14,15],[0,1,2,3,4,5,6,7,8,9,10,11,12,13,14,15,16],[0,1,2,3,4,5,6,7,8,9,10,11,12,13,14,15,16,17]] [6,9,11,10,7] [_,_,_,_,_] [(kv ?_),(kv ?_),(kv ?_),(kv ?_),(kv ?_),(kv ?_),(kv ?_),(kv ?_),(kv ?_),(kv ?_),(kv ?_),(kv ?_),(kv ?_),(kv ?_),(kv ?_),(fun γ=>γ 15),(fun γ=>γ 16)] (fun γ w'=>[True,True,True,True,True,True,True,True,True,True,True,True,True,True,True,Bw w' (γ 15) (c0*G j),Bw w' (γ 16) (DW k j c0 Rm G (k+j) - c0*G j)]) Bd Ah Ah Bb Ah Bc Bg ?hstep2 ?_
     case hstep2 =>
      iterate 17 refine⟨?_,?_⟩
      trivial
      iterate 15 focus
       intro γ w' he hf;clear hf;refine⟨by trivial,?_⟩;intro R hR;have hc:=he.cells;have cq0:=he.cell ca0;have cq1:=he.cell ca1;have cq2:=he.cell ca2;have cq3:=he.cell ca3;have cq4:=he.cell cb0;have cq5:=he.cell cb1;have cq6:=he.cell cb2;have cq7:=he.cell cb3;have cq8:=he.cell cec0;have cq9:=he.cell cec1;have cq10:=he.cell cec2;have cq11:=he.cell cec3;go_simp;(try go_ints);(try(rw[if_neg Aa]));(try(rw[if_pos Aa]));(try go_simp);(try go_ints)
       refine hR _ _ (Ext.refl _) ?_ trivial;rfl
      ·intro γ w' he hf;clear hf;refine⟨trivial,?_⟩;intro R hR
       go_simp;exact AX (bO _ _ _ _ w' ((Hc.out.ext he).has HB2.out.1) ((Hzb.out.ext he).has (HB2.out.2.2 j).1)) hR
      ·intro γ w' he hf;have f15:Bw w' (γ 15) (c0*G j):=hf 15 Ab;clear hf;refine⟨trivial,?_⟩;intro R hR
       go_simp;exact AX (Xy _ _ _ _ w' ((Hza.out.ext he).has (HB2.out.2.1 _ _)) (f15.has (Nat.le_of_lt (HB2.out.2.2 j).2)) (by have h1:=HB2.out.2.1 j (k+j);have h2:=(HB2.out.2.2 j).2;omega)) hR
     intro γ w6 hx6 hF;have p15:Bw w6 (γ 15) (c0*G j):=Au.get hF 15 Ab;have p16:Bw w6 (γ 16) (DW k j c0 Rm G (k+j) - c0*G j):=Au.get hF 16 Ab;clear hF;simp only[AZ,Nat.reduceAdd];generalize γ 15=g15 at *;generalize γ 16=g16 at *;clear γ;clear ca0 ca1 ca2 ca3 cb0 cb1 cb2 cb3 cec0 cec1 cec2 cec3 fec p15 Hza Hzb;have hk:=Hc.out.ext hx6;clear Hc;replace er:=er.ext hx6;replace eg:=eg.ext hx6;replace eq:=eq.ext hx6
     replace ec:=ec.ext hx6;replace hx:=hx.trans hx6;clear hx6;obtain⟨b5,A5,n5,c5,b6,A6,n6,c6,rfl⟩:=p16.cells;have Hk:=Lib.hid hk;have hkf:k+j < (Dn (pl F) (DW k j c0 Rm G)).length:=by rw[LP];exact hkj
     have Hkf:=Lib.hid hkf;obtain⟨_,_,_,_,_,_,_,_,ca0,ca1,ca2,ca3,-⟩:=er.at_ (j:=k+j) (by first | omega | (simp;omega));have fa0:=er.frozen ((k+j)*4);have fa1:=er.frozen ((k+j)*4+1);have fa2:=er.frozen ((k+j)*4+2);have fa3:=er.frozen ((k+j)*4+3);clear hkf hk;go_wp2;have hkf:=Hkf.out;have hk:=Hk.out;obtain⟨W7,eW,er',U⟩:=er.put (k:=k+j) (by first | omega | (simp;omega)) p16;rw[←eW];clear eW er;replace hk:=hk.kd U.kd
     replace eg:=eg.upd U Ai;replace eq:=eq.upd U Ai;replace ec:=ec.upd U Ai;replace hx:=U.from_ hx Ai;have er:=er';clear U er';have eb:=CL.mk ec hk;clear ec hk Hk
     go_roundw
     case rel=>exact⟨j+1,Aa,by go_num,by
      rw[Qi (G:=DW k (j+1) c0 Rm G) (fun n=>by
       rw[KM];split<;>simp_all)]at er
      exact er,eg,eq,eb,hx⟩
     case measure=>simp[intOf]<;>omega
    ·obtain rfl:j=pl G:=by omega
     rw[IV (AJ HX.out.2.1)]at er;clear eb;go_wp2
     go_roundw
     case rel=>exact⟨k,_,_,_,Aa,⟨(k:Int) - 1,Aa,by go_num⟩,er,eg,eq,HST.out,hx⟩
     case measure=>simp[intOf]<;>omega
  ·obtain rfl:i=0:=by omega
   have hz1:z < 0:=by omega
   have HE2:=Lib.hid (HR.out.end_ HX.out.1 HX.out.2.1 HX.out.2.2.1);rw[HE2.out.1,HE2.out.2.1]at eq;rw[HE2.out.2.2.1]at er;have Hz:=Lib.hid hz;clear hz HR eg;have hsq:Bq n (pq F G):=HE2.out.2.1▸HE2.out.2.2.2;have hsr:Bq (pl F) (pr F G):=(DJ HX.out.1 HX.out.2.1 HX.out.2.2.1).mono (by have:=HN.out;omega);have hFs:Bq (n+pl G - 1) F:=(AJ HX.out.1).mono (by have:=HN.out;omega);have hnt:n*(t+1)≤(pl F+2)*(t+1):=Nat.mul_le_mul_right _ (by have:=HN.out;omega)
   have hvq:=eq.hs (c:=n) (fun i _=>by have:=MX hFs HX.out.2.1 HX.out.2.2.1 HX.out.2.2.2.1 HX.out.2.2.2.2.1 i;have:=HX.out.2.2.2.2.2;omega) (Nat.le_refl _) Aa;have hvr:=er.hs (c:=cap1) (fun i _=>by have:=(CD.pr hFs HX.out.2.1 HX.out.2.2.1 HX.out.2.2.2.1 HX.out.2.2.2.2.1).elem i;have:=HX.out.2.2.2.2.2;omega) hc1 hm1;have HT:=Lib.hid (And.intro (Fa _ _ wr hvq (by rw[Dx];omega)) (fun w' (e:Ext wr w')=>Fa _ _ w' (hvr.ext e) (by rw[Dx];omega)))
   rw[J4 hsq,J4 hsr]at HT;clear hvq hvr hsq hsr hFs er eq;have Hx:=Lib.hid hx;clear hx
   go_wp2_with fail
   refine Calls.mono HT.out.1 ?_;rintro e w4 ⟨r4,rfl,h4,hx4⟩;have H4:=Lib.hid h4;clear h4
   go_wp2_with fail
   refine Calls.mono (HT.out.2 _ hx4) ?_;rintro e w5 ⟨r5,rfl,h5,hx5⟩;have H5:=Lib.hid h5;clear h5;go_wp2
   go_ret2
   have s1:=Hx.out.size;have s2:=hx4.size;exact Ad.mk ⟨_,_,rfl,(H4.out.ext hx5).base_le Aa,H5.out.base_le Aa⟩ ((Hx.out.trans hx4).trans hx5)
end Go.Proofs.YtmhgnigpmompmaaGreat
namespace Go.Hp
theorem CD.mn{s:Nat}{F:Nat→Rat}(h:CD s F):CD (2*s) (mn F):=by
 have h1:=h.elem (pl F - 1);have h2:Hp.qsz (1 / ld F)≤s:=by
  have e:1 / ld F=(ld F)⁻¹ := by rw[Rat.div_def,Rat.one_mul]
  rw[e];exact Nat.le_trans (Oy _) h1
 exact(h.psc (1 / ld F)).mono Aa
def R3(s:Nat):Nat→Nat
 | 0=>s
 | j+1=>18*R3 s j+16
theorem Q7{s i j:Nat}(h:i≤j):R3 s i≤R3 s j:=by
 induction j with
 | zero=>obtain rfl:i=0:=Aa;exact Nat.le_refl _
 | succ j ih =>
  rcases Nat.eq_or_lt_of_le h with e | e
  ·rw[e];exact Nat.le_refl _
  ·have:=ih Aa
   show _≤18*R3 s j+16;omega
def Pv(F0 G0:Nat→Rat)(j:Nat)(F G:Nat→Rat):Prop:=
 Af F∧Af G∧(∀ E,Af E→(Dv E F∧Dv E G↔Dv E F0∧Dv E G0))∧CD (R3 44 j) F∧CD (R3 44 j) G∧pl F≤7∧pl G+j≤7
theorem Pv.start{F G:Nat→Rat}(hF:Af F)(hG:Af G)(cF:CD 22 F)(cG:CD 22 G)(lF:pl F≤7)(lG:pl G≤7):Pv F G 0 F G:=
 ⟨hF,hG,fun _ _=>Iff.rfl,cF.mono (by show 22≤44;omega),cG.mono (by show 22≤44;omega),lF,lG⟩
theorem Pv.step{F0 G0 F G:Nat→Rat}{j:Nat}(h:Pv F0 G0 j F G)(h0:G≠pz):Pv F0 G0 (j+1) G (mn (pr F G)):=by
 obtain⟨hF,hG,hd,cF,cG,lF,lG⟩:=h;have hp:=AY hG h0;have hr:=Ex hF hG;have hs:=BB (DJ hF hG h0);have c1:=CD.pr (n:=8) ((AJ hF).mono Aa) hG h0 cF cG;refine⟨hG,KW hr,fun E hE=>?_,cG.mono (Q7 Aa),c1.mn.mono ?_,Aa,by rw[Qt hr];omega⟩
 ·rw[NT hr,LJ];exact hd E hE
 ·show _≤18*R3 44 j+16
  omega
theorem Pv.end_{F0 G0 F G:Nat→Rat}{j:Nat}(h:Pv F0 G0 j F G)(h0:G=pz):Ld F0 G0 (mn F):=by
 obtain⟨hF,hG,hd,_⟩:=h;subst h0;exact(Ld.zero hF).of hd
theorem Pv.room{F0 G0 F G:Nat→Rat}{j:Nat}(h:Pv F0 G0 j F G)(h0:G≠pz):j≤6∧R3 44 j+(pl F+2)*(R3 44 j+1)+2*R3 44 j+2≤68719476736∧pl (pr F G)≤6∧CD (9*R3 44 j+8) (pr F G):=by
 obtain⟨hF,hG,hd,cF,cG,lF,lG⟩:=h;have hp:=AY hG h0;have hs:=BB (DJ hF hG h0);have c1:=CD.pr (n:=8) ((AJ hF).mono Aa) hG h0 cF cG;have h6:R3 44 j≤R3 44 6:=Q7 Aa;have h7:R3 44 6=1528549360:=rfl;have h8:(pl F+2)*(R3 44 j+1)≤9*(R3 44 j+1):=Nat.mul_le_mul_right _ Aa;exact⟨Aa,Aa,Aa,c1.mono Aa⟩
def lin(a:Rat):Nat→Rat:=cs (-a) pone
theorem Eg:Bq 1 pone:=(Bq.pz 0).cs 1
theorem Dj:Af pone:=⟨1,Eg⟩
theorem OX(x:Rat):ev pone x=1:=by unfold pone;rw[ND _ Af.pz,Qd];grind
theorem Ow(a:Rat):Bq 2 (lin a):=Eg.cs _
theorem Oo(a:Rat):Af (lin a):=⟨2,Ow a⟩
theorem WK(a x:Rat):ev (lin a) x=x - a:=by unfold lin;rw[ND _ Dj,OX];grind
theorem CD.pone:CD 3 pone:=by
 have:=CD.pz.cs 1;have e:qsz (1:Rat)=1:=by decide
 rw[e]at this;exact this
theorem CD.lin{a:Rat}(h:qsz a≤2):CD 6 (lin a):=by
 have:=CD.pone.cs (-a);rw[FW]at this;exact this.mono Aa
def lgp(X:Nat→Rat)(i:Nat):Nat→Nat→Rat
 | 0=>pone
 | n+1=>if n=i then lgp X i n else cv (lgp X i n) (lin (X n))
theorem Fg(X:Nat→Rat)(i n:Nat):lgp X i (n+1)=if n=i then lgp X i n else cv (lgp X i n) (lin (X n)):=by rw[lgp]
theorem O7(X:Nat→Rat)(i n:Nat):Af (lgp X i n):=by
  induction n with
  | zero=>exact Dj
  | succ n ih => rw [Fg]; split
                 · exact ih
                 · exact ih.cv (Oo _)
theorem Oh(X:Nat→Rat)(i n:Nat):Bq (n+1) (lgp X i n)∧(i < n→Bq n (lgp X i n)):=by
 induction n with
 | zero=>exact⟨Eg,fun h=>Aa⟩
 | succ n ih =>
  rw[Fg];split
  ·exact⟨ih.1.mono Aa,fun _=>ih.1⟩
  ·have h1:=ih.1.cv (Ow (X n))
   refine⟨h1.mono Aa,fun h=>?_⟩;exact((ih.2 Aa).cv (Ow (X n))).mono Aa
theorem Wd(X:Nat→Rat){i n k:Nat}(hk:k < n)(hi:k≠i):ev (lgp X i n) (X k)=0:=by
 induction n with
 | zero=>omega
 | succ n ih =>
  rw[Fg];split
  ·rcases Nat.lt_or_ge k n with h | h
   ·exact ih h
   ·omega
  ·rw[FT (O7 _ _ _) (Oo _),WK]
   rcases Nat.lt_or_ge k n with h | h
   ·rw[ih h];grind
   ·obtain rfl:k=n:=by omega
    grind
theorem Vy(X:Nat→Rat){i n:Nat}{x:Rat}(h:∀ k,k < n→k≠i→x≠X k):ev (lgp X i n) x≠0:=by
 induction n with
 | zero=>show ev pone x≠0;rw[OX];decide
 | succ n ih =>
  have h1:=ih fun k hk=>h k Aa;rw[Fg];split
  ·exact h1
  ·rename_i hne
   rw[FT (O7 _ _ _) (Oo _),WK];intro e;rcases Rat.mul_eq_zero.1 e with e | e
   ·exact h1 e
   ·exact h n Aa hne Aj
theorem ZW{X:Nat→Rat}(i n:Nat)(hX:∀ k,k < n→qsz (X k)≤2)(hn:n≤4294967290):CD (3+7*n) (lgp X i n):=by
 induction n with
 | zero=>exact CD.pone
 | succ n ih =>
  have h1:=ih (fun k hk=>hX k Aa) Aa;rw[Fg];split
  ·exact h1.mono Aa
  ·exact(CD.cv (Oh X i n).1 Aa h1 (CD.lin (hX n Aa))).mono Aa
def hor(F:Nat→Rat)(x:Rat)(n i:Nat):Rat:=CK (n - i) (fun j=>F (i+j)) x
theorem Tg(F:Nat→Rat)(x:Rat)(n:Nat):hor F x n n=0:=by unfold hor;rw[Nat.sub_self];rfl
theorem M4(F:Nat→Rat)(x:Rat){n i:Nat}(h:i < n):hor F x n i=hor F x n (i+1)*x+F i:=by
 unfold hor;obtain⟨m,hm⟩:∃ m,n - i=m+1:=⟨n - i - 1,Aa⟩
 rw[hm,DD,show n - (i+1)=m from by omega];have:tl (fun j=>F (i+j))=fun j=>F (i+1+j):=by funext j;show F (i+(j+1))=_;rw[show i+(j+1)=i+1+j from by omega]
 rw[this];show F (i+0)+_=_;rw[Nat.add_zero];grind
theorem QB(F:Nat→Rat)(x:Rat)(n:Nat):hor F x n 0=CK n F x:=by unfold hor;simp
theorem YS{F:Nat→Rat}{x:Rat}{s t:Nat}(hF:∀ i,qsz (F i)≤s)(hx:qsz x≤t)(n:Nat):qsz (CK n F x)≤1+n*(s+t+1):=by
 induction n generalizing F with
 | zero=>show qsz 0≤_;rw[II];omega
 | succ n ih =>
  rw[DD];have h1:=EA (F 0) (x*CK n (tl F) x);have h2:=Cq x (CK n (tl F) x);have h3:=ih (F:=tl F) fun i=>hF (i+1);have h4:=hF 0;rw[Nat.succ_mul];omega
theorem RA{F:Nat→Rat}{x:Rat}{s t n:Nat}(hs:Bq n F)(hF:∀ i,qsz (F i)≤s)(hx:qsz x≤t):qsz (ev F x)≤1+n*(s+t+1):=by
 rw[EU hs];exact YS hF hx n
noncomputable def aX(X Y:Nat→Rat)(n i:Nat):Nat→Rat:=psc (Y i / ev (lgp X i n) (X i)) (lgp X i n)
noncomputable def Z8(X Y:Nat→Rat)(n:Nat):Nat→Nat→Rat
 | 0=>pz
 | m+1=>pad (Z8 X Y n m) (aX X Y n m)
def L6(X:Nat→Rat)(n:Nat):Prop:=∀ i k,i < n→k < i→X i≠X k
theorem L6.ne{X:Nat→Rat}{n:Nat}(h:L6 X n){i k:Nat}(hi:i < n)(hk:k < n)(e:k≠i):X i≠X k:=by
 rcases Nat.lt_or_ge k i with l | l
 ·exact h i k hi l
 ·exact fun e2=>h k i hk Aa e2.symm
theorem TA(X Y:Nat→Rat){n i:Nat}(h:i < n):Bq n (aX X Y n i):=((Oh X i n).2 h).psc _
theorem OD(X Y:Nat→Rat)(n:Nat):∀ m,m≤n→Bq n (Z8 X Y n m):=by
 intro m;induction m with
 | zero=>intro _;exact Bq.pz n
 | succ m ih=>intro h;exact(ih Aa).pad (TA X Y h)
theorem VG{X Y:Nat→Rat}{n:Nat}(h:L6 X n){k:Nat}(hk:k < n):∀ m,m≤n→ev (Z8 X Y n m) (X k)=if k < m then Y k else 0:=by
 intro m;induction m with
 | zero=>intro _;show ev pz _=_;rw[Qd,if_neg Aa]
 | succ m ih =>
  intro hm;show ev (pad (Z8 X Y n m) (aX X Y n m)) (X k)=_;rw[Jq ⟨n,OD X Y n m Aa⟩ ⟨n,TA X Y hm⟩,ih Aa];unfold aX;rw[G8 _ (O7 _ _ _)];by_cases e:k=m
  ·subst e
   have:=Vy X (i:=k) (n:=n) (x:=X k) fun j hj hne=>h.ne hk hj hne;rw[if_neg Aa,if_pos Aa];grind
  ·rw[Wd X hk e]
   by_cases l:k < m
   ·rw[if_pos l,if_pos Aa];grind
   ·rw[if_neg l,if_neg Aa];grind
theorem Ka{X:Nat→Rat}{n:Nat}(h:L6 X n){F G:Nat→Rat}(hF:Bq n F)(hG:Bq n G)(e:∀ k,k < n→ev F (X k)=ev G (X k)):F=G:=by
 have hz:psb F G=pz:=by
  refine I4 (l:=(List.range n).map X) (by simpa using hF.psb hG) ?_ ?_
  ·rw[List.nodup_iff_pairwise_ne,List.pairwise_map]
   refine List.Pairwise.imp_of_mem (R:=fun a b=>a < b) ?_ List.pairwise_lt_range;intro a b ha hb hab;exact fun e=>h b a (List.mem_range.1 hb) hab e.symm
  ·intro x hx
   obtain⟨k,hk,rfl⟩:=List.mem_map.1 hx;rw[aI ⟨n,hF⟩ ⟨n,hG⟩,e k (List.mem_range.1 hk)];grind
 funext i
 have:=congrFun hz i;simp only[psb,pz]at this;grind
def Nw:Nat→Nat
 | 0=>22
 | 1=>22
 | j+2=>Nw j+8*(Nw (j+1)+1)
def gT(j:Nat):Nat:=1+8*(Nw j+8*(Nw (j+1)+1)+Nw (j+1)+1)
def Uk:Nat→Nat
 | 0=>3
 | 1=>3
 | j+2=>Uk j+(gT j+Uk (j+1)+1)+1
theorem Sq:∀ j,Nw j≤Nw (j+1)
 | 0=>Nat.le_refl _
 | j+1=>by show _≤Nw j+8*(Nw (j+1)+1);omega
theorem SB:∀ j,Uk j≤Uk (j+1)
 | 0=>Nat.le_refl _
 | j+1=>by show _≤Uk j+(gT j+Uk (j+1)+1)+1;omega
theorem IX{f:Nat→Nat}(h:∀ j,f j≤f (j+1)){i j:Nat}(k:i≤j):f i≤f j:=by
 induction j with
 | zero=>obtain rfl:i=0:=Aa;exact Nat.le_refl _
 | succ j ih =>
  rcases Nat.eq_or_lt_of_le k with e | e
  ·rw[e];exact Nat.le_refl _
  ·exact Nat.le_trans (ih Aa) (h j)
theorem ZT:Nw 7=7310526:=rfl
theorem bG:Uk 7=76218651:=rfl
def P6(F0 G0:Nat→Rat)(j:Nat)(R S U N:Nat→Rat):Prop:=
 (Af R∧Af S∧Af U∧Af N)∧(∀ E,Af E→(Dv E R∧Dv E S↔Dv E F0∧Dv E G0)) ∧
 (∃ V W,Af V∧Af W∧pad (cv U F0) (cv V G0)=R∧pad (cv N F0) (cv W G0)=S) ∧
 (CD (Nw j) R∧CD (Nw (j+1)) S∧CD (Uk j) U∧CD (Uk (j+1)) N)∧pl R≤7∧pl S+j≤7∧pl G0≤7 ∧
 ((j=0∧U=pone∧N=pz∧S=G0)∨(1≤j∧pl N+pl R≤pl G0+1∧pl U+pl R≤pl G0+1∧pl S≤pl R∧R≠pz))
theorem P6.start{F G:Nat→Rat}(hF:Af F)(hG:Af G)(cF:CD 22 F)(cG:CD 22 G)(lF:pl F≤7)(lG:pl G≤7):P6 F G 0 F G pone pz:=
 ⟨⟨hF,hG,Dj,Af.pz⟩,fun _ _=>Iff.rfl,⟨pz,pone,Af.pz,Dj,by rw[CR,Cy];funext n;simp only[pad,pz];grind,by rw[CR,Cy];funext n;simp only[pad,pz];grind⟩,
  ⟨cF,cG,CD.pone,CD.pz.mono (by show 1≤3;omega)⟩,lF,lG,lG,.inl ⟨rfl,rfl,rfl,rfl⟩⟩
theorem P6.step{F0 G0 R S U N:Nat→Rat}{j:Nat}(h:P6 F0 G0 j R S U N)(h0:S≠pz):P6 F0 G0 (j+1) S (pr R S) N (psb U (cv (pq R S) N)):=by
 obtain⟨⟨hR,hS,hU,hN⟩,hd,⟨V,W,hV,hW,e1,e2⟩,⟨cR,cS,cU,cN⟩,lR,lS,lG,hj⟩:=h;have hp:=AY hS h0;have hs:=BB (DJ hR hS h0);have hR8:Bq (8+pl S - 1) R:=(AJ hR).mono Aa;have q8:=KQ hR8 hS h0;have hq:=Dl R S;have c1:=CD.pr hR8 hS h0 cR cS;have c2:=CD.pq hR8 hS h0 cR cS;refine⟨⟨hS,Ex hR hS,hN,hU.psb (hq.cv hN)⟩,fun E hE=>by rw[LJ];exact hd E hE,⟨W,psb V (cv (pq R S) W),hW,hV.psb (hq.cv hW),e2,?_⟩,
  ⟨cS,c1,cN,cU.psb (CD.cv q8 Aa c2 cN)⟩,Aa,Aa,lG,.inr ?_⟩
 ·show _=psb R (cv (pq R S) S)
  rw[Fp,Fp,Av,Av,←e2,Fs]
  conv=>rhs;rw[←e1]
  funext n;simp only[pad,psb];grind
 ·rcases hj with⟨rfl,rfl,rfl,rfl⟩ | ⟨hj,d1,d2,d3,d4⟩
  ·have e:psb pone (cv (pq R S) pz)=pone:=by rw[La];funext n;simp only[psb,pz];grind
   have l1:=BB Eg;rw[e,BV];exact⟨Aa,Aa,Aa,Aa,h0⟩
  ·have q1:=KQ (n:=pl R - pl S+1) ((AJ hR).mono Aa) hS h0
   have l1:pl (psb U (cv (pq R S) N))≤pl G0+1 - pl S:=BB (((AJ hU).mono Aa).psb ((q1.cv (AJ hN)).mono Aa));exact⟨Aa,Aa,Aa,Aa,h0⟩
theorem P6.room{F0 G0 R S U N:Nat→Rat}{j:Nat}(h:P6 F0 G0 j R S U N)(h0:S≠pz):j≤6∧Nw j≤7310526∧Nw (j+1)≤7310526∧Uk j≤76218651∧Uk (j+1)≤76218651∧Bq 8 (pq R S)∧pl N≤8∧(∀ i,qsz (pq R S i)≤73105268) ∧
  Nw j+(pl R+2)*(Nw (j+1)+1)+2*Nw (j+1)+2≤68719476736∧(∀ i,qsz (cv (pq R S) N i)≤661060805)∧pl U≤8:=by
 obtain⟨⟨hR,hS,hU,hN⟩,hd,-,⟨cR,cS,cU,cN⟩,lR,lS,lG,hj⟩:=h;have hp:=AY hS h0;have hR8:Bq (8+pl S - 1) R:=(AJ hR).mono Aa;have q8:=KQ hR8 hS h0;have b1:Nw j≤7310526:=by rw[←ZT];exact IX Sq Aa
 have b2:Nw (j+1)≤7310526:=by rw[←ZT];exact IX Sq Aa
 have a1:Uk j≤76218651:=by rw[←bG];exact IX SB Aa
 have a2:Uk (j+1)≤76218651:=by rw[←bG];exact IX SB Aa
 have c2:=CD.pq hR8 hS h0 cR cS;have c3:=CD.cv q8 Aa c2 cN;have h8:(pl R+2)*(Nw (j+1)+1)≤9*(Nw (j+1)+1):=Nat.mul_le_mul_right _ Aa;have lN:pl N≤8∧pl U≤8:=by
  rcases hj with⟨rfl,rfl,rfl,rfl⟩ | ⟨hj,d1,d2,d3,d4⟩
  ·have:=BB Eg
   rw[BV];omega
  ·omega
 refine⟨Aa,b1,b2,a1,a2,q8,lN.1,fun i=>?_,Aa,fun i=>?_,lN.2⟩
 ·have:=MX hR8 hS h0 cR cS i;omega
 ·have:=c3.elem i;omega
theorem P6.end_{F0 G0 R S U N:Nat→Rat}{j:Nat}(h:P6 F0 G0 j R S U N)(h0:S=pz)(hF:Af F0)(hG:Af G0)(hg:G0≠pz)(cF:CD 22 F0)(cG:CD 22 G0)(lF:pl F0≤7) :
  R≠pz∧CD 7310526 R∧CD 14621052 (mn R)∧CD 76218651 U∧CD 83529177 (psc (1 / ld R) U)∧pl U≤7∧1≤pl R∧pl R≤7 ∧
  pq G0 (mn R)≠pz∧CD 1052715993 (pq G0 (mn R))∧pl (pq G0 (mn R))≤7 ∧
  CD 8505257129 (pr (psc (1 / ld R) U) (pq G0 (mn R)))∧pl (pr (psc (1 / ld R) U) (pq G0 (mn R)))≤7 ∧
  CD 8519878205 (psb (mn R) (cv (pr (psc (1 / ld R) U) (pq G0 (mn R))) F0))∧pl (psb (mn R) (cv (pr (psc (1 / ld R) U) (pq G0 (mn R))) F0))≤14 ∧
  (∀ i,qsz (pq (psb (mn R) (cv (pr (psc (1 / ld R) U) (pq G0 (mn R))) F0)) G0 i)≤8519878572) ∧
  fT F0 G0 (mn R) (pr (psc (1 / ld R) U) (pq G0 (mn R))) (pq (psb (mn R) (cv (pr (psc (1 / ld R) U) (pq G0 (mn R))) F0)) G0):=by
 subst h0;obtain⟨⟨hR,hS,hU,hN⟩,hd,⟨V,W,hV,hW,e1,e2⟩,⟨cR,cS,cU,cN⟩,lR,lS,lG,hj⟩:=h;rcases hj with⟨rfl,rfl,rfl,e⟩ | ⟨hj,d1,d2,d3,d4⟩
 ·exact absurd e.symm hg
 have pR:=AY hR d4;have cR':CD 7310526 R:=cR.mono (by rw[←ZT];exact IX Sq Aa);have cU':CD 76218651 U:=cU.mono (by rw[←bG];exact IX SB Aa);have hD:=KW hR;have cD:CD 14621052 (mn R):=cR'.mn.mono Aa;have hI:Ld F0 G0 (mn R):=(Ld.zero hR).of hd;have hD0:=bX hR d4;have lD:=Qt hR;obtain⟨A,hA,eA⟩:=hI.2.2.1;obtain⟨Q,hQ,eQ⟩:=hI.2.2.2.1;have hper:pq G0 (mn R)=Q:=by
  have:=(ME hQ hD hD0).1;rw[←eQ]at this;exact this
 have hQ0:Q≠pz:=fun e=>hg (by rw[eQ,e,Cy]);have lQ:pl G0=pl Q+pl (mn R) - 1:=by rw[eQ];exact Gv hQ hD hQ0 hD0
 have pQ:=AY hQ hQ0;have cQ:CD 1052715993 Q:=by
  rw[←hper];exact(CD.pq (n:=8) ((AJ hG).mono Aa) hD hD0 cG cD).mono Aa
 have c1:qsz (1 / ld R)≤7310526:=by
  have e:1 / ld R=(ld R)⁻¹ := by rw[Rat.div_def,Rat.one_mul]
  rw[e];exact Nat.le_trans (Oy _) (cR'.elem _)
 have cU1:CD 83529177 (psc (1 / ld R) U):=(cU'.psc _).mono Aa;have hU1:Af (psc (1 / ld R) U):=hU.psc _;have lU1:pl (psc (1 / ld R) U)≤7:=Nat.le_trans (BB ((AJ hU).psc _)) Aa;rw[hper];obtain⟨U1,hU1e⟩:∃ U1,U1=psc (1 / ld R) U:=⟨_,rfl⟩
 rw[←hU1e]at cU1 hU1 lU1 ⊢;have hU2:=Ex hU1 hQ;have cU2:CD 8505257129 (pr U1 Q):=(CD.pr (n:=8) ((AJ hU1).mono Aa) hQ hQ0 cU1 cQ).mono Aa;have sU2:=DJ hU1 hQ hQ0;have lU2:=BB sU2;have cX:CD 8519878205 (psb (mn R) (cv (pr U1 Q) F0)):=(cD.psb (CD.cv sU2 Aa cU2 cF)).mono Aa;have hX:Af (psb (mn R) (cv (pr U1 Q) F0)):=hD.psb (hU2.cv hF);have lX:pl (psb (mn R) (cv (pr U1 Q) F0))≤14:=BB (((AJ hD).mono Aa).psb (((AJ hU2).cv (AJ hF)).mono Aa))
 have key:psb (mn R) (cv (pr U1 Q) F0)=cv (pad (psc (1 / ld R) V) (cv (pq U1 Q) A)) G0:=by
  have k1:cv (pr U1 Q) F0=psb (cv U1 F0) (cv (cv (pq U1 Q) Q) F0):=by
   unfold pr;rw[Fp]
  have k2:cv (cv (pq U1 Q) Q) F0=cv (cv (pq U1 Q) A) G0:=by
   rw[Av,Av];congr 1
   conv=>lhs;rw[eA]
   conv=>rhs;rw[eQ]
   rw[←Av,←Av,Bl Q A]
  have k3:mn R=pad (cv U1 F0) (cv (psc (1 / ld R) V) G0):=by
   rw[hU1e,CP,CP];show psc (1 / ld R) R=_
   conv=>lhs;rw[←e1]
   funext n;simp only[pad,psc];grind
  rw[k1,k2,D5]
  conv=>lhs;rw[k3]
  funext n;simp only[pad,psb];grind
 have hB:Af (pad (psc (1 / ld R) V) (cv (pq U1 Q) A)):=(hV.psc _).pad ((Dl _ _).cv hA);have hV2:pq (psb (mn R) (cv (pr U1 Q) F0)) G0=pad (psc (1 / ld R) V) (cv (pq U1 Q) A):=by
  rw[key];exact(ME hB hG hg).1
 refine⟨d4,cR',cD,cU',cU1,Aa,pR,lR,hQ0,cQ,Aa,cU2,Aa,cX,lX,fun i=>?_,hI,hU2,Dl _ _,?_,sU2.mono Aa⟩
 ·have:=MX (n:=15) ((AJ hX).mono Aa) hG hg cX cG i
  omega
 ·rw[hV2,←key]
  funext n;simp only[pad,psb];grind
end Go.Hp
namespace Go.Hp
open Go.RowKit
end Go.Hp
namespace Go.Proofs.YtmhgnigpmompmaaGreat
open Go.RowKit Go.Hp
theorem YE(v:Value)(l:List Rat)(w:World)(hv:Kz 0 w v l)(hn:l.length≤1099511627776):Calls Tryz.prog 130 #[v] w (Ad w fun r w'=>Bw w' r (ld (co l))):=by
 have HV:=Lib.hid hv;obtain⟨A,c,rfl⟩:=hv.len;have hple:=BB (Fh l);have H:=Lib.hid (show ∀ w1,Ext w w1→Calls Tryz.prog 165 #[.slice A l.length c,.int .i64 ((pl (co l):Int) - 1)] w1 (Ad w1 fun r w'=>Bw w' r (ld (co l))) by
  intro w1 e;by_cases h0:pl (co l)=0
  ·have:co l=pz:=(BF (Af.co l)).1 h0
   have e2:ld (co l)=0:=by rw[this];rfl
   rw[h0,e2];exact bJ _ l w1 (HV.out.ext e)
  ·have e2:((pl (co l):Int) - 1)=((pl (co l) - 1:Nat):Int):=by omega
   rw[e2];exact dZ _ l (pl (co l) - 1) w1 (HV.out.ext e) Aa)
 clear hv
 go_enter Tryz.func130,Tryz.ntmps130
 go_wp2_with fail
 refine Calls.mono (Vk _ l _ (HV.out.ext ((Ext.refl w).alloc _)) hn) ?_;rintro e w1 ⟨r,rfl,rfl,hx1⟩
 go_wp2_with fail
 refine Calls.mono (H.out _ hx1.a1) ?_;rintro e w2 ⟨r,rfl,hr,hx2⟩;replace hx1:=hx1.trans hx2;clear hx2;obtain⟨b5,A5,n5,c5,b6,A6,n6,c6,rfl⟩:=hr.cells;have hc1:=hx1.cells;have hf1:=hx1.frozens;have Hfin:=Lib.hid (Cs hr hx1.a1 (AL.at_ hx1 (g:=w.heap.size+0) Ac (by simp[Ag])) Aa);clear hr;go_wp2;refine bodyPost_ret (v := .agg #[.bool b5,.slice A5 n5 c5,.bool b6,.slice A6 n6 c6]) (by simp[results,Tryz.results130,go_sem,hc1]) rfl ?_
 exact Hfin.out
/-! ### over polynomials -/
theorem Un(v u:Value)(F G:Nat→Rat)(s t:Nat)(w:World)(hv:CQ 0 w v F)(hu:CQ 0 w u G)(h0:G≠pz)(hF:CD s F)(hG:CD t G)(hn:pl F≤274877906944)(hm:pl G≤274877906944)(hK:s+(pl F+2)*(t+1)+2*t+2≤274877906944) :
  Calls Tryz.prog 70 #[v,u] w (Ad w fun r w'=>∃ a b,r = .tuple #[a,b]∧CQ w.heap.size w' a (pq F G)∧CQ w.heap.size w' b (pr F G)):=by
 obtain⟨l,h1,h2,h3,rfl⟩:=hv.hs (fun i=>by have:=hF.elem i;have h:0 < (pl F+2)*(t+1):=Nat.mul_pos Aa Aa;omega);obtain⟨m,k1,k2,k3,rfl⟩:=hu.hs (fun i=>by have:=hG.elem i;omega);exact V9 v u l m s t w h1 k1 h0 hF hG Aa Aa hK
theorem JV(v:Value)(l:List Rat)(w:World)(hv:Kz 0 w v l)(hn:l.length≤1099511627776):Calls Tryz.prog 156 #[v] w (Ad w fun r w'=>CQ w.heap.size w' r (co l)):=
 Ad.imp (Ux v l w hv hn) fun _ _ h=>CQ.of_trim h rfl
set_option maxHeartbeats 1000000 in
theorem WB(v u:Value)(l m:List Rat)(s t:Nat)(w:World)(hv:Kz 0 w v l)(hu:Kz 0 w u m)(h0:co m≠pz)(hF:CD s (co l))(hG:CD t (co m))(hn:l.length≤274877906944)(hm:m.length≤274877906944)(hK:s+(pl (co l)+2)*(t+1)+2*t+2≤274877906944) :
  Calls Tryz.prog 114 #[v,u] w (Ad w fun r w'=>∃ a b,r = .tuple #[a,b,.int .i64 0]∧CQ w.heap.size w' a (pq (co l) (co m))∧CQ w.heap.size w' b (pr (co l) (co m))):=by
 have HV:=Lib.hid hv;have HU:=Lib.hid hu;obtain⟨A,c,rfl⟩:=hv.len;obtain⟨E,d,rfl⟩:=hu.len;clear hv hu;have hp0:=BB (Fh l);have HX:=Lib.hid (And.intro h0 (And.intro hF (And.intro hG (And.intro hK (AY (Af.co m) h0)))));clear h0 hF hG hK
 go_enter Tryz.func114,Tryz.ntmps114
 go_wp2_with fail
 refine Calls.mono (JV _ m _ HU.out Aa) ?_;rintro e w1 ⟨r1,rfl,hr1,hx1⟩;have Hr1:=Lib.hid hr1;obtain⟨A1,c1,l1,rfl,k1,k2,-⟩:=hr1.form;have b0:((pl (co m):Int)==0)=false:=by have:=HX.out.2.2.2.2;simp;omega
 clear hr1
 go_wp2_with fail
 refine Calls.mono (JV _ l _ (HV.out.ext hx1) Aa) ?_;rintro e w2 ⟨r2,rfl,hr2,hx2⟩;have Hr2:=Lib.hid hr2;clear hr2
 go_wp2_with fail
 refine Calls.mono (XR _ _ (co l) (co m) s t _ (Hr2.out.base_le (Nat.zero_le _)) ((Hr1.out.ext hx2).base_le (Nat.zero_le _)) HX.out.1 HX.out.2.1 HX.out.2.2.1 Aa HX.out.2.2.2.1) ?_;rintro e w3 ⟨r3,rfl,⟨a,b,rfl,ha,hb⟩,hx3⟩;have Hab:=Lib.hid (And.intro ha hb);clear ha hb;have s1:=hx1.size;have s2:=hx2.size;go_wp2
 go_ret3
 exact Ad.mk ⟨_,_,rfl,Hab.out.1.base_le Aa,Hab.out.2.base_le Aa⟩ ((hx1.trans hx2).trans hx3)
end Go.Proofs.YtmhgnigpmompmaaGreat
namespace Go.Hp
open Go.RowKit
theorem DX.at_{base n c:Nat}{e:TypeId}{w:World}{A:Option Addr}{l:List Rat}(h:DX base e w (.slice A n c) l){j:Nat}(hj:j < l.length) :
  ∃ g o b A1 n c b' A1' n' c',A=some ⟨g,o,none⟩∧base≤g∧w.cell? ⟨g,o+j*4,none⟩=some (.bool b)∧w.cell? ⟨g,o+j*4+1,none⟩=some (.slice A1 n c)∧w.cell? ⟨g,o+j*4+2,none⟩=some (.bool b')∧w.cell? ⟨g,o+j*4+3,none⟩=some (.slice A1' n' c')∧Bw w (.agg #[.bool b,.slice A1 n c,.bool b',.slice A1' n' c']) l[j]:=by
 obtain⟨A',c',e1,h2,h3,h4⟩:=DX.row h;cases e1;exact KH.at_ h4 hj
theorem DX.shape{base:Nat}{e:TypeId}{w:World}{v:Value}{l:List Rat}(h:DX base e w v l):∃ A c,v = .slice A l.length c∧l.length≤c∧c≤9223372036854775807:=by
 obtain⟨A',c',e1,h2,h3,h4⟩:=DX.row h;exact⟨A',c',e1,h2,h3⟩
end Go.Hp
namespace Go.Proofs.YtmhgnigpmompmaaGreat
open Go.RowKit Go.Hp
end Go.Proofs.YtmhgnigpmompmaaGreat
namespace Go.Hp
open Go.RowKit
theorem CQ.upd{base:Nat}{G:List Nat}{w w':World}{v:Value}{F:Nat→Rat}(h:CQ base w v F)(U:Ch G w w')(hG:∀ g∈G,g < base):CQ base w' v F:=by
 obtain⟨l,h1,h2,h3⟩:=h;exact⟨l,Cz.upd h1 U hG fun _ _ q=>q.kd U.kd,h2,h3⟩
end Go.Hp
namespace Go.Proofs.YtmhgnigpmompmaaGreat
open Go.RowKit Go.Hp
end Go.Proofs.YtmhgnigpmompmaaGreat
namespace Go.Hp
open Go.RowKit
end Go.Hp
namespace Go.Proofs.YtmhgnigpmompmaaGreat
open Go.RowKit Go.Hp
end Go.Proofs.YtmhgnigpmompmaaGreat
namespace Go.Hp
open Go.RowKit
theorem PR.own{w:World}{v:Value}{base:Nat}{q:Rat}{t:TypeId}(h:PR w v base q t):DX base t w v [q]:=by
 obtain⟨g,cs,rfl,h1,h2,h3,h4⟩:=h;refine⟨[cs],rfl,fun c hc=>by simp at hc;subst hc;exact h3,⟨by simp[h3],.inr ⟨g,1,cs,rfl,h1,h2,Ac,by simp[maxLen],by simp[h3],?_⟩⟩,fun j h h'=>?_⟩
 ·simp only[List.flatMap_cons,List.flatMap_nil,List.append_nil]
  exact List.take_of_length_le (by simp[h3])
 ·have:j=0:=by simp at h;omega
  subst this;exact h4
end Go.Hp
namespace Go.Proofs.YtmhgnigpmompmaaGreat
open Go.RowKit Go.Hp
end Go.Proofs.YtmhgnigpmompmaaGreat
namespace Go.Hp
open Go.RowKit
theorem AC.of_one{w:World}{A:Option Addr}{c N:Nat}{b:Bool}{n:Int}(h:Bu w (.slice A 1 c) [N])(h0:N≠0)(hn:n=if b then -(N:Int)else N):AC w (.agg #[.bool b,.slice A 1 c]) n:=by
 refine⟨b,[N],⟨_,rfl,h⟩,?_,fun _=>by simpa using h0,fun _=>Ac⟩;rw[hn];unfold iv;simp[nv]
theorem AC.of_nil{w:World}:AC w (.agg #[.bool false,.slice none 0 0]) 0:=AC.zero w
end Go.Hp
namespace Go.Proofs.YtmhgnigpmompmaaGreat
open Go.RowKit Go.Hp
set_option maxHeartbeats 2000000 in
theorem gI(n:Int)(w:World)(h1 : -4294967296 < n)(h2:n < 4294967296):Calls Tryz.prog 58 #[.int .i64 n] w (Ad w fun r w'=>AC w' r n):=by
 go_enter Tryz.func58,Tryz.ntmps58
 by_cases hneg:n < 0
 ·have hb:decide (n < 0)=true:=by simpa using hneg
  have Hw:=Lib.hid (MR (x:=n) Aa hneg);obtain⟨N,hN⟩:∃ N,N=n.natAbs:=⟨_,rfl⟩
  have HN:=Lib.hid hN;have hNb:N < 4294967296:=by omega
  clear hN;go_wp2;obtain⟨W9,eW9,e9,x9⟩:=Be.made (w.alloc (.cells #[.bool false,.slice none 0 0] 26)) 26 #[.bool true,.slice none 0 0] (by simp[Ag]);rw[←eW9];clear eW9;rw[World.size_alloc]at e9
  go_loopw [3] (fun uv wx=>∃ m:Nat,uv = .int .u64 m∧m < 4294967296∧((m=N∧Be wx (w.heap.size+1) 26 #[.bool true,.slice none 0 0])∨(m=0∧N≠0∧∃ A c,Be wx (w.heap.size+1) 26 #[.bool true,.slice A 1 c]∧Bu wx (.slice A 1 c) [N]))∧Ext (w.alloc (.cells #[.bool false,.slice none 0 0] 26)) wx) (fun uv _=>(intOf uv).toNat)
  case atStart=>exact⟨N,by rw[Hw.out,HN.out],hNb,.inl ⟨rfl,e9⟩,x9⟩
  case round =>
   clear e9 x9;obtain⟨m,rfl,hm,hst,hx⟩:=hrel;by_cases h0:m=0
   ·have hr:∃ A k c,Be wr (w.heap.size+1) 26 #[.bool true,.slice A k c]∧AC wr (.agg #[.bool true,.slice A k c]) n:=by
     rcases hst with⟨e,hb⟩ | ⟨_,hne,A,c,hb,hd⟩
     ·exact⟨_,_,_,hb,by have h3:=HN.out;omega⟩
     ·exact⟨_,_,_,hb,AC.of_one hd hne (by have h3:=HN.out;(simp;omega))⟩
    obtain⟨A5,n5,c5,ez,hr⟩:=hr;have H0:=Lib.hid h0;clear h0;have Hr:=Lib.hid hr;clear hr hst;have hm0:¬ (0 < (m:Int)):=by have:=H0.out;omega
    obtain⟨cez0,cez1⟩:=ez.cells2;have fez:=ez.frozen;have hx1:=hx;clear hx;have hc1:=hx1.cells;have hf1:=hx1.frozens;have Hfin:=Lib.hid (BZ Hr.out hx1.a1 (AL.at_ hx1 (g:=w.heap.size+0) Ac (by simp[Ag])) Aa);go_wp2;refine bodyPost_ret (v := .agg #[.bool true,.slice A5 n5 c5]) (by simp[results,Tryz.results58,go_sem,hc1]) rfl ?_;exact Hfin.out
   ·obtain⟨rfl,ez⟩:m=N∧Be wr (w.heap.size+1) 26 #[.bool true,.slice none 0 0]:=by
     rcases hst with⟨e,hb⟩ | ⟨e,_⟩
     ·exact⟨e,hb⟩
     ·exact absurd e h0
    have hm0:0 < m:=by omega
    have hsz:w.heap.size≤wr.heap.size:=hx.a1.size;clear hst;obtain⟨cez0,cez1⟩:=ez.cells2;have fez:=ez.frozen
    go_wp2_with (at_builtin;refine AB rfl _ _ 24 rfl (.slice none 0 0) (.slice (some ⟨wr.heap.size,0,none⟩) 1 1) rfl rfl (D8 wr w.heap.size _ _ [] m _ _ (Fq.nil _ _) (by first | rfl | omega) Ac hsz rfl) ?_)
    rintro v' w5 hown hg;have xa:Ext wr w5:=((Ext.refl wr).alloc _).grown hg (fun k hk=>by simp[Value.ownBlock]at hk);have hd:=hown.digv (AU.cons hm AU.nil);have hd2:=hd;obtain⟨A5,c5,rfl,-,-,-⟩:=hd2;clear hown hg;have ez5:=ez.ext xa;replace hx:=hx.trans xa;clear ez xa cez0 cez1 fez;obtain⟨cez50,cez51⟩:=ez5.cells2;have fez5:=ez5.frozen;have Hd:=Lib.hid hd;clear hd;have H0:=Lib.hid h0;clear h0;go_wp2
    have eb:=ez5.set_ 1 (u := .slice A5 1 c5) rfl;have U:=Ch.set_ ez5.nodig 1 (.slice A5 1 c5);replace hx:=U.from_ hx Ac;have Hdd:=Lib.hid (show Bu _ _ _ from Bu.kd Hd.out U.kd)
    go_roundw
    case rel=>exact⟨0,by go_num,Aa,.inr ⟨rfl,H0.out,A5,c5,eb,Hdd.out⟩,hx⟩
    case measure=>simp[intOf]<;>omega
 ·have hb:decide (n < 0)=false:=by simpa using hneg
  have Hw:=Lib.hid (Xl (x:=n) Aa Aa);obtain⟨N,hN⟩:∃ N,N=n.natAbs:=⟨_,rfl⟩
  have HN:=Lib.hid hN;have hNb:N < 4294967296:=by omega
  clear hN;go_wp2;obtain⟨W9,eW9,e9,x9⟩:=Be.made (w.alloc (.cells #[.bool false,.slice none 0 0] 26)) 26 #[.bool false,.slice none 0 0] (by simp[Ag]);rw[←eW9];clear eW9;rw[World.size_alloc]at e9
  go_loopw [3] (fun uv wx=>∃ m:Nat,uv = .int .u64 m∧m < 4294967296∧((m=N∧Be wx (w.heap.size+1) 26 #[.bool false,.slice none 0 0])∨(m=0∧N≠0∧∃ A c,Be wx (w.heap.size+1) 26 #[.bool false,.slice A 1 c]∧Bu wx (.slice A 1 c) [N]))∧Ext (w.alloc (.cells #[.bool false,.slice none 0 0] 26)) wx) (fun uv _=>(intOf uv).toNat)
  case atStart=>exact⟨N,by(congr 1;have h3:=HN.out;omega),hNb,.inl ⟨rfl,e9⟩,x9⟩
  case round =>
   clear e9 x9;obtain⟨m,rfl,hm,hst,hx⟩:=hrel;by_cases h0:m=0
   ·have hr:∃ A k c,Be wr (w.heap.size+1) 26 #[.bool false,.slice A k c]∧AC wr (.agg #[.bool false,.slice A k c]) n:=by
     rcases hst with⟨e,hb⟩ | ⟨_,hne,A,c,hb,hd⟩
     ·exact⟨_,_,_,hb,by have h3:=HN.out;(have e5:n=0:=by omega) ; rw[e5];exact AC.of_nil⟩
     ·exact⟨_,_,_,hb,AC.of_one hd hne (by have h3:=HN.out;(simp;omega))⟩
    obtain⟨A5,n5,c5,ez,hr⟩:=hr;have H0:=Lib.hid h0;clear h0;have Hr:=Lib.hid hr;clear hr hst;have hm0:¬ (0 < (m:Int)):=by have:=H0.out;omega
    obtain⟨cez0,cez1⟩:=ez.cells2;have fez:=ez.frozen;have hx1:=hx;clear hx;have hc1:=hx1.cells;have hf1:=hx1.frozens;have Hfin:=Lib.hid (BZ Hr.out hx1.a1 (AL.at_ hx1 (g:=w.heap.size+0) Ac (by simp[Ag])) Aa);go_wp2;refine bodyPost_ret (v := .agg #[.bool false,.slice A5 n5 c5]) (by simp[results,Tryz.results58,go_sem,hc1]) rfl ?_;exact Hfin.out
   ·obtain⟨rfl,ez⟩:m=N∧Be wr (w.heap.size+1) 26 #[.bool false,.slice none 0 0]:=by
     rcases hst with⟨e,hb⟩ | ⟨e,_⟩
     ·exact⟨e,hb⟩
     ·exact absurd e h0
    have hm0:0 < m:=by omega
    have hsz:w.heap.size≤wr.heap.size:=hx.a1.size;clear hst;obtain⟨cez0,cez1⟩:=ez.cells2;have fez:=ez.frozen
    go_wp2_with (at_builtin;refine AB rfl _ _ 24 rfl (.slice none 0 0) (.slice (some ⟨wr.heap.size,0,none⟩) 1 1) rfl rfl (D8 wr w.heap.size _ _ [] m _ _ (Fq.nil _ _) (by first | rfl | omega) Ac hsz rfl) ?_)
    rintro v' w5 hown hg;have xa:Ext wr w5:=((Ext.refl wr).alloc _).grown hg (fun k hk=>by simp[Value.ownBlock]at hk);have hd:=hown.digv (AU.cons hm AU.nil);have hd2:=hd;obtain⟨A5,c5,rfl,-,-,-⟩:=hd2;clear hown hg;have ez5:=ez.ext xa;replace hx:=hx.trans xa;clear ez xa cez0 cez1 fez;obtain⟨cez50,cez51⟩:=ez5.cells2;have fez5:=ez5.frozen;have Hd:=Lib.hid hd;clear hd;have H0:=Lib.hid h0;clear h0;go_wp2
    have eb:=ez5.set_ 1 (u := .slice A5 1 c5) rfl;have U:=Ch.set_ ez5.nodig 1 (.slice A5 1 c5);replace hx:=U.from_ hx Ac;have Hdd:=Lib.hid (show Bu _ _ _ from Bu.kd Hd.out U.kd)
    go_roundw
    case rel=>exact⟨0,by go_num,Aa,.inr ⟨rfl,H0.out,A5,c5,eb,Hdd.out⟩,hx⟩
    case measure=>simp[intOf]<;>omega
theorem gM(n:Int)(w:World)(h1 : -4294967296 < n)(h2:n < 4294967296):Calls Tryz.prog 38 #[.int .i64 n] w (Ad w fun r w'=>Bw w' r (n:Rat)):=by
 go_enter Tryz.func38,Tryz.ntmps38
 go_wp2_with fail
 refine Calls.mono (gI n _ h1 h2) ?_;rintro e w1 ⟨r,rfl,hn,hx1⟩
 go_wp2_with fail
 refine Calls.mono (gI 1 _ Aa Aa) ?_;rintro e w2 ⟨r,rfl,h1',hx2⟩;replace hn:=hn.ext hx2;replace hx1:=hx1.trans hx2;clear hx2;obtain⟨b5,A5,n5,c5,rfl⟩:=hn.cells;obtain⟨b6,A6,n6,c6,rfl⟩:=h1'.cells;have hr:=Bw.mk_ hn h1' (q:=(n:Rat)) rfl rfl;clear hn h1';have hc1:=hx1.cells;have hf1:=hx1.frozens;have Hfin:=Lib.hid (Cs hr hx1.a1 (AL.at_ hx1 (g:=w.heap.size+0) Ac (by simp[Ag])) Aa);clear hr;go_wp2;refine bodyPost_ret (v := .agg #[.bool b5,.slice A5 n5 c5,.bool b6,.slice A6 n6 c6]) (by simp[results,Tryz.results38,go_sem,hc1]) rfl ?_
 exact Hfin.out
end Go.Proofs.YtmhgnigpmompmaaGreat
namespace Go.Hp
open Go.RowKit
def Tk(w:World)(v:Value)(ns:List Int):Prop:=∃ g c,v = .slice (some ⟨g,0,none⟩) ns.length c∧ns.length≤c∧c≤9223372036854775807∧∀ j (h:j < ns.length),w.cell? ⟨g,j,none⟩=some (.int .i64 ns[j])
theorem Tk.new(w:World)(t:TypeId)(ns:List Int)(h:ns.length≤1000):Tk (w.alloc (.cells (ns.map fun n=>Value.int .i64 n).toArray t)) (.slice (some ⟨w.heap.size,0,none⟩) ns.length ns.length) ns:=
 ⟨_,_,rfl,Nat.le_refl _,Aa,fun j hj=>by
  rw[cell_of_row _ w.heap.size j _ t (0,0) (heap_alloc_new w _)];simp[hj]⟩
theorem OQ.at_{base n c:Nat}{w:World}{A:Option Addr}{l:List Rat}(h:OQ base w (.slice A n c) l){j:Nat}(hj:j < l.length) :
  ∃ g o b A1 n c b' A1' n' c',A=some ⟨g,o,none⟩∧base≤g∧w.cell? ⟨g,o+j*4,none⟩=some (.bool b)∧w.cell? ⟨g,o+j*4+1,none⟩=some (.slice A1 n c)∧w.cell? ⟨g,o+j*4+2,none⟩=some (.bool b')∧w.cell? ⟨g,o+j*4+3,none⟩=some (.slice A1' n' c')∧Bw w (.agg #[.bool b,.slice A1 n c,.bool b',.slice A1' n' c']) l[j]:=by
 obtain⟨A',c',e1,h2,h3,h4⟩:=h;have e5:A'=A:=by injection e1 with h1;exact h1.symm
 subst e5;exact KH.at_ h4 hj
end Go.Hp
namespace Go.Proofs.YtmhgnigpmompmaaGreat
open Go.RowKit Go.Hp
end Go.Proofs.YtmhgnigpmompmaaGreat
namespace Go.Hp
open Go.RowKit
theorem Wx{d:Nat}(h0:d≠0)(h1:d < 4294967296)(hb:d < 2^Lib.bitLen d)(hb2:2^Lib.bitLen d≤2*d):0 < Lib.bitLen d∧2^(Lib.bitLen d - 1)≤d:=by
 generalize Lib.bitLen d=b at *;rcases b with _ | b
 ·simp at hb;omega
 ·rw[Nat.pow_succ]at hb2
  exact⟨Aa,by rw[Nat.add_sub_cancel];omega⟩
theorem BL.uniq{n b c:Nat}(h:BL n b)(k:BL n c):b=c:=Nat.le_antisymm (h.le k.1) (k.le h.1)
theorem BL.sz{n b:Nat}(h:BL n b):b≤32*sz n:=h.le (by rw[←Cm];exact Cw n)
theorem PX{x y:Int}(h:x.sign=y.sign):x.sign*((x.natAbs:Int) - y.natAbs).sign=(x - y).sign:=by
 rcases Int.lt_trichotomy x 0 with h1 | h1 | h1
 ·rw[Int.sign_eq_neg_one_of_neg h1]at h ⊢
  have h2:y < 0:=by
   rcases Int.lt_trichotomy y 0 with k | k | k
   ·exact k
   ·rw[k]at h;cases h
   ·rw[Int.sign_eq_one_of_pos k]at h;cases h
  rw[show(x.natAbs:Int) - y.natAbs = -(x - y) by omega,Int.sign_neg];omega
 ·subst h1
  have:y=0:=by
   rcases Int.lt_trichotomy y 0 with k | k | k
   ·rw[Int.sign_eq_neg_one_of_neg k]at h;cases h
   ·exact k
   ·rw[Int.sign_eq_one_of_pos k]at h;cases h
  subst this;rfl
 ·rw[Int.sign_eq_one_of_pos h1]at h ⊢
  have h2:0 < y:=by
   rcases Int.lt_trichotomy y 0 with k | k | k
   ·rw[Int.sign_eq_neg_one_of_neg k]at h;cases h
   ·rw[k]at h;cases h
   ·exact k
  rw[show(x.natAbs:Int) - y.natAbs=x - y by omega];omega
theorem Rt{x y:Int}(h:x.sign≠y.sign):(x.sign - y.sign).sign=(x - y).sign:=by
 rcases Int.lt_trichotomy x 0 with h1 | h1 | h1<;>rcases Int.lt_trichotomy y 0 with h2 | h2 | h2
 all_goals first
  | (rw[Int.sign_eq_neg_one_of_neg h1,Int.sign_eq_neg_one_of_neg h2]at h;exact absurd rfl h)
  | (rw[Int.sign_eq_one_of_pos h1,Int.sign_eq_one_of_pos h2]at h;exact absurd rfl h)
  | (subst h1;subst h2;exact absurd rfl h)
  | (rw[Int.sign_eq_neg_one_of_neg h1,Int.sign_eq_one_of_pos h2,Int.sign_eq_neg_one_of_neg (show x - y < 0 by omega)];rfl)
  | (rw[Int.sign_eq_one_of_pos h1,Int.sign_eq_neg_one_of_neg h2,Int.sign_eq_one_of_pos (show 0 < x - y by omega)];rfl)
  | (subst h1;simp[Int.sign_neg])
  | (subst h2;simp)
theorem Jt(x:Int) : -1≤x.sign∧x.sign≤1:=by
 rcases Int.lt_trichotomy x 0 with h | h | h
 ·rw[Int.sign_eq_neg_one_of_neg h];omega
 ·subst h;simp
 ·rw[Int.sign_eq_one_of_pos h];omega
end Go.Hp
namespace Go.Proofs.YtmhgnigpmompmaaGreat
open Go.RowKit Go.Hp
set_option maxHeartbeats 1000000 in
theorem Sw(v:Value)(x:Int)(w:World)(hv:Bj w v x):Calls Tryz.prog 174 #[v] w (Ad w fun r _=>∃ b:Nat,r = .int .i64 b∧BL x.natAbs b):=by
 obtain⟨neg,A,n,c,N,rfl,h1,h2,h3,hN,hx⟩:=hv.form;have HN:=Lib.hid hN;clear hN hv;have Hx:=Lib.hid (show x.natAbs=N by rw[hx];cases neg<;>simp);clear hx
 go_enter Tryz.func174,Tryz.ntmps174
 go_wp2_with fail
 refine Calls.mono (Bz _ N n _ (HN.out.ext ((Ext.refl w).alloc _))) ?_;rintro e w1 ⟨r,rfl,hr,hx1⟩;obtain⟨ds,hd,hnv,ht,hl⟩:=hr.len;obtain⟨E,p1,rfl,hl1,hc1,hE⟩:=hd;have HX:=Lib.hid (show x.natAbs=nv ds by rw[Hx.out,←hnv]);have hx:=hx1.a1;have hm:ds.length≤1099511627776:=by rw[hl];exact Nat.le_trans HN.out.sz h3
 clear hx1 hr hl HN Hx hnv h1 h2 h3;rcases Nat.eq_zero_or_pos ds.length with h0 | h0
 ·have hb:(((ds.length:Nat):Int)==0)=true:=by rw[h0];rfl
  have:ds=[]:=List.eq_nil_of_length_eq_zero h0;clear h0;have Hd:=Lib.hid this;clear this;go_wp2
  go_ret
  exact Ad.mk ⟨0,rfl,by rw[HX.out,Hd.out];exact BL.zero⟩ hx
 ·have hb:(((ds.length:Nat):Int)==0)=false:=beq_eq_false_iff_ne.2 Aa
  obtain⟨a,ha,hca⟩:=BG hE (k:=ds.length - 1) Aa;have x1:=AR hE.1 (ds.length - 1);have hd0:dg ds (ds.length - 1)≠0:=by
   rw[Da Aa];have:=ht (List.ne_nil_of_length_pos h0);rwa[List.getLast_eq_getElem]at this
  obtain⟨d,hdd⟩:∃ d,d=dg ds (ds.length - 1):=⟨_,rfl⟩
  rw[←hdd]at hca x1 hd0;obtain⟨q1,q2⟩:=G5 d d (Nat.le_refl _) Aa;have q3:=Wx hd0 x1 q1 (q2 hd0);have Hd:=Lib.hid (And.intro hdd (And.intro ht (And.intro q1 q3)));clear hdd ht q1 q2 q3;have hbl:=Lib.bitLen_le d 32 Ab Aa;obtain⟨m,hmm⟩:∃ m,ds.length=m+1:=⟨ds.length - 1,Aa⟩
  rw[hmm]at hca hb hl1 hm ⊢;clear h0;have Hm:=Lib.hid hmm;clear hmm;subst ha;rw[Nat.add_sub_cancel]at hca;clear hd0
  go_wp2_with (go_at_call 188;refine(NR _ _ Aa Aa).mono ?_;rintro e w' ⟨rfl,rfl⟩;rw[Int.toNat_natCast])
  go_ret
  refine Ad.mk ⟨32*m+Lib.bitLen d,by congr 1,?_⟩ hx;have:=BL.top (ds:=ds) (j:=Lib.bitLen d) hE.1 (by have:=Hm.out;omega) (by rw[←Hd.out.1];exact Hd.out.2.2.1) Hd.out.2.2.2.1 (by rw[←Hd.out.1];exact Hd.out.2.2.2.2);rw[Hm.out,Nat.add_sub_cancel]at this;rw[HX.out];exact this
set_option maxHeartbeats 1000000 in
theorem ZE(v u:Value)(x y:Int)(w:World)(hv:Bj w v x)(hu:Bj w u y):Calls Tryz.prog 189 #[v,u] w (Ad w fun r _=>r = .int .i64 (x - y).sign):=by
 have HV:=Lib.hid hv;have HU:=Lib.hid hu;obtain⟨neg,A,n,c,N,rfl,h1,h2,h3,hN,hx⟩:=hv.form;obtain⟨neg',A',n',c',M,rfl,k1,k2,k3,kN,hy⟩:=hu.form;have HN:=Lib.hid hN;have HM:=Lib.hid kN;clear hN hv hu kN;have Hx:=Lib.hid (show x.natAbs=N∧y.natAbs=M by rw[hx,hy];cases neg<;>cases neg'<;>simp);clear hx hy;have r1:=Jt x;have r2:=Jt y
 go_enter Tryz.func189,Tryz.ntmps189
 go_wp2;refine Ae 4 [7,8,9,10] [[],[0],[],[0,1,2],[0,1,2,3],[0,1,2,3,4]] [2,3] [_,_] [(kv ?_),(kv (.int .i64 x.sign)),(kv ?_),(kv (.int .i64 y.sign))] (fun γ w'=>[True,True,True,True]) Bd Ah Ah Bb Ah Bc Bg ?hstep1 ?_
 case hstep1 =>
  iterate 4 refine⟨?_,?_⟩
  trivial
  iterate 1 focus
   intro γ w' he hf;clear hf;refine⟨by trivial,?_⟩;intro R hR;have hc:=he.cells;go_simp;refine hR _ _ (Ext.refl _) ?_ trivial;rfl
  ·intro γ w' he hf;clear hf;refine⟨trivial,?_⟩;intro R hR
   go_simp;exact Q8 (Iy _ x w' (HV.out.ext he.a2)) hR
  iterate 1 focus
   intro γ w' he hf;clear hf;refine⟨by trivial,?_⟩;intro R hR;have hc:=he.cells;go_simp;refine hR _ _ (Ext.refl _) ?_ trivial;rfl
  ·intro γ w' he hf;clear hf;refine⟨trivial,?_⟩;intro R hR
   go_simp;exact Q8 (Iy _ y w' (HU.out.ext he.a2)) hR
 intro γ w1 hx1 hF;clear hF;simp only[AZ,Nat.reduceAdd];clear γ;by_cases hs:x.sign=y.sign
 ·have hb:(x.sign != y.sign)=false:=by simp[hs]
  have Hs:=Lib.hid (PX hs);clear hs;have ea:=((Be.new w 26 #[.bool neg,.slice A n c] (by simp[Ag])).alloc (.cells #[.bool neg',.slice A' n' c'] 26)).ext hx1;have eb:=(Be.new (w.alloc (.cells #[.bool neg,.slice A n c] 26)) 26 #[.bool neg',.slice A' n' c'] (by simp[Ag])).ext hx1;rw[World.size_alloc]at eb;obtain⟨cea0,cea1⟩:=ea.cells2;have fea:=ea.frozen;obtain⟨ceb0,ceb1⟩:=eb.cells2;have feb:=eb.frozen
  go_wp2_with fail
  refine Ae 8 [18,19,20,21,22,23,24,25] [[],[],[1],[1,2],[],[4],[1,2,3,4,5],[1,2,3,4,5,6],[0,1,2,3,4,5,6,7],[0,1,2,3,4,5,6,7,8]] [5,2,3] [_,_,_] [(kv ?_),(kv ?_),(kv ?_),(fun γ=>γ 3),(kv ?_),(kv ?_),(fun γ=>γ 6),(kv (.int .i64 (cmp N M)))] (fun γ w'=>[True,True,True,Bn w' (γ 3) N,True,True,Bn w' (γ 6) M,True]) Bd Ah Ah Bb Ah Bc Bg ?hstep2 ?_
  case hstep2 =>
   iterate 8 refine⟨?_,?_⟩
   trivial
   iterate 3 focus
    intro γ w' he hf;clear hf;refine⟨by trivial,?_⟩;intro R hR;have hc:=he.cells;have cq0:=he.cell cea0;have cq1:=he.cell cea1;have cq2:=he.cell ceb0;have cq3:=he.cell ceb1;go_simp;refine hR _ _ (Ext.refl _) ?_ trivial;rfl
   ·intro γ w' he hf;clear hf;refine⟨trivial,?_⟩;intro R hR
    go_simp;exact AX (Bz _ N n w' (HN.out.ext (hx1.a2.trans he))) hR
   iterate 2 focus
    intro γ w' he hf;clear hf;refine⟨by trivial,?_⟩;intro R hR;have hc:=he.cells;have cq0:=he.cell cea0;have cq1:=he.cell cea1;have cq2:=he.cell ceb0;have cq3:=he.cell ceb1;go_simp;refine hR _ _ (Ext.refl _) ?_ trivial;rfl
   ·intro γ w' he hf;clear hf;refine⟨trivial,?_⟩;intro R hR
    go_simp;exact AX (Bz _ M n' w' (HM.out.ext (hx1.a2.trans he))) hR
   ·intro γ w' he hf;have f3:Bn w' (γ 3) N:=hf 3 Ab;have f6:Bn w' (γ 6) M:=hf 6 Ab;clear hf;refine⟨trivial,?_⟩;intro R hR
    go_simp;exact Q8 (Lj _ _ N M w' f3 f6 (Nat.le_trans HN.out.sz Aa) (Nat.le_trans HM.out.sz Aa)) hR
  intro γ w2 hx2 hF;have p3:Bn w2 (γ 3) N:=Au.get hF 3 Ab;have p6:Bn w2 (γ 6) M:=Au.get hF 6 Ab;clear hF;simp only[AZ,Nat.reduceAdd];generalize γ 3=g3 at *;generalize γ 6=g6 at *;clear γ;have:=Hs.out;rw[Hx.out.1,Hx.out.2]at this;go_wp2
  go_ret
  have hr:=Jt (x - y);have hw:wrap64 (x.sign*cmp N M)=(x - y).sign:=by
   rw[show x.sign*cmp N M=(x - y).sign from this];exact IntWalk.wrap64_in _ ⟨Aa,Aa⟩
  exact Ad.mk (by show Value.int .i64 (wrap64 (x.sign*cmp N M))=_;rw[hw]) (hx1.a2.trans hx2)
 ·have hb:(x.sign != y.sign)=true:=by simp[hs]
  have Hs:=Lib.hid (Rt hs);clear hs
  go_wp2_with fail
  refine Calls.mono (Q9 _ _ Aa Aa) ?_;rintro e w' ⟨rfl,rfl⟩;go_wp2
  go_ret
  exact Ad.mk (by rw[Hs.out];rfl) hx1.a2
set_option maxRecDepth 100000 in
theorem UF(x:Int)(w:World)(h0:0≤x)(h1:x < 65536) :
  Calls Tryz.prog 194 #[.int .u64 x] w fun e w'=>e = .returned (.int .i64 (Lib.bitLen x.toNat))∧w'=w:=by
 have ts:=Tryz.underlying9;by_cases c2:x < 256
 ·have c3:x≤255:=by omega
  go_enter Tryz.func194,Tryz.ntmps194
  go_wp2
  go_ret
  refine⟨El ?_,rfl⟩;have e:=Eb x h0 c3;show wrap64 (wrap64 (Lib.len8 x))=_;rw[e];have:=Lib.bitLen_le8' x h0 c3;exact IntWalk.wrap64_in _ ⟨Aa,Aa⟩
 ·have c3:x / 256≤255:=by omega
  have c4:0≤x / 256:=by omega
  go_enter Tryz.func194,Tryz.ntmps194
  go_wp2
  go_ret
  refine⟨El ?_,rfl⟩;show wrap64 (8+wrap64 (Lib.len8 (x / 256)))=_;have l:=Lib.bitLen_le8' (x / 256) c4 c3;have s:=Lib.bitLen_shift8 x.toNat Aa Aa;rw[Eb _ c4 c3,IntWalk.wrap64_in _ ⟨Aa,Aa⟩,s,show(x / 256).toNat=x.toNat / 256 from by omega];omega
theorem V7(x:Nat)(w:World)(h:x < 65536) :
  Calls Tryz.prog 190 #[.int .u64 (x:Nat)] w fun e w'=>e = .returned (.int .i64 (Lib.bitLen x:Nat))∧w'=w:=by
 have hb:=Lib.bitLen_le x 16 Ab Aa
 go_enter Tryz.func190,Tryz.ntmps190
 go_wp2_with (go_at_call 194;refine(UF _ _ Aa Aa).mono ?_;rintro e w' ⟨rfl,rfl⟩;rw[Int.toNat_natCast])
 go_ret
 exact⟨rfl,rfl⟩
end Go.Proofs.YtmhgnigpmompmaaGreat
namespace Go.Hp
open Go.RowKit
theorem Ll.trim{base:Nat}{w:World}{A:Option Addr}{l:List Int}(h:Lu base w A l){c:Nat}(hl:l.length≤c)(hc:c≤9223372036854775807:=by omega):Ll base w (.slice A (BK (zq l)).length c) (QG l):=by
 refine⟨A,c,by rw[O1],by rw[O1];have:=WN l;omega,hc,Dq.take h _⟩
theorem GH{l:List Int}{m:Nat}(hm:m≤l.length)(hz:∀ j,m≤j→(h:j < l.length)→l[j]=0)(hlast:∀ h:m - 1 < l.length,0 < m→l[m - 1]≠0):(BK (zq l)).length=m:=by
 have:=Fv (l:=zq l) (m:=m) (by rw[DC];exact hm) (fun j h1 h2=>by rw[DC]at h2;rw[Ju h2,hz j h1 h2];rfl) (fun h h0=>by
  rw[DC]at h;rw[Ju h];intro e;exact hlast h h0 (by exact_mod_cast e))
 rw[this,List.length_take,DC];omega
theorem Cj.isZP{base:Nat}{w:World}{g:Nat}{t:TypeId}{l:List Int}{F:Nat→Rat}(h:Cj w g t l)(hF:cz l=F)(hb:base≤g){c:Nat}(hc:l.length≤c)(hm:c≤9223372036854775807):AQ base w (.slice (some ⟨g,0,none⟩) (BK (zq l)).length c) F:=
 AQ.of_trim (Ll.trim (h.row hb) hc hm) hF
theorem Gp(l:List Int):(BK (zq l)).length=pl (cz l):=by unfold cz;rw[←(Fb (zq l)).pl,Gi]
end Go.Hp
namespace Go.Proofs.YtmhgnigpmompmaaGreat
open Go.RowKit Go.Hp
set_option maxHeartbeats 400000 in
/-- zpoly.trimmed: without the zeros at the end,in place. -/
theorem DY(base:Nat)(A:Option Addr)(c:Nat)(l:List Int)(w:World)(hl:l.length≤c)(hc:c≤9223372036854775807)(hA:Lu base w A l) :
  Calls Tryz.prog 119 #[.slice A l.length c] w fun e w'=>e = .returned (.slice A (BK (zq l)).length c)∧w=w':=by
 go_enter Tryz.func119,Tryz.ntmps119
 go_wp2
 go_loop [0] (fun v=>∃ m:Nat,m≤l.length∧v = .slice A m c∧∀ j,m≤j→(h:j < l.length)→l[j]=0) (fun v=>match v with | .slice _ m _=>m | _=>0)
 case atStart=>exact⟨l.length,Nat.le_refl _,rfl,fun j h1 h2=>Aa⟩
 case round =>
  obtain⟨m,hm,rfl,hz⟩:=hrel;by_cases h0:0 < m
  ·obtain⟨m,rfl⟩:∃ k,m=k+1:=⟨m - 1,Aa⟩
   obtain⟨g,o,b,A1,n,c1,rfl,hb,q0,q1,hq⟩:=hA.at_ (j:=m) Aa;have hn:=hq.two.1;by_cases hd0:l[m]'(Aa)=0
   ·have hb:(((n:Nat):Int)==0)=true:=by rw[hn,hd0];rfl
    clear hA hn;go_wp2
    go_round
    case rel=>exact⟨m,Aa,rfl,fun j h1 h2=>by
     rcases Nat.eq_or_lt_of_le h1 with e | e
     ·subst e;exact hd0
     ·exact hz j Aa h2⟩
    case measure=>simp
   ·have hb:(((n:Nat):Int)==0)=false:=by
     have:=DL (n:=l[m].natAbs) Aa;rw[←hn]at this;simp;omega
    clear hA hn;go_wp2
    go_ret
    have hlen:=GH hm hz (fun h _=>by simpa using hd0);exact⟨by rw[hlen];rfl,rfl⟩
  ·obtain rfl:m=0:=by omega
   go_wp2
   go_ret
   have hlen:=GH hm hz (fun h hh=>Aa);exact⟨by rw[hlen];rfl,rfl⟩
theorem IB:(Tryz.prog.info? 26).map (fun i=>(i.zero,i.size,i.bytes))=some (some (.agg #[.bool false,.slice none 0 0]),2,32):=by kernel_rfl
theorem IQ(n:Nat)(x:Int)(hx:x=n)(hn:n≤1099511627776)(w:World):∃ W,(Instr.makeSlice 23 (.int .i64 x) (.int .i64 x)).run Tryz.prog w = .ok (.slice (some ⟨w.heap.size,0,none⟩) n n) W∧Cj W w.heap.size 26 (List.replicate n 0)∧Ext w W:=by
 subst hx;obtain⟨i0,hi,hz0,hz1,hz2⟩:=info_parts IB;have h:=run_make (P:=Tryz.prog) w 23 26 i0 (.agg #[.bool false,.slice none 0 0]) Tryz.underlying23 hi hz0 .i64 .i64 (n:Int) (n:Int) Aa Aa (by rw[hz2];omega) Aa;rw[h,hz1,Int.toNat_natCast];exact⟨_,rfl,Cj.new w _ n,(Ext.refl w).alloc _⟩
theorem VY{la m:List Int}{k n:Nat}(h:la=m.take k ++ List.replicate (n - k) 0)(hk:k < n)(hm:m.length=n){q:Int}(hq:q=m[k]'(by omega)):la.set k q=m.take (k+1) ++ List.replicate (n - (k+1)) 0:=by
 subst h;have h1:(m.take k).length=k:=by simp;omega
 rw[List.set_append,if_neg (by rw[h1];omega),h1,Nat.sub_self,show n - k=(n - (k+1))+1 from Aa,List.replicate_succ,List.set_cons_zero,List.take_succ_eq_append_getElem Aa,hq,List.append_assoc];rfl
set_option maxHeartbeats 1000000 in
theorem EC(v:Value)(l:List Int)(w:World)(hv:EI 0 w v l)(hn:l.length≤1099511627776):Calls Tryz.prog 84 #[v] w (Ad w fun r w'=>r = .slice (some ⟨w.heap.size,0,none⟩) (BK (zq l)).length l.length∧Cj w' w.heap.size 26 l):=by
 obtain⟨A,c,rfl,hl,hc,hA⟩:=hv;obtain⟨W0,hmk,ea,hx⟩:=IQ l.length (l.length:Int) rfl hn w;have HA:Hid (I1 0 w A l):=Lib.hid hA;clear hA
 go_enter Tryz.func84,Tryz.ntmps84
 go_wp2
 go_loopw [11] (fun iv wr=>∃ (k:Nat) (la:List Int),k≤l.length∧iv = .int .i64 k∧Cj wr w.heap.size 26 la∧la.length=l.length∧la=l.take k ++ List.replicate (l.length - k) 0∧Ext w wr) (fun iv _=>l.length - (intOf iv).toNat)
 case atStart=>exact⟨0,_,Nat.zero_le _,rfl,ea,Ac,Ac,hx⟩
 case round =>
  obtain⟨k,la,hk,rfl,ea,hlen,hla,hx⟩:=hrel;have Hla:=Lib.hid hla;clear hla;have Hlen:=Lib.hid hlen;clear hlen;by_cases hkl:k < l.length
  ·obtain⟨g,o,b,A1,n,c1,rfl,_,q0,q1,hq⟩:=HA.out.at_ (j:=k) hkl
   replace q0:=hx.cell q0;replace q1:=hx.cell q1;have Hq:=Lib.hid hq;clear hq
   go_wp2_with fail
   refine Calls.mono (Ii _ _ _ (Hq.out.kd (hx.alloc _).kd)) ?_;rintro e w2 ⟨r,rfl,hr,hx2⟩;replace ea:=ea.ext hx2.a1;replace hx:=hx.trans hx2.a1;clear hx2 q0 q1;obtain⟨b5,A5,n5,c5,rfl⟩:=hr.cells;have hkla:k < la.length:=by have:=Hlen.out;omega
   obtain⟨_,_,_,_,ca0,ca1,-⟩:=ea.at_ (j:=k) (by first | omega | (simp;omega));have fa0:=ea.frozen (k*2);have fa1:=ea.frozen (k*2+1);go_wp2;obtain⟨W3,eW,ea',U⟩:=ea.put (k:=k) (by first | omega | (simp;omega)) hr;rw[←eW];clear eW ea;replace hx:=U.from_ hx Ai;have ea:=ea';clear U ea'
   go_roundw
   case rel=>exact⟨k+1,_,Aa,by go_num,ea,by simpa using Hlen.out,VY Hla.out hkl rfl rfl,hx⟩
   case measure=>simp[intOf];omega
  ·obtain rfl:k=l.length:=by omega
   replace ea:Cj wr w.heap.size 26 l:=by
    have:=Hla.out;rw[Nat.sub_self,List.replicate_zero,List.append_nil,List.take_of_length_le (Nat.le_refl _)]at this;rw[←this];exact ea
   have hrow:=ea.row (Nat.le_refl _)
   go_wp2_with fail
   refine Calls.mono (DY w.heap.size _ _ l _ (Nat.le_refl _) Aa hrow) ?_;rintro e w2 ⟨rfl,rfl⟩;go_wp2
   go_ret
   exact Ad.mk ⟨rfl,ea⟩ hx
theorem KF(v:Value)(l:List Int)(w:World)(hv:EI 0 w v l)(hn:l.length≤1099511627776):Calls Tryz.prog 84 #[v] w (Ad w fun r w'=>AQ w.heap.size w' r (cz l)):=
 Ad.imp (EC v l w hv hn) fun _ _ ⟨e,h⟩=>by subst e;exact h.isZP rfl (Nat.le_refl _) (Nat.le_refl _) Aa
theorem Zv(v u:Value)(x y:Int)(w:World)(hv:Bj w v x)(hu:Bj w u y):Calls Tryz.prog 137 #[v,u] w (Ad w fun r w'=>AC w' r (x - y)):=by
 have Hv:=Lib.hid hv;obtain⟨neg,A,n,c,N,rfl,h1,h2,h3,hN,hx⟩:=hv.form;obtain⟨neg',A',n',c',M,rfl,k1,k2,k3,kN,hy⟩:=hu.form;have HN:=Lib.hid kN;clear hN hv hu kN hx;have hs:sz M≤n':=HN.out.sz;have Hy:=Lib.hid (show x+(if (!neg')=true then -(M:Int)else M)=x - y by rw[hy];cases neg'<;>simp<;>omega);clear hy
 go_enter Tryz.func137,Tryz.ntmps137
 go_wp2_with fail
 refine Ae 7 [5,6,7,8,9,10,11] [[],[],[1],[1,2],[],[4],[4,5],[0,1,2,3,4,5,6],[0,1,2,3,4,5,6,7]] [2,3] [_,_] [(kv ?_),(kv ?_),(kv ?_),(kv ?_),(kv ?_),(kv ?_),(fun γ=>γ 6)] (fun γ w'=>[True,True,True,True,True,True,Bn w' (γ 6) M]) Bd Ah Ah Bb Ah Bc Bg ?hstep1 ?_
 case hstep1 =>
  iterate 7 refine⟨?_,?_⟩
  trivial
  iterate 6 focus
   intro γ w' he hf;clear hf;refine⟨by trivial,?_⟩;intro R hR;have hc:=he.cells;go_simp;(try go_ints);(try(rw[if_neg Aa]));(try(rw[if_pos Aa]));(try go_simp);(try go_ints)
   refine hR _ _ (Ext.refl _) ?_ trivial;rfl
  ·intro γ w' he hf;clear hf;refine⟨trivial,?_⟩;intro R hR
   go_simp;exact AX (Bz _ M n' w' (HN.out.ext he.a3)) hR
 intro γ w1 hx1 hF;have p6:Bn w1 (γ 6) M:=Au.get hF 6 Ab;clear hF;simp only[AZ,Nat.reduceAdd];generalize γ 6=g6 at *;clear γ
 go_wp2_with fail
 refine Calls.mono (WT _ _ (!neg') x M w1 (Hv.out.ext hx1.a3) p6 Aa) ?_;rintro e w2 ⟨r,rfl,hr,hx2⟩;rw[Hy.out]at hr;obtain⟨b,A2,n2,c2,rfl⟩:=hr.cells;replace hx1:=hx1.trans hx2;have hc1:=hx1.cells;have hf1:=hx1.frozens;have Hfin:=Lib.hid (BZ hr hx1.a3 (AL.at_ hx1 (g:=w.heap.size+2) Ac (by simp[Ag])) Aa);clear hr p6;go_wp2;refine bodyPost_ret (v := .agg #[.bool b,.slice A2 n2 c2]) (by simp[results,Tryz.results137,go_sem,hc1]) rfl ?_
 exact Hfin.out
end Go.Proofs.YtmhgnigpmompmaaGreat
namespace Go.Hp
theorem Bj.zero(w:World):Bj w (.agg #[.bool false,.slice none 0 0]) 0:=(Kg w).has Ab
end Go.Hp
namespace Go.Proofs.YtmhgnigpmompmaaGreat
open Go.RowKit Go.Hp
theorem Xc(v u:Value)(x a:Int)(gb:Nat)(b:Bool)(A:Option Addr)(n c:Nat)(w:World)(hv:Bj w v x)(hu:Bj w u 0)(h0:w.cell? ⟨gb,0,none⟩=some (.bool b))(h1:w.cell? ⟨gb,1,none⟩=some (.slice A n c))(ha:Bj w (.agg #[.bool b,.slice A n c]) a) :
  Calls Tryz.prog 146 #[v,u,.pointer (some ⟨gb,0,none⟩)] w (Ad w fun r w'=>AC w' r (x*a)):=by
 have HV:=Lib.hid hv;have HA:=Lib.hid ha;obtain⟨b1,A1,n1,c1,rfl⟩:=hv.cells;obtain⟨b2,A2,n2,c2,rfl⟩:=hu.cells;clear hv hu ha;have k0:=fun o o' o''=>((((Ext.refl w).alloc o).alloc o').alloc o'').cell h0;have k1:=fun o o' o''=>((((Ext.refl w).alloc o).alloc o').alloc o'').cell h1;clear h0 h1
 go_enter Tryz.func146,Tryz.ntmps146
 go_wp2_with fail
 refine Calls.mono (Dh _ _ x a _ (HV.out.ext ((((Ext.refl w).alloc _).alloc _).alloc _)) (HA.out.ext ((((Ext.refl w).alloc _).alloc _).alloc _))) ?_;rintro e w1 ⟨r,rfl,hr,hx1⟩;obtain⟨b5,A5,n5,c5,rfl⟩:=hr.cells;have hc1:=hx1.cells;have hf1:=hx1.frozens;have Hfin:=Lib.hid (BZ hr hx1.a3 (AL.at_ hx1 (g:=w.heap.size+2) Ac (by simp[Ag])) Aa);clear hr;go_wp2;refine bodyPost_ret (v := .agg #[.bool b5,.slice A5 n5 c5]) (by simp[results,Tryz.results146,go_sem,hc1]) rfl ?_
 exact Hfin.out
set_option maxRecDepth 20000 in
set_option maxHeartbeats 4000000 in
theorem OP(v:Value)(l:List Int)(a:Int)(gb:Nat)(bb0:Bool)(B0:Option Addr)(m0 d0:Nat)(w:World)(hv:EI 0 w v l)(k0:w.cell? ⟨gb,0,none⟩=some (.bool bb0))(k1:w.cell? ⟨gb,1,none⟩=some (.slice B0 m0 d0))(ha:Bj w (.agg #[.bool bb0,.slice B0 m0 d0]) a)(hn:l.length≤1099511627776) :
  Calls Tryz.prog 145 #[v,.slice none 0 0,.func (.func 146) #[] #[.pointer (some ⟨gb,0,none⟩)]] w (Ad w fun r w'=>AQ w.heap.size w' r (psc (a:Rat) (cz l))):=by
 obtain⟨A,c,rfl,hl,hc,hA⟩:=hv;obtain⟨N,hN⟩:∃ N,N=l.length:=⟨_,rfl⟩
 obtain⟨W0,hmk,ea,hx⟩:=IQ N (l.length:Int) Aa Aa w;have hlN:l.length≤N:=by omega
 have hN40:N≤1099511627776:=by omega
 have HN:=Lib.hid hN;clear hN;have HA:Hid (I1 0 w A l):=Lib.hid hA;clear hA;have HC:=Lib.hid (And.intro k0 (And.intro k1 ha));clear k0 k1 ha;obtain⟨F,hF⟩:∃ F:Nat→Rat,F=psc (a:Rat) (cz l):=⟨_,rfl⟩
 rw[←hF];have HZ:=Lib.hid (show ZI F∧Bq N F from⟨by rw[hF];exact(ZI.cz l).psc a,by rw[hF];exact((Cb l).mono hlN).psc _⟩);have HF:=Lib.hid hF;clear hF;have HL:=Lib.hid (AP N F)
 go_enter Tryz.func145,Tryz.ntmps145
 go_wp2
 go_loopw [19] (fun iv wr=>∃ (k:Nat) (la:List Int),k≤N∧iv = .int .i64 k∧Cj wr w.heap.size 26 la∧la.length=N∧la=(Df N F).take k ++ List.replicate (N - k) 0∧Ext w wr) (fun iv _=>N - (intOf iv).toNat)
 case atStart=>exact⟨0,_,Nat.zero_le _,rfl,ea,Ac,Ac,hx⟩
 case round =>
  obtain⟨k,la,hk,rfl,ea,hlen,hla,hx⟩:=hrel;have Hla:=Lib.hid hla;clear hla;have Hlen:=Lib.hid hlen;clear hlen;have hbk:k < N∨k=N:=by omega
  rcases hbk with hkl | hkl
  ·have hk1:k < l.length:=by have:=HN.out;omega
   have hk2:¬ (k:Int) < 0:=by omega
   obtain⟨g,o,b,A1,n,c1,rfl,_,q0,q1,hq⟩:=HA.out.at_ (j:=k) hk1;replace q0:=fun o o'=>(((Ext.refl wr).alloc o).alloc o').cell (hx.cell q0);replace q1:=fun o o'=>(((Ext.refl wr).alloc o).alloc o').cell (hx.cell q1);have Hq:=Lib.hid hq;clear hq
   go_wp2_with fail
   refine Calls.mono (Xc _ _ l[k] a gb bb0 B0 m0 d0 _ (Hq.out.ext ((hx.alloc _).alloc _)) (Bj.zero _) (((hx.alloc _).alloc _).cell HC.out.1) (((hx.alloc _).alloc _).cell HC.out.2.1) (HC.out.2.2.ext ((hx.alloc _).alloc _))) ?_;rintro e w2 ⟨r,rfl,hr,hx2⟩;replace ea:=ea.ext hx2.a2;replace hx:=hx.trans hx2.a2;clear hx2;obtain⟨b5,A5,n5,c5,rfl⟩:=hr.cells;have hkla:k < la.length:=by have:=Hlen.out;omega
   obtain⟨_,_,_,_,ca0,ca1,-⟩:=ea.at_ (j:=k) (by first | omega | (simp;omega));have fa0:=ea.frozen (k*2);have fa1:=ea.frozen (k*2+1);go_wp2;obtain⟨W3,eW,ea',U⟩:=ea.put (k:=k) (by first | omega | (simp;omega)) hr;rw[←eW];clear eW ea;replace hx:=U.from_ hx Ai;have ea:=ea';clear U ea'
   go_roundw
   case rel=>exact⟨k+1,_,Aa,by go_num,ea,by simpa using Hlen.out,VY Hla.out hkl HL.out (by rw[BX,HF.out];show _=((a:Rat)*cz l k).num;rw[Cr hk1,num_mul,Int.mul_comm]),hx⟩
   case measure=>simp[intOf];omega
  ·obtain rfl:N=k:=hkl.symm
   replace ea:Cj wr w.heap.size 26 (Df N F):=by
    have:=Hla.out;rw[Nat.sub_self,List.replicate_zero,List.append_nil,List.take_of_length_le (by rw[HL.out];omega)]at this;rw[←this];exact ea
   have hrow:=ea.row (Nat.le_refl _);have hT:=DY w.heap.size (some ⟨w.heap.size,0,none⟩) N (Df N F) wr (by rw[HL.out];omega) Aa hrow;rw[HL.out]at hT;have Hrow:=Lib.hid hrow;clear hrow
   go_wp2_with fail
   refine Calls.mono hT ?_;rintro e w2 ⟨rfl,rfl⟩;go_wp2
   go_ret
   exact Ad.mk (AQ.of_trim (Ll.trim Hrow.out (by rw[HL.out];omega)) (EP HZ.out.1 HZ.out.2)) hx
theorem Xq(v u:Value)(l:List Int)(a:Int)(w:World)(hv:EI 0 w v l)(hu:Bj w u a)(hn:l.length≤1099511627776) :
  Calls Tryz.prog 96 #[v,u] w (Ad w fun r w'=>AQ w.heap.size w' r (psc (a:Rat) (cz l))):=by
 have HV:=Lib.hid hv;have HU:=Lib.hid hu;obtain⟨A,c,rfl⟩:=hv.len;obtain⟨b1,A1,n1,c1,rfl⟩:=hu.cells;clear hv hu;have hb:=Be.new w 26 #[.bool b1,.slice A1 n1 c1] (by simp[Ag]);have HB:=Lib.hid hb.cells2;clear hb
 go_enter Tryz.func96,Tryz.ntmps96
 go_wp2_with fail
 refine Calls.mono (OP _ l a w.heap.size b1 A1 n1 c1 _ (HV.out.ext ((Ext.refl w).alloc _)) HB.out.1 HB.out.2 (HU.out.ext ((Ext.refl w).alloc _)) hn) ?_;rintro e w1 ⟨r,rfl,hr,hx1⟩;go_wp2
 go_ret
 exact Ad.mk (hr.base_le Ac) hx1.a1
end Go.Proofs.YtmhgnigpmompmaaGreat
namespace Go.Hp
def dl:Nat→(Nat→Rat)→Nat
 | 0,_=>1
 | n+1,F=>Nat.lcm (dl n F) (F n).den
theorem Ph(n:Nat)(F:Nat→Rat):dl (n+1) F=Nat.lcm (dl n F) (F n).den:=rfl
theorem KL(F:Nat→Rat):∀ n,0 < dl n F
 | 0=>by show 0 < 1;omega
 | n+1=>Nat.lcm_pos (KL F n) (F n).den_pos
theorem Oi(F:Nat→Rat):∀ n i,i < n→(F i).den∣dl n F
 | n+1,i,h=>by
  rw[Ph];rcases Nat.lt_or_ge i n with l | l
  ·exact Nat.dvd_trans (Oi F n i l) (Nat.dvd_lcm_left _ _)
  ·obtain rfl:i=n:=by omega
   exact Nat.dvd_lcm_right _ _
theorem YX(n:Nat)(F:Nat→Rat):dl n F*((F n).den / Nat.gcd (dl n F) (F n).den)=dl (n+1) F:=by
 rw[Ph,Nat.lcm,Nat.mul_div_assoc _ (Nat.gcd_dvd_right _ _)]
theorem Xv(n:Nat)(F:Nat→Rat):dl n F*(F n).den / Nat.gcd (dl n F) (F n).den=dl (n+1) F:=rfl
theorem TD{F:Nat→Rat}{s:Nat}(h:∀ i,qsz (F i)≤s):∀ n,sz (dl n F)≤1+n*s
 | 0=>by show sz 1≤_;have:sz 1=1:=Ab;omega
 | n+1=>by
  have h1:=TD h n;have h2:=h n;have h3:sz (dl (n+1) F)≤sz (dl n F*(F n).den):=Bf (by rw[Ph];exact Nat.div_le_self _ _);have h4:=BU (dl n F) (F n).den;unfold qsz at h2;rw[Nat.succ_mul];omega
def Cv(n:Nat)(F:Nat→Rat):Nat→Rat:=psc ((dl n F:Nat):Rat) F
theorem Ws{n:Nat}{F:Nat→Rat}(h:Bq n F)(i:Nat):Cv n F i=(((F i).num*((dl n F:Int) / ((F i).den:Int)):Int):Rat):=by
 rcases Nat.lt_or_ge i n with hi | hi
 ·obtain⟨k,hk⟩:=Oi F n i hi
  have hd:((F i).den:Int)≠0:=by have:=(F i).den_pos;omega
  have e:(dl n F:Int) / ((F i).den:Int)=k:=by rw[hk,Int.natCast_mul,Int.mul_ediv_cancel_left _ hd]
  rw[e];show((dl n F:Nat):Rat)*F i=_;rw[hk];have h1:F i=((F i).num:Rat) / ((F i).den:Rat):=JF _;have hd':((F i).den:Rat)≠0:=Jg (F i).den_pos;have h2:(((F i).num*(k:Int):Int):Rat)=((F i).num:Rat)*(k:Rat):=by rw[Rat.intCast_mul];rfl
  have h3:(((F i).den*k:Nat):Rat)=((F i).den:Rat)*(k:Rat):=by rw[Rat.natCast_mul]
  rw[h2,h3];generalize ((F i).num:Rat)=a at *;generalize ((F i).den:Rat)=d at *;rw[h1];grind
 ·show((dl n F:Nat):Rat)*F i=_
  rw[h i hi];simp
theorem DZ{n:Nat}{F:Nat→Rat}(h:Bq n F):ZI (Cv n F):=fun i=>⟨_,Ws h i⟩
theorem TW{n:Nat}{F:Nat→Rat}(h:Bq n F)(i:Nat):(Cv n F i).num=(F i).num*((dl n F:Int) / ((F i).den:Int)):=by rw[Ws h];rfl
theorem De{n:Nat}{F:Nat→Rat}(h:Af F):Af (Cv n F):=h.psc _
theorem U0(n:Nat)(F:Nat→Rat):((dl n F:Nat):Rat)≠0:=Jg (KL F n)
theorem KY{n:Nat}{F:Nat→Rat}(h:Af F):pl (Cv n F)=pl F:=DI (U0 n F) h
theorem Nh{n:Nat}{F:Nat→Rat}(h:Af F)(h0:F≠pz):Cv n F≠pz:=fun e=>h0 ((BF h).1 (by rw[←KY (n:=n) h,e,BV]))
theorem JQ{n:Nat}{F:Nat→Rat}{s:Nat}(h:∀ i,qsz (F i)≤s)(i:Nat):qsz (Cv n F i)≤1+n*s+1+s:=by
 have h1:=TD h n;have h2:=h i;have h3:=Cq ((dl n F:Nat):Rat) (F i);have h4:qsz ((dl n F:Nat):Rat)≤1+n*s+1:=by
  change qsz (((dl n F:Nat):Int):Rat)≤_
  rw[Ba,Int.natAbs_natCast];omega
 show qsz (((dl n F:Nat):Rat)*F i)≤_;omega
noncomputable def Kv(n:Nat)(F:Nat→Rat):Rat:=ld F / ld (pp (Cv n F))
theorem Jy{a:Rat}(ha:a≠0){F:Nat→Rat}(h:Af F):ld (psc a F)=a*ld F:=by unfold ld;rw[DI ha h];rfl
theorem Zl{F:Nat→Rat}(hz:ZI F)(h:Af F)(h0:F≠pz):ld (pp F)=ld F / (pcn F:Rat):=by
 have hp':(pcn F:Rat)≠0:=fun e=>Ef hz h h0 (by exact_mod_cast e);unfold pp;rw[Jy (MM hp') h];grind
theorem SL{n:Nat}{F:Nat→Rat}(hs:Bq n F)(h0:F≠pz):Kv n F=(pcn (Cv n F):Rat) / ((dl n F:Nat):Rat)∧psc (Kv n F) (pp (Cv n F))=F:=by
 have h:Af F:=⟨n,hs⟩
 have hz:=DZ hs;have hf:=De (n:=n) h;have hne:=Nh (n:=n) h h0;have hp':(pcn (Cv n F):Rat)≠0:=fun e=>Ef hz hf hne (by exact_mod_cast e);have hl:=Dc h h0;have hd:=U0 n F;have e1:ld (Cv n F)=((dl n F:Nat):Rat)*ld F:=Jy hd h;have e2:Kv n F=(pcn (Cv n F):Rat) / ((dl n F:Nat):Rat):=by
  unfold Kv;rw[Zl hz hf hne,e1];grind
 refine⟨e2,?_⟩;rw[e2];unfold pp Cv;rw[Ci,Ci];have e3:(pcn (psc ((dl n F:Nat):Rat) F):Rat) / ((dl n F:Nat):Rat)*(1 / (pcn (psc ((dl n F:Nat):Rat) F):Rat))*((dl n F:Nat):Rat)=1:=by
  change (pcn (psc ((dl n F:Nat):Rat) F):Rat)≠0 at hp'
  grind
 rw[e3,Ca]
theorem QA{F:Nat→Rat}(hz:ZI F)(h:Af F)(h0:F≠pz):cn (pp F)=1:=by
 have hpf:=Dm h;have hp:=Ef hz h h0;have hc:=Io hz h h0;have key:(pcn F*(cn (pp F):Int))∣(cn F:Int):=WR fun i=>by
  obtain⟨k,hk⟩:=IK hpf i;obtain⟨j,hj⟩:=Je h i;have e:=NQ hz h h0 i;rw[hj,Int.mul_ediv_cancel_left _ hp]at e;have e2:(pp F i).num=j:=by rw[e];rfl
  rw[hj,←e2,hk];exact⟨k,by rw[Int.mul_assoc]⟩
 have h1:=Int.natAbs_dvd_natAbs.2 key;rw[Int.natAbs_mul,EY]at h1;have h2:cn F*cn (pp F)∣cn F*1:=by simpa using h1
 exact Nat.eq_one_of_dvd_one (Nat.dvd_of_mul_dvd_mul_left (Nat.pos_of_ne_zero hc) h2)
theorem LA{F:Nat→Rat}(hz:ZI F)(h:Af F)(h0:F≠pz):0 < ld (pp F):=by
 rw[Zl hz h h0];have hl:=Dc h h0;have hc:=Io hz h h0;have hc':(0:Rat) < (cn F:Rat):=by exact_mod_cast Nat.pos_of_ne_zero hc
 by_cases hn:ld F < 0
 ·have e:pcn F = -(cn F:Int):=by unfold pcn;rw[if_pos hn]
  rw[e];have e2:((-(cn F:Int):Int):Rat) = -(cn F:Rat):=by rw[Rat.intCast_neg];rfl
  rw[e2];have:ld F / -(cn F:Rat)=(-ld F) / (cn F:Rat):=by grind
  rw[this,Rat.div_def];exact Rat.mul_pos Aj (Rat.inv_pos.2 hc')
 ·have e:pcn F=(cn F:Int):=by unfold pcn;rw[if_neg hn]
  rw[e];have e2:(((cn F:Nat):Int):Rat)=(cn F:Rat):=rfl;rw[e2,Rat.div_def];exact Rat.mul_pos Aj (Rat.inv_pos.2 hc')
theorem Wp{F:Nat→Rat}(hz:ZI F)(h:Af F):pp (pp F)=pp F:=by
 by_cases h0:F=pz
 ·rw[h0,Gq,Gq]
 ·have h1:pcn (pp F)=1:=by
   unfold pcn;rw[if_neg (by have:=LA hz h h0;grind),QA hz h h0];rfl
  show psc (1 / ((pcn (pp F):Int):Rat)) (pp F)=pp F;rw[h1];have:1 / ((1:Int):Rat)=1:=by decide +kernel
  rw[this,Ca]
theorem MZ{P:Nat→Prop}(h:∃ i,P i):∃ i,P i∧∀ j,j < i→¬ P j:=ML h
def gL(p:Nat):Prop:=1 < p∧∀ k,k∣p→k=1∨k=p
theorem aQ{d:Nat}(h:1 < d):∃ p,gL p∧p∣d:=by
 obtain⟨p,⟨h1,h2⟩,h3⟩:=MZ (P:=fun p=>1 < p∧p∣d) ⟨d,h,Nat.dvd_refl d⟩;refine⟨p,⟨h1,fun k hk=>?_⟩,h2⟩;have hkp:=Nat.le_of_dvd Aa hk;have hk0:k≠0:=fun e=>by subst e;have:=Nat.eq_zero_of_zero_dvd hk;omega
 by_cases e:k=p
 ·exact .inr e
 ·exact .inl (by
   by_cases e1:1 < k
   ·exact absurd ⟨e1,Nat.dvd_trans hk h2⟩ (h3 k Aa)
   ·omega)
theorem gL.mul{p:Nat}(h:gL p){a b:Int}(k:(p:Int)∣a*b):(p:Int)∣a∨(p:Int)∣b:=by
 rw[Int.ofNat_dvd_left,Int.natAbs_mul]at k;rw[Int.ofNat_dvd_left,Int.ofNat_dvd_left];rcases h.2 _ (Nat.gcd_dvd_left p a.natAbs)with e | e
 ·exact .inr (Nat.Coprime.dvd_of_dvd_mul_left e k)
 ·exact .inl (by rw[←e];exact Nat.gcd_dvd_right _ _)
def Dz(p:Nat)(x:Rat):Prop:=∃ z:Int,x=(p:Rat)*(z:Rat)
theorem Dz.add{p:Nat}{x y:Rat}(h:Dz p x)(k:Dz p y):Dz p (x+y):=by
 obtain⟨a,rfl⟩:=h;obtain⟨b,rfl⟩:=k;exact⟨a+b,by rw[Rat.intCast_add];grind⟩
theorem Dz.sub{p:Nat}{x y:Rat}(h:Dz p x)(k:Dz p y):Dz p (x - y):=by
 obtain⟨a,rfl⟩:=h;obtain⟨b,rfl⟩:=k;exact⟨a - b,by rw[Rat.intCast_sub];grind⟩
theorem Dz.zero(p:Nat):Dz p 0:=⟨0,Ac⟩
theorem Dz.mul{p:Nat}{x:Rat}(h:Dz p x)(y:Int):Dz p (x*(y:Rat)):=by
 obtain⟨a,rfl⟩:=h;exact⟨a*y,by rw[Rat.intCast_mul];grind⟩
theorem Pk{p:Nat}{n:Int}:Dz p (n:Rat)↔(p:Int)∣n:=by
 constructor
 ·rintro⟨z,h⟩
  refine⟨z,?_⟩;rw[show((p:Nat):Rat)=(((p:Nat):Int):Rat)from rfl,←Rat.intCast_mul]at h;exact GV h
 ·rintro⟨z,rfl⟩
  exact⟨z,by rw[Rat.intCast_mul];rfl⟩
theorem eT{p n i:Nat}{f:Nat→Rat}(hi:i < n)(h:∀ k,k < n→k≠i→Dz p (f k)):Dz p (sm n f - f i):=by
 induction n with
 | zero=>omega
 | succ n ih =>
  rw[BH];by_cases e:i=n
  ·subst e
   rw[show sm i f+f i - f i=sm i f from by grind];clear ih hi;have:∀ m,m≤i→Dz p (sm m f):=fun m=>by
    induction m with
    | zero=>intro _;exact Dz.zero p
    | succ m ih=>intro hm;rw[BH];exact(ih Aa).add (h m Aa Aa)
   exact this i (Nat.le_refl _)
  ·have h1:=ih Aa fun k hk=>h k Aa
   rw[show sm n f+f n - f i=(sm n f - f i)+f n from by grind];exact h1.add (h n Aa fun q=>e q.symm)
theorem ZI.cv{F G:Nat→Rat}(h:ZI F)(k:ZI G):ZI (cv F G):=fun i=>by
 rw[Xe];have:∀ n (f:Nat→Rat),(∀ j,∃ z:Int,f j=(z:Rat))→∃ z:Int,sm n f=(z:Rat):=fun n f hf=>by
  induction n with
  | zero=>exact⟨0,rfl⟩
  | succ n ih =>
   obtain⟨a,ha⟩:=ih;obtain⟨b,hb⟩:=hf n;exact⟨a+b,by rw[BH,ha,hb,Rat.intCast_add]⟩
 refine this _ _ fun j=>?_;obtain⟨a,ha⟩:=h j;obtain⟨b,hb⟩:=k (i - j);exact⟨a*b,by rw[ha,hb,Rat.intCast_mul]⟩
theorem N7{F:Nat→Rat}(h:Af F){d:Nat}:d∣cn F↔∀ i,(d:Int)∣(F i).num:=
 ⟨fun k i=>Int.dvd_trans (Int.natCast_dvd_natCast.2 k) (IK h i),fun k=>Int.natCast_dvd_natCast.1 (WR k)⟩
theorem ZF{F G:Nat→Rat}(zF:ZI F)(zG:ZI G)(fF:Af F)(fG:Af G)(hF:cn F=1)(hG:cn G=1):cn (cv F G)=1:=by
 have nF:F≠pz:=fun e=>by rw[e,Mw]at hF;omega
 have nG:G≠pz:=fun e=>by rw[e,Mw]at hG;omega
 have h0:cn (cv F G)≠0:=Io (zF.cv zG) (fF.cv fG) fun e=>by
  have:=Gv fF fG nF nG;have a:=AY fF nF;have b:=AY fG nG;rw[e,BV]at this;omega
 by_cases h1:cn (cv F G)=1
 ·exact h1
 ·obtain⟨p,hp,hd⟩:=aQ (d:=cn (cv F G)) Aa
  have hall:=(N7 (fF.cv fG)).1 hd;have ex:∀ {H:Nat→Rat},Af H→cn H=1→∃ i,¬ (p:Int)∣(H i).num:=fun {H} fH hH=>by
   by_cases k:∃ i,¬ (p:Int)∣(H i).num
   ·exact k
   ·have:=(N7 fH (d:=p)).2 fun i=>by
     by_cases q:(p:Int)∣(H i).num
     ·exact q
     ·exact absurd ⟨i,q⟩ k
    rw[hH]at this;have:=Nat.le_of_dvd Aa this;have:=hp.1;omega
  obtain⟨i,hi,hi'⟩:=MZ (ex fF hF);obtain⟨j,hj,hj'⟩:=MZ (ex fG hG);have hs:=eT (p:=p) (n:=i+j+1) (i:=i) (f:=fun k=>F k*G (i+j - k)) Aa fun k hk hne=>by
   rcases Nat.lt_or_ge k i with a | a
   ·have:Dz p (F k):=by
     rw[zF.num k];refine Pk.2 ?_;by_cases q:(p:Int)∣(F k).num
     ·exact q
     ·exact absurd q (hi' k a)
    show Dz p (F k*G (i+j - k));rw[zG.num (i+j - k)];exact this.mul _
   ·have:Dz p (G (i+j - k)):=by
     rw[zG.num];refine Pk.2 ?_;by_cases q:(p:Int)∣(G (i+j - k)).num
     ·exact q
     ·exact absurd q (hj' _ Aa)
    show Dz p (F k*G (i+j - k));rw[Rat.mul_comm,zF.num k];exact this.mul _
  rw[←Xe]at hs;simp only[show i+j - i=j from by omega]at hs;have ht:Dz p (cv F G (i+j)):=by rw[(zF.cv zG).num];exact Pk.2 (hall _)
  have hu:=ht.sub hs;rw[show cv F G (i+j) - (cv F G (i+j) - F i*G j)=F i*G j from Aj,zF.num i,zG.num j,←Rat.intCast_mul]at hu;rcases hp.mul (Pk.1 hu)with q | q
  ·exact absurd q hi
  ·exact absurd q hj
theorem Xi(a:Int){F:Nat→Rat}(z:ZI F):∀ n,ct n (psc (a:Rat) F)=a.natAbs*ct n F
 | 0=>by show 0=_*0;omega
 | n+1=>by
  rw[FJ,FJ,Xi a z n];have:(psc (a:Rat) F n).num=a*(F n).num:=by show((a:Rat)*F n).num=_;rw[z.num n,num_mul];rfl
  rw[this];show Nat.gcd _ _=_*Nat.gcd _ _;rw[Int.natAbs_mul,Int.natAbs_natCast,Int.natAbs_natCast,Nat.gcd_mul_left]
theorem Gy{a:Int}(h:a≠0){F:Nat→Rat}(z:ZI F)(f:Af F):cn (psc (a:Rat) F)=a.natAbs*cn F:=by
 unfold cn;rw[DI (fun e=>h (by exact_mod_cast e)) f,Xi a z]
theorem NP{F G:Nat→Rat}(zF:ZI F)(zG:ZI G)(fF:Af F)(fG:Af G):cn (cv F G)=cn F*cn G:=by
 by_cases hF:F=pz
 ·rw[hF,Cy,Mw];omega
 by_cases hG:G=pz
 ·rw[hG,La,Mw];omega
 have nF:=Ef zF fF hF;have nG:=Ef zG fG hG;have e:cv F G=psc ((pcn F*pcn G:Int):Rat) (cv (pp F) (pp G)):=by
  have e1:=Qh zF fF hF;have e2:=Qh zG fG hG;have:cv F G=cv (psc (pcn F:Rat) (pp F)) (psc (pcn G:Rat) (pp G)):=by rw[←e1,←e2]
  rw[this,CP,Pt,Ci,Rat.intCast_mul]
 rw[e,Gy (Int.mul_ne_zero nF nG) ((I8 zF fF).cv (I8 zG fG)) ((Dm fF).cv (Dm fG)),ZF (I8 zF fF) (I8 zG fG) (Dm fF) (Dm fG) (QA zF fF hF) (QA zG fG hG),Int.natAbs_mul,EY,EY];omega
theorem Oe{N:Nat}{F G:Nat→Rat}{p:Nat}{x:Int}(h:∀ n,(G n).num=if n=p then x else(F n).num):(Df N F).set p x=Df N G:=by
 apply List.ext_getElem
 ·simp[Df]
 ·intro i h1 h2
  rw[List.getElem_set,BX,BX,h];by_cases e:p=i
  ·subst e;simp
  ·rw[if_neg e,if_neg (fun q=>e q.symm)]
theorem Tv(N:Nat):Df N pz=List.replicate N 0:=by
 apply List.ext_getElem
 ·simp[Df]
 ·intro i h1 h2;rw[BX];simp;rfl
end Go.Hp
namespace Go.Proofs.YtmhgnigpmompmaaGreat
open Go.RowKit Go.Hp
end Go.Proofs.YtmhgnigpmompmaaGreat
namespace Go.Hp
def Zd(b:Nat)(F G:Nat→Rat)(r:Value)(w:World):Prop:=∃ q m,r = .tuple #[q,m,.int .i64 0]∧AQ b w q F∧AQ b w m G
theorem Sr{F:Nat→Rat}(h:ZI F):ld F=((ld F).num:Rat):=h.num _
end Go.Hp
namespace Go.Proofs.YtmhgnigpmompmaaGreat
open Go.RowKit Go.Hp
theorem O9(v:Value)(base:Nat)(F:Nat→Rat)(w:World)(hv:AQ base w v F)(h0:F≠pz):Calls Tryz.prog 87 #[v] w (Ad w fun r w'=>AC w' r (ld F).num):=by
 have hp:=AY hv.fin h0;obtain⟨A,c,l,rfl,k1,k2,hA,k3,k4,k5⟩:=hv.form;obtain⟨g,o,b,A1,n,c1,rfl,_,q0,q1,hq⟩:=hA.at_ (j:=pl F - 1) Aa;have hl:l[pl F - 1]'(by omega)=(ld F).num:=by
  have h1:=congrFun k5 (pl F - 1);rw[Cr (show pl F - 1 < l.length by omega)]at h1;show _=(F (pl F - 1)).num;rw[←h1];rfl
 rw[hl]at hq;have Hq:=Lib.hid hq;clear hq hA hl k4 k5 hv;have x0:=(Ext.refl w).alloc (.cells #[.bool false,.slice none 0 0] 26);replace q0:=x0.cell q0;replace q1:=x0.cell q1
 go_enter Tryz.func87,Tryz.ntmps87
 go_wp2;have ez:=Be.new w 26 #[.bool b,.slice A1 n c1] (by simp[Ag]);have x1:=(Ext.refl w).alloc (.cells #[.bool b,.slice A1 n c1] 26);have hz:=Hq.out.kd x1.kd;obtain⟨cez0,cez1⟩:=ez.cells2;have fez:=ez.frozen;refine bodyPost_ret (v := .agg #[.bool b,.slice A1 n c1]) (by simp[results,Tryz.results87,go_sem,cez0,cez1]) rfl ?_;exact Ad.mk hz x1
end Go.Proofs.YtmhgnigpmompmaaGreat
namespace Go.Hp
open Go.RowKit
theorem Yf{G:Nat→Rat}(hz:ZI G)(h:Af G):Gu (zq (Df (pl G) G)):=fun h0=>by
 rw[DC,AP]at h0;have:=ES h h0;have e:(zq (Df (pl G) G)).length - 1=pl G - 1:=by rw[DC,AP]
 simp only[e];rw[Ju (by rw[AP];omega),BX,←hz.num];exact this
theorem Cj.whole{base:Nat}{w:World}{g:Nat}{t:TypeId}{G:Nat→Rat}(h:Cj w g t (Df (pl G) G))(hz:ZI G)(hf:Af G)(hb:base≤g){c:Nat}(hc:pl G≤c)(hm:c≤9223372036854775807):AQ base w (.slice (some ⟨g,0,none⟩) (pl G) c) G:=
 ⟨_,⟨_,c,by rw[AP],by rw[AP];exact hc,hm,h.row hb⟩,Yf hz hf,EP hz (AJ hf)⟩
end Go.Hp
namespace Go.Proofs.YtmhgnigpmompmaaGreat
open Go.RowKit Go.Hp
set_option maxHeartbeats 1000000 in
theorem Jr(v:Value)(l:List Int)(w:World)(hv:EI 0 w v l)(hn:l.length≤1099511627776):Calls Tryz.prog 94 #[v] w (Ad w fun r w'=>AC w' r (cn (cz l):Nat)):=by
 have hsz:=fun i=>P5 hv.sz Aa i;obtain⟨A,c,rfl,hl,hc,hA⟩:=hv;have HA:Hid (I1 0 w A l):=Lib.hid hA;clear hA;have HS:=Lib.hid hsz;clear hsz;rw[Zz (Cb l)]
 go_enter Tryz.func94,Tryz.ntmps94
 go_wp2
 go_loopw [8] (fun iv wr=>∃ k:Nat,k≤l.length∧iv = .int .i64 k∧Be wr w.heap.size 26 #[.bool false,.slice none 0 0]∧Bh wr (w.heap.size+1) 26 (ct k (cz l):Nat)∧Ext w wr) (fun iv _=>l.length - (intOf iv).toNat)
 case atStart=>exact⟨0,Nat.zero_le _,rfl,(Be.new w _ _ (by simp[Ag])).alloc _,Bh.zero (by have:=Be.new (w.alloc (.cells #[.bool false,.slice none 0 0] 26)) 26 #[.bool false,.slice none 0 0] (by simp[Ag]);rw[World.size_alloc]at this;exact this),((Ext.refl w).alloc _).alloc _⟩
 case round =>
  obtain⟨k,hk,rfl,ea,⟨b,B,bn,bc,eb,hb⟩,hx⟩:=hrel;have Hb:=Lib.hid hb;clear hb;by_cases hkl:k < l.length
  ·obtain⟨g,o,b1,A1,n,c1,rfl,_,q0,q1,hq⟩:=HA.out.at_ (j:=k) hkl
   replace q0:=hx.cell q0;replace q1:=hx.cell q1;have Hq:=Lib.hid (hq.kd hx.kd);clear hq;have hsk:=Gh HS.out k;have HK:=Lib.hid hsk;clear hsk;have xa:=fun o=>(Ext.refl wr).alloc o;have ceb:=eb.cells2;obtain⟨r0,r1⟩:=ceb;replace r0:=fun o=>(xa o).cell r0;replace r1:=fun o=>(xa o).cell r1;clear xa
   go_wp2_with fail
   refine Calls.mono (Tm _ _ (ct k (cz l):Nat) l[k] _ ((Hb.out.kd ((Ext.refl _).alloc _).kd).has (by have:=HK.out;simp;omega)) (Hq.out.kd ((Ext.refl _).alloc _).kd)) ?_;rintro e w2 ⟨r,rfl,hr,hx2⟩;have e1:Int.gcd (ct k (cz l):Nat) l[k]=ct (k+1) (cz l):=by rw[FJ,Cr hkl];rfl
   rw[e1]at hr;obtain⟨b5,A5,n5,c5,rfl⟩:=hr.cells;replace ea:=ea.ext hx2.a1;replace eb:=eb.ext hx2.a1;replace hx:=hx.trans hx2.a1;clear hx2 q0 q1 r0 r1 e1 HK Hb Hq;obtain⟨ceb0,ceb1⟩:=eb.cells2;have feb:=eb.frozen;go_wp2;obtain⟨W3,eW,eb',U⟩:=eb.put2 (.bool b5) (.slice A5 n5 c5) rfl rfl;rw[←eW];clear eW eb;replace hr:=hr.kd U.kd;replace ea:=ea.upd U Ai;replace hx:=U.from_ hx Ai;have eb:=eb';clear U eb'
   go_roundw
   case rel=>exact⟨k+1,Aa,by go_num,ea,Bh.mk eb hr,hx⟩
   case measure=>simp[intOf];omega
  ·obtain rfl:k=l.length:=by omega
   obtain⟨cea0,cea1⟩:=ea.cells2;have fea:=ea.frozen;obtain⟨ceb0,ceb1⟩:=eb.cells2;have feb:=eb.frozen;go_wp2;have hr:=Hb.out;obtain⟨W3,eW,ea',U⟩:=ea.put2 (.bool b) (.slice B bn bc) rfl rfl;rw[←eW];clear eW ea;replace hr:=hr.kd U.kd;replace hx:=U.from_ hx Ai;have ea:=ea';clear U ea';clear cea0 cea1;obtain⟨cea0,cea1⟩:=ea.cells2;have fea:=ea.frozen;refine bodyPost_ret (v := .agg #[.bool b,.slice B bn bc]) (by simp[results,Tryz.results94,go_sem,cea0,cea1]) rfl ?_
   exact Ad.mk hr hx
set_option maxRecDepth 20000 in
set_option maxHeartbeats 4000000 in
theorem F7(v:Value)(l:List Int)(w:World)(hv:EI 0 w v l)(hn:l.length≤1099511627776):Calls Tryz.prog 85 #[v] w (Ad w fun r w'=>AQ w.heap.size w' r (pp (cz l))):=by
 have hsz:=fun i=>P5 hv.sz Aa i;have HV:=Lib.hid hv;obtain⟨A0,c0,rfl⟩:=hv.len;have hfin:=Af.cz l;have hzi:=ZI.cz l;have hpl:=BB (Cb l);obtain⟨F,hF⟩:∃ F,F=cz l:=⟨_,rfl⟩
 have hNorm:=KF _ l w HV.out hn;rw[←hF]at hsz hfin hzi hNorm hpl;rw[←hF];have HX:=Lib.hid (And.intro hsz (And.intro hfin hzi));clear hsz hfin hzi HV hv hF;have HN:=Lib.hid hNorm;clear hNorm
 go_enter Tryz.func85,Tryz.ntmps85
 go_wp2_with fail
 refine Calls.mono HN.out ?_;rintro e w1 ⟨r1,rfl,hr1,hx1⟩;have Hr1:=Lib.hid hr1;obtain⟨A,c,l1,rfl,k1,k2,hA,k3,k4,k5⟩:=hr1.form;obtain⟨l2,h21,h22,-,h24⟩:=hr1.hz HX.out.1;have H2:=Lib.hid (And.intro h21 (And.intro h22 h24));clear h21 h22 h24;have HA:=Lib.hid (And.intro hA (And.intro k3 k5));clear hr1 hA k3 k4 k5 HN;have hpl40:pl F≤1099511627776:=by omega
 go_wp2_with fail
 refine Calls.mono (Jr _ l2 _ H2.out.1 (by have:=H2.out.2.1;omega)) ?_;rintro e w2 ⟨r2,rfl,hr2,hx2⟩;rw[H2.out.2.2]at hr2;obtain⟨b5,A5,n5,c5,rfl⟩:=hr2.cells;have hs1:=hx1.size;have hs2:=hx2.size;obtain⟨W0,eW,eb,x0⟩:=Be.made w2 26 #[.bool b5,.slice A5 n5 c5] (by simp[Ag]);replace hr2:=hr2.kd x0.kd;replace hx2:=hx2.trans x0;by_cases hp:0 < pl F
 ·obtain⟨g,o,b,A1,n,c1,rfl,_,q0,q1,hq⟩:=HA.out.1.at_ (j:=pl F - 1) (by have:=HA.out.2.1;omega)
  have hbb:=hq.two.2;have hld:ld F=(l1[pl F - 1]'(by have:=HA.out.2.1;omega):Rat):=by rw[←Cr,HA.out.2.2];rfl
  have hpc:pcn F=if b=true then -(cn F:Int)else cn F:=by
   unfold pcn;rw[hld,hbb];by_cases hneg:l1[pl F - 1]'(by have:=HA.out.2.1;omega) < 0
   ·rw[if_pos (by exact_mod_cast hneg),if_pos (by simpa using hneg)]
   ·rw[if_neg (fun h=>hneg (by exact_mod_cast h)),if_neg (by simpa using hneg)]
  have Hpc:=Lib.hid hpc;clear hpc hld hbb hq q1;replace q0:=hx2.cell q0;subst eW;clear x0
  go_upto_if 22 with(fail)
  generalize w2.alloc (.cells #[.bool b5,.slice A5 n5 c5] 26)=W0 at *;generalize w2.heap.size=gb at *
  go_cut [] (fun wx=>Bh wx gb 26 (pcn F)∧Ext w1 wx)
  case first =>
   obtain⟨ceb0,ceb1⟩:=eb.cells2;have feb:=eb.frozen;cases b with
   | true =>
    have hcz:sz ((cn F:Nat):Int).natAbs≤1099511627776:=by have:=Gh HX.out.1 (pl F);simpa[cn] using this
    have Hr2:=Lib.hid (hr2.has hcz);clear hcz hr2
    go_wp2_with fail
    refine Calls.mono (SV _ (cn F:Nat) _ Hr2.out) ?_;rintro e w3 ⟨r3,rfl,hr3,hx3⟩;obtain⟨b6,A6,n6,c6,rfl⟩:=hr3.cells;replace eb:=eb.ext hx3;replace hx2:=hx2.trans hx3;clear ceb0 ceb1 feb hx3 q0;obtain⟨ceb0,ceb1⟩:=eb.cells2;have feb:=eb.frozen;go_wp2;obtain⟨W3,eW,eb',U⟩:=eb.put2 (.bool b6) (.slice A6 n6 c6) rfl rfl;rw[←eW];clear eW eb;replace hr3:=hr3.kd U.kd;replace hx2:=U.from_ hx2 Ai;have eb:=eb'
    clear U eb'
    go_meet
    case rel=>exact⟨by have:=Hpc.out;simp at this;rw[this];exact Bh.mk eb hr3,hx2⟩
   | false =>
    have Hr2:=Lib.hid hr2;clear hr2;go_wp2
    go_meet
    case rel=>exact⟨by have:=Hpc.out;simp at this;rw[this];exact Bh.mk eb Hr2.out,hx2⟩
  case rest =>
   clear q0 eb hr2 hx2;obtain⟨⟨b,B,bn,bc,eb,hb⟩,hx2⟩:=hcut;have hbc:=eb.lt;have hsc:=hx2.size;have hf0:F≠pz:=fun e=>by rw[e,BV]at hp;omega
   have hppl:=Ep HX.out.2.2 HX.out.2.1;have HB:=Lib.hid (And.intro hb (And.intro hf0 hppl));clear hb hf0 hppl;obtain⟨m,hm⟩:∃ m,m=Df (pl F) (pp F):=⟨_,rfl⟩
   have hml:m.length=pl F:=by rw[hm,AP]
   have HM:=Lib.hid (And.intro hm hml);clear hm hml;obtain⟨W0,hmk,ea,hxa⟩:=IQ (pl F) (pl F:Int) rfl hpl40 wc;replace eb:=eb.ext hxa;replace hx2:=hx2.trans hxa;have HB':=Lib.hid (HB.out.1.kd hxa.kd);generalize wc.heap.size=ga at *;go_wp2;clear hmk hxa
   go_loopw [30] (fun iv wr=>∃ (k:Nat) (la:List Int),k≤pl F∧iv = .int .i64 k∧Cj wr ga 26 la∧la.length=pl F∧la=m.take k ++ List.replicate (pl F - k) 0∧Be wr gb 26 #[.bool b,.slice B bn bc]∧AC wr (.agg #[.bool b,.slice B bn bc]) (pcn F)∧Ext w1 wr) (fun iv _=>pl F - (intOf iv).toNat)
   case atStart=>exact⟨0,_,Nat.zero_le _,rfl,ea,Ac,Ac,eb,HB'.out,hx2⟩
   case round =>
    clear hx2 ea eb HB';obtain⟨k,la,hk,rfl,ea,hlen,hla,eb,hb,hx2⟩:=hrel;have Hla:=Lib.hid hla;clear hla;have Hlen:=Lib.hid hlen;clear hlen;by_cases hkl:k < pl F
    ·have hkl1:k < l1.length:=by have:=HA.out.2.1;omega
     obtain⟨g',o',b1,B1,n1,d1,hgo,_,q0,q1,hq⟩:=HA.out.1.at_ (j:=k) hkl1;simp only[Option.some.injEq,Addr.mk.injEq,and_true]at hgo;obtain⟨rfl,rfl⟩:=hgo;replace q0:=hx2.cell q0;replace q1:=hx2.cell q1;have hFk:F k=(l1[k]:Rat):=by rw[←HA.out.2.2,Cr hkl1]
     have hqz:sz l1[k].natAbs≤1099511627776:=by have:=HX.out.1 k;rw[hFk,Ba]at this;omega
     have hdv:pcn F∣l1[k]:=by have:=Je HX.out.2.1 k;rw[hFk]at this;exact this
     have hpz:=Ef HX.out.2.2 HX.out.2.1 HB.out.2.1;have hps:sz (pcn F).natAbs≤1099511627776:=by rw[EY];exact Gh HX.out.1 (pl F)
     have hval:m[k]'(by rw[HM.out.2];exact hkl)=l1[k] / pcn F:=by
      simp only[HM.out.1,BX];rw[NQ HX.out.2.2 HX.out.2.1 HB.out.2.1,hFk];rfl
     have Hq:=Lib.hid (And.intro ((hq.has hqz).kd hx2.kd) (And.intro (hb.has hps) (And.intro hdv (And.intro hpz hval))));clear hq hqz hdv hpz hps hval hFk;have xa:=fun o=>(Ext.refl wr).alloc o;obtain⟨r0,r1⟩:=eb.cells2;replace r0:=fun o=>(xa o).cell r0;replace r1:=fun o=>(xa o).cell r1;have Hb:=Lib.hid hb;clear xa hb
     go_wp2_with fail
     refine Calls.mono (GU _ _ l1[k] (pcn F) _ (Hq.out.1.kd ((Ext.refl _).alloc _).kd) (Hq.out.2.1.kd ((Ext.refl _).alloc _).kd) Hq.out.2.2.2.1 Hq.out.2.2.1) ?_;rintro e w3 ⟨r,rfl,⟨a,rfl,hr⟩,hx3⟩;obtain⟨b6,A6,n6,c6,rfl⟩:=hr.cells;replace ea:=ea.ext hx3.a1;replace eb:=eb.ext hx3.a1;have Hb':=Lib.hid (Hb.out.kd hx3.a1.kd);replace hx2:=hx2.trans hx3.a1;clear hx3 q0 q1 r0 r1 Hb;have hkla:k < la.length:=by have:=Hlen.out;omega
     obtain⟨_,_,_,_,ca0,ca1,-⟩:=ea.at_ (j:=k) (by first | omega | (simp;omega));have fa0:=ea.frozen (k*2);have fa1:=ea.frozen (k*2+1);go_wp2;have hb:=Hb'.out;obtain⟨W3,eW,ea',U⟩:=ea.put (k:=k) (by first | omega | (simp;omega)) hr;rw[←eW];clear eW ea;replace hb:=hb.kd U.kd;replace eb:=eb.upd U Ai;replace hx2:=U.from_ hx2 Ai;have ea:=ea';clear U ea'
     go_roundw
     case rel=>exact⟨k+1,_,Aa,by go_num,ea,by simpa using Hlen.out,VY Hla.out hkl HM.out.2 Hq.out.2.2.2.2.symm,eb,hb,hx2⟩
     case measure=>simp[intOf];omega
    ·obtain rfl:k=pl F:=by omega
     have hla:=Hla.out;rw[Nat.sub_self,List.replicate_zero,List.append_nil,List.take_of_length_le (by rw[HM.out.2];exact Nat.le_refl _),HM.out.1]at hla;have hw:AQ w.heap.size wr (.slice (some ⟨ga,0,none⟩) (pl F) (pl F)) (pp F):=by
      have h1:=Cj.whole (base:=w.heap.size) (G:=pp F) (c:=pl F) (by rw[HB.out.2.2,←hla];exact ea) (I8 HX.out.2.2 HX.out.2.1) (Dm HX.out.2.1) Aa (by rw[HB.out.2.2];exact Nat.le_refl _) Aa;rw[HB.out.2.2]at h1;exact h1
     have Hw:=Lib.hid hw;clear hw hla;go_wp2
     go_ret
     exact Ad.mk Hw.out (hx1.trans hx2)
 ·have hp0:pl F=0:=by omega
  have hpz:=(BF HX.out.2.1).1 hp0;have Hz:=Lib.hid (And.intro hpz hp0);clear hpz;have hb:decide ((0:Int) < (pl F:Int))=false:=by simp;omega
  obtain⟨W1,hmk,ea,hxa⟩:=IQ (pl F) (pl F:Int) rfl hpl40 W0;subst eW;clear x0 hp0;go_wp2;clear hmk
  go_loopw [30] (fun iv wr=>iv = .int .i64 0∧Ext w1 wr) (fun iv _=>0)
  case atStart=>exact⟨rfl,hx2.trans hxa⟩
  case round =>
   clear hx2;obtain⟨rfl,hx2⟩:=hrel;have hb2:¬ (0:Int) < (pl F:Int):=by omega
   go_wp2
   go_ret
   rw[Hz.out.1,Gq,BV];exact Ad.mk (AQ.empty _ _ _ _ Aa) (hx1.trans hx2)
end Go.Proofs.YtmhgnigpmompmaaGreat
namespace Go.Hp
theorem JN(l:List Int):l.take (pl (cz l))=Df (pl (cz l)) (cz l):=by
 have h:=BB (Cb l)
 apply List.ext_getElem
 ·rw[AP,List.length_take];omega
 ·intro i h1 h2
  have h3:i < l.length:=by rw[List.length_take]at h1;omega
  rw[BX,List.getElem_take,Cr h3];rfl
theorem OA{F G:Nat→Rat}(hF:ZI F)(hG:ZI G)(n:Nat):(psc (ld G) F n).num=(F n).num*(ld G).num:=by
 show(ld G*F n).num=_;rw[Sr hG,hF.num n,num_mul,Int.mul_comm];rfl
theorem Yv{F G:Nat→Rat}(hF:ZI F)(hG:ZI G):ZI (psc (ld G) F):=by rw[Sr hG];exact hF.psc _
theorem OU{F G:Nat→Rat}{k i n:Nat}(hi:i=pl F - pl G - k):CX F G (k+1) n=psc (ld G) (CX F G k) n - CX F G k (pl F - 1 - k)*sh i G n:=by subst hi;rfl
theorem Wi{F G:Nat→Rat}(hF:ZI F)(hG:ZI G){k i:Nat}(hi:i=pl F - pl G - k)(j:Nat):(CX F G (k+1) (i+j)).num=(psc (ld G) (CX F G k) (i+j)).num - (CX F G k (pl F - 1 - k)).num*(G j).num:=by
 rw[OU hi,show sh i G (i+j)=G j from by unfold sh;rw[if_neg Aa];congr 1;omega];rw[(Yv (ET hF hG k) hG).num (i+j),(ET hF hG k).num (pl F - 1 - k),hG.num j,←Rat.intCast_mul,num_sub];rfl
theorem YM{F G:Nat→Rat}{k i n:Nat}(hi:i=pl F - pl G - k)(h:n < i):CX F G (k+1) n=psc (ld G) (CX F G k) n:=by
 rw[OU hi,show sh i G n=0 from by unfold sh;rw[if_pos h]];grind
theorem Y3{F G:Nat→Rat}(hG:Af G){k i n:Nat}(hi:i=pl F - pl G - k)(h:i+pl G≤n):CX F G (k+1) n=psc (ld G) (CX F G k) n:=by
 rw[OU hi,show sh i G n=0 from by unfold sh;rw[if_neg Aa];exact AJ hG _ Aa];grind
theorem Wh{F G:Nat→Rat}{k i:Nat}(hi:i=pl F - pl G - k)(h0:Gb F G k i=0)(n:Nat):(Gb F G (k+1) n).num=if n=i then(CX F G k (pl F - 1 - k)).num else(psc (ld G) (Gb F G k) n).num:=by
 have e:Gb F G (k+1) n=psc (ld G) (Gb F G k) n+mono i (CX F G k (pl F - 1 - k)) n:=by subst hi;rfl
 rw[e];by_cases hn:n=i
 ·subst hn
  rw[if_pos rfl,K4,show psc (ld G) (Gb F G k) n=ld G*Gb F G k n from rfl,h0];congr 1;grind
 ·rw[if_neg hn,EN hn]
  congr 1;grind
end Go.Hp
namespace Go.Proofs.YtmhgnigpmompmaaGreat
open Go.RowKit Go.Hp
set_option maxRecDepth 40000 in
set_option maxHeartbeats 16000000 in
theorem aV(v u:Value)(l m:List Int)(s t:Nat)(w:World)(hv:EI 0 w v l)(hu:EI 0 w u m)(hs:∀ i,qsz (cz l i)≤s)(ht:∀ i,qsz (cz m i)≤t)(hn:l.length≤549755813888)(hm:m.length≤549755813888)(h0:cz m≠pz)(hst:s+(l.length+1)*(t+1)+t≤1099511627776) :
  Calls Tryz.prog 95 #[v,u] w (Ad w (Zd w.heap.size (Gb (cz l) (cz m) (pl (cz l)+1 - pl (cz m))) (CX (cz l) (cz m) (pl (cz l)+1 - pl (cz m))))):=by
 have HV:=Lib.hid hv;have HU:=Lib.hid hu;obtain⟨A0,c0,rfl⟩:=hv.len;obtain⟨A1,c1,rfl⟩:=hu.len;clear hv hu;have hN1:=EC _ l w HV.out Aa;rw[Gp]at hN1;have hN2:=fun W (x:Ext w W)=>EC _ m W (HU.out.ext x) Aa;simp only[Gp]at hN2;have hc1:=BB (Cb l);have hc2:=BB (Cb m);have hfF:=Af.cz l;have hzF:=ZI.cz l;have hfG:=Af.cz m;have hzG:=ZI.cz m;have hL:=AY hfG h0;have ht1:=JN l;have ht2:=JN m;obtain⟨F,hF⟩:∃ F,F=cz l:=⟨_,rfl⟩
 obtain⟨G,hG⟩:∃ G,G=cz m:=⟨_,rfl⟩
 rw[←hF]at hN1 hs hc1 hfF hzF ht1;rw[←hG]at hc2 hfG hzG hL ht h0 ht2;simp only[←hG]at hN2;rw[←hF,←hG];obtain⟨P,hP⟩:∃ P,P=pl F:=⟨_,rfl⟩
 obtain⟨L,hLe⟩:∃ L,L=pl G:=⟨_,rfl⟩
 obtain⟨K,hK⟩:∃ K,K=pl F+1 - pl G:=⟨_,rfl⟩
 have HB:=Lib.hid (show(∀ k i,k≤K→sz (CX F G k i).num.natAbs≤1099511627776)∧(∀ k i,k≤K→sz (psc (ld G) (CX F G k) i).num.natAbs≤1099511627776)∧(∀ k i j,k≤K→sz ((CX F G k i).num*(G j).num).natAbs≤1099511627776)∧(∀ k i,k≤K→pl G≤pl F→sz (Gb F G k i).num.natAbs≤1099511627776)∧sz (ld G).num.natAbs≤1099511627776∧(∀ j,sz (G j).num.natAbs≤1099511627776) by
  have key:∀ k,k≤K→k*(t+1)≤(l.length+1)*(t+1):=fun k hk=>Nat.mul_le_mul_right _ Aa;have g1:∀ j,sz (G j).num.natAbs≤t:=fun j=>Nat.le_trans (Fx _) (ht j);have g2:sz (ld G).num.natAbs≤t:=g1 _;refine⟨fun k i hk=>?_,fun k i hk=>?_,fun k i j hk=>?_,fun k i hk hle=>?_,Aa,fun j=>by have:=g1 j;omega⟩
  ·have a1:=Gz hzF hzG hs ht k i;have a2:=Fx (CX F G k i);have a3:=key k hk;omega
  ·have a1:=Gz hzF hzG hs ht k i;have a2:=Fx (CX F G k i);have a3:=key k hk
   rw[OA (ET hzF hzG k) hzG];have a4:=F6 a2 g2;omega
  ·have a1:=Gz hzF hzG hs ht k i;have a2:=Fx (CX F G k i);have a3:=key k hk
   have a4:=F6 a2 (g1 j);omega
  ·have a1:=TJ hzF hzG hs ht hle k Aa i;have a2:=Fx (Gb F G k i);have a3:=key k hk;omega)
 have HX:=Lib.hid (And.intro hfF (And.intro hzF (And.intro hfG (And.intro hzG (And.intro h0 (And.intro hF hG))))));have HP:=Lib.hid (And.intro hP (And.intro hLe hK));rw[←hP]at hc1 hN1 ht1;rw[←hLe]at hc2 hL ht2;simp only[←hLe]at hN2;have HN1:=Lib.hid hN1;have HN2:=Lib.hid hN2;have HT:=Lib.hid (And.intro ht1 ht2);have hKe:K=P+1 - L:=by rw[hP,hLe];exact hK
 clear hs ht hst hfF hzF hfG hzG h0 hF hG hP hLe hK ht1 ht2 hN1 hN2;rw[←HP.out.2.2];have hb1:((L:Int)==0)=false:=by simpa using(show L≠0 by omega)
 go_enter Tryz.func95,Tryz.ntmps95
 go_wp2_with fail
 refine Calls.mono HN1.out ?_;rintro e w1 ⟨r1,rfl,⟨rfl,er⟩,hx⟩;have hg1:=er.lt
 go_wp2_with fail
 refine Calls.mono (HN2.out w1 hx) ?_;rintro e w2 ⟨r2,rfl,⟨rfl,eg⟩,hx2⟩;have hg2:=eg.lt;replace er:=er.ext hx2;replace hx:=hx.trans hx2;clear hx2;by_cases hlt:P < L
 ·have hK0:K=0:=by omega
  have Hr:=Lib.hid (show AQ w.heap.size w2 (.slice (some ⟨w.heap.size,0,none⟩) P l.length) F by
   have h1:=er.isZP (F:=F) HX.out.2.2.2.2.2.1.symm (Nat.le_refl _) (c:=l.length) (Nat.le_refl _) Aa;rw[Gp,←HX.out.2.2.2.2.2.1,←HP.out.1]at h1;exact h1)
  have hb2:decide ((P:Int) < L)=true:=by simpa using hlt
  clear er eg hKe;go_wp2
  go_ret3
  rw[hK0];exact Ad.mk ⟨_,_,rfl,AQ.nil _ _,Hr.out⟩ hx
 ·have hb2:decide ((P:Int) < L)=false:=by simpa using hlt
  have hK1:P+1=K+L:=by omega
  have hKp:0 < K:=by omega
  have HK:=Lib.hid hK1;replace er:=er.pre P;rw[HT.out.1]at er;replace eg:=eg.pre L;rw[HT.out.2]at eg;obtain⟨W0,hmk,eq,hxq⟩:=IQ K ((P:Int) - L+1) Aa Aa w2;replace er:=er.ext hxq;replace eg:=eg.ext hxq;replace hx:=hx.trans hxq;have hg3:=eq.lt;rw[←Tv]at eq;have hK40:K≤1099511627776:=by omega
  clear hK1 hKe;generalize hgG:w1.heap.size=gG at *;generalize hgq:w2.heap.size=gq at *;go_wp2;clear hmk hxq
  go_loopw [7] (fun iv wr=>∃ k:Nat,k≤K∧iv = .int .i64 ((K:Int) - 1 - k)∧Cj wr w.heap.size 26 (Df P (CX F G k))∧Cj wr gq 26 (Df K (Gb F G k))∧Cj wr gG 26 (Df L G)∧Ext w wr) (fun iv _=>(intOf iv+1).toNat)
  case atStart=>exact⟨0,Nat.zero_le _,by go_num,er,eq,eg,hx⟩
  case round =>
   clear er eq eg hx;obtain⟨k,hk,rfl,er,eq,eg,hx⟩:=hrel;by_cases hkl:k < K
   ·obtain⟨i,hi⟩:∃ i,i=K - 1 - k:=⟨_,rfl⟩
    have hii:(K:Int) - 1 - k=(i:Int):=by omega
    rw[hii];have hik:i < K:=by omega
    have HI:=Lib.hid (show i=pl F - pl G - k∧i+L - 1=pl F - 1 - k∧(i:Int) - 1=(K:Int) - 1 - (k+1:Nat)∧i+L≤P∧i+k < pl F+1 - pl G∧pl G≤pl F by
     have h1:=HK.out;have h2:=HP.out.1;have h3:=HP.out.2.1;refine⟨?_,?_,?_,?_,?_,?_⟩<;>omega)
    clear hi hii;have hiL:i+L - 1 < P:=by have:=HI.out.2.2.2.1;omega
    obtain⟨z0,Z0,zn0,zc0,cr0,cr1,hzc⟩:=er.at_ (j:=i+L - 1) (by rw[AP];exact hiL);rw[BX]at hzc;have hgc:=eq.lt;have hLP:((i:Int)+L - 1).toNat=i+L - 1:=by omega
    go_wp2_with fail
    obtain⟨W8,eW8,e8,x8⟩:=Be.made wr 26 #[.bool z0,.slice Z0 zn0 zc0] (by simp[Ag]);rw[←eW8];clear eW8 cr0 cr1 hLP;have ec:=Bh.mk e8 (hzc.kd x8.kd);replace er:=er.ext x8;replace eq:=eq.ext x8;replace eg:=eg.ext x8;replace hx:=hx.trans x8;clear x8;clear hzc e8;generalize wr.heap.size=gc at *;generalize hcv:(CX F G k (i+L - 1)).num=cv at *;have HC:=Lib.hid (show cv=(CX F G k (pl F - 1 - k)).num∧sz cv.natAbs≤1099511627776∧∀ j,sz (cv*(G j).num).natAbs≤1099511627776 by
     subst hcv;exact⟨by rw[HI.out.2.1],HB.out.1 _ _ hk,fun j=>HB.out.2.2.1 _ _ j hk⟩)
    clear hcv hiL
    go_loopw [50] (fun jv wx=>∃ j:Nat,j≤P∧jv = .int .i64 j∧Cj wx w.heap.size 26 (Df P (mx j (psc (ld G) (CX F G k)) (CX F G k)))∧Cj wx gq 26 (Df K (Gb F G k))∧Cj wx gG 26 (Df L G)∧Bh wx gc 26 cv∧Ext w wx) (fun jv _=>P - (intOf jv).toNat)
    case atStart=>exact⟨0,Nat.zero_le _,rfl,by rw[Td];exact er,eq,eg,ec,hx⟩
    case round =>
     clear er eq eg ec hx;obtain⟨j,hj,rfl,er,eq,eg,ec,hx⟩:=hrel;by_cases hjl:j < P
     ·obtain⟨z1,Z1,zn1,zc1,ca0,ca1,hz⟩:=er.at_ (j:=j) (by rw[AP];exact hjl)
      rw[BX,Xo]at hz;have Hz:=Lib.hid (And.intro hz (show AQ w.heap.size _ (.slice (some ⟨gG,0,none⟩) L m.length) G by
       have h1:=eg;have h2:=HP.out.2.1;rw[h2]at h1;rw[h2];exact h1.whole HX.out.2.2.2.1 HX.out.2.2.1 Aa Aa Aa))
      clear hz
      go_wp2_with fail
      refine Ae 9 [53,54,55,56,57,58,59,60,61] [[],[],[],[],[2,3],[2,3,4],[],[6],[2,3,4,5,6,7],[0,1,2,3,4,5,6,7,8],[0,1,2,3,4,5,6,7,8,9]] [5,9,1] [_,_,_] [(kv ?_),(kv ?_),(kv ?_),(kv ?_),(kv ?_),(kv ?_),(kv ?_),(fun γ=>γ 7),(fun γ=>γ 8)] (fun γ w'=>[True,True,True,True,True,True,True,AC w' (γ 7) (ld G).num,AC w' (γ 8) ((CX F G k j).num*(ld G).num)]) Bd Ah Ah Bb Ah Bc Bg ?hstep1 ?_
      case hstep1 =>
       iterate 9 refine⟨?_,?_⟩
       trivial
       iterate 7 focus
        intro γ w' he hf;clear hf;refine⟨by trivial,?_⟩;intro R hR;have hc:=he.cells;have cq0:=he.cell ca0;have cq1:=he.cell ca1;go_simp;(try go_ints);(try(rw[if_neg Aa]));(try(rw[if_pos Aa]));(try go_simp);(try go_ints)
        refine hR _ _ (Ext.refl _) ?_ trivial;rfl
       ·intro γ w' he hf;clear hf;refine⟨trivial,?_⟩;intro R hR
        go_simp;exact AX (O9 _ w.heap.size G w' (Hz.out.2.ext he) HX.out.2.2.2.2.1) hR
       ·intro γ w' he hf;have f7:AC w' (γ 7) (ld G).num:=hf 7 Ab;clear hf;refine⟨trivial,?_⟩;intro R hR
        go_simp;exact AX (Dh _ _ _ _ w' ((Hz.out.1.kd he.kd).has (HB.out.1 _ _ hk)) (f7.has HB.out.2.2.2.2.1)) hR
      intro γ w6 hx6 hF;have p7:AC w6 (γ 7) (ld G).num:=Au.get hF 7 Ab;have p8:AC w6 (γ 8) ((CX F G k j).num*(ld G).num):=Au.get hF 8 Ab;clear hF;simp only[AZ,Nat.reduceAdd];generalize γ 7=g7 at *;generalize γ 8=g8 at *;clear γ;clear p7 Hz ca0 ca1;replace er:=er.ext hx6;replace eq:=eq.ext hx6;replace eg:=eg.ext hx6;replace ec:=ec.ext hx6;replace hx:=hx.trans hx6;clear hx6;obtain⟨b5,A5,n5,c5,rfl⟩:=p8.cells
      have hkf:j < (Df P (mx j (psc (ld G) (CX F G k)) (CX F G k))).length:=by rw[AP];exact hjl
      have Hkf:=Lib.hid hkf;obtain⟨_,_,_,_,ca0,ca1,-⟩:=er.at_ (j:=j) (by first | omega | (simp;omega));have fa0:=er.frozen (j*2);have fa1:=er.frozen (j*2+1);clear hkf;go_wp2;have hkf:=Hkf.out;obtain⟨W7,eW,er',U⟩:=er.put (k:=j) (by first | omega | (simp;omega)) p8;rw[←eW];clear eW er;replace eq:=eq.upd U Ai;replace eg:=eg.upd U Ai;replace ec:=ec.upd U Ai;replace hx:=U.from_ hx Ai;have er:=er';clear U er'
      go_roundw
      case rel=>exact⟨j+1,Aa,by go_num,by
       rw[←OA (ET HX.out.2.1 HX.out.2.2.2.1 k) HX.out.2.2.2.1,Ru]at er;exact er,eq,eg,ec,hx⟩
      case measure=>simp[intOf];omega
     ·obtain rfl:P=j:=by omega
      rw[VA (Nat.le_refl _)]at er;go_wp2
      go_loopw [66] (fun jv wx=>∃ j:Nat,j≤K∧jv = .int .i64 j∧Cj wx w.heap.size 26 (Df P (psc (ld G) (CX F G k)))∧Cj wx gq 26 (Df K (mx j (psc (ld G) (Gb F G k)) (Gb F G k)))∧Cj wx gG 26 (Df L G)∧Bh wx gc 26 cv∧Ext w wx) (fun jv _=>K - (intOf jv).toNat)
      case atStart=>exact⟨0,Nat.zero_le _,rfl,er,by rw[Td];exact eq,eg,ec,hx⟩
      case round =>
       clear er eq eg ec hx hjl hj;obtain⟨j,hj,rfl,er,eq,eg,ec,hx⟩:=hrel;by_cases hjl:j < K
       ·obtain⟨z1,Z1,zn1,zc1,ca0,ca1,hz⟩:=eq.at_ (j:=j) (by rw[AP];exact hjl)
        rw[BX,Xo]at hz;have Hz:=Lib.hid (And.intro hz (show AQ w.heap.size _ (.slice (some ⟨gG,0,none⟩) L m.length) G by
         have h1:=eg;have h2:=HP.out.2.1;rw[h2]at h1;rw[h2];exact h1.whole HX.out.2.2.2.1 HX.out.2.2.1 Aa Aa Aa))
        clear hz
        go_wp2_with fail
        refine Ae 9 [69,70,71,72,73,74,75,76,77] [[],[],[],[],[2,3],[2,3,4],[],[6],[2,3,4,5,6,7],[0,1,2,3,4,5,6,7,8],[0,1,2,3,4,5,6,7,8,9]] [4,10,1] [_,_,_] [(kv ?_),(kv ?_),(kv ?_),(kv ?_),(kv ?_),(kv ?_),(kv ?_),(fun γ=>γ 7),(fun γ=>γ 8)] (fun γ w'=>[True,True,True,True,True,True,True,AC w' (γ 7) (ld G).num,AC w' (γ 8) ((Gb F G k j).num*(ld G).num)]) Bd Ah Ah Bb Ah Bc Bg ?hstep2 ?_
        case hstep2 =>
         iterate 9 refine⟨?_,?_⟩
         trivial
         iterate 7 focus
          intro γ w' he hf;clear hf;refine⟨by trivial,?_⟩;intro R hR;have hc:=he.cells;have cq0:=he.cell ca0;have cq1:=he.cell ca1;go_simp;(try go_ints);(try(rw[if_neg Aa]));(try(rw[if_pos Aa]));(try go_simp);(try go_ints)
          refine hR _ _ (Ext.refl _) ?_ trivial;rfl
         ·intro γ w' he hf;clear hf;refine⟨trivial,?_⟩;intro R hR
          go_simp;exact AX (O9 _ w.heap.size G w' (Hz.out.2.ext he) HX.out.2.2.2.2.1) hR
         ·intro γ w' he hf;have f7:AC w' (γ 7) (ld G).num:=hf 7 Ab;clear hf;refine⟨trivial,?_⟩;intro R hR
          go_simp;exact AX (Dh _ _ _ _ w' ((Hz.out.1.kd he.kd).has (HB.out.2.2.2.1 _ _ hk HI.out.2.2.2.2.2)) (f7.has HB.out.2.2.2.2.1)) hR
        intro γ w6 hx6 hF;have p7:AC w6 (γ 7) (ld G).num:=Au.get hF 7 Ab;have p8:AC w6 (γ 8) ((Gb F G k j).num*(ld G).num):=Au.get hF 8 Ab;clear hF;simp only[AZ,Nat.reduceAdd];generalize γ 7=g7 at *;generalize γ 8=g8 at *;clear γ;clear p7 Hz ca0 ca1;replace er:=er.ext hx6;replace eq:=eq.ext hx6;replace eg:=eg.ext hx6;replace ec:=ec.ext hx6;replace hx:=hx.trans hx6;clear hx6;obtain⟨b5,A5,n5,c5,rfl⟩:=p8.cells
        have hkf:j < (Df K (mx j (psc (ld G) (Gb F G k)) (Gb F G k))).length:=by rw[AP];exact hjl
        have Hkf:=Lib.hid hkf;obtain⟨_,_,_,_,ca0,ca1,-⟩:=eq.at_ (j:=j) (by first | omega | (simp;omega));have fa0:=eq.frozen (j*2);have fa1:=eq.frozen (j*2+1);clear hkf;go_wp2;have hkf:=Hkf.out;obtain⟨W7,eW,eq',U⟩:=eq.put (k:=j) (by first | omega | (simp;omega)) p8;rw[←eW];clear eW eq;replace er:=er.upd U Ai;replace eg:=eg.upd U Ai;replace ec:=ec.upd U Ai;replace hx:=U.from_ hx Ai;have eq:=eq';clear U eq'
        go_roundw
        case rel=>exact⟨j+1,Aa,by go_num,er,by
         rw[←OA (Rn HX.out.2.1 HX.out.2.2.2.1 k) HX.out.2.2.2.1,Ru]at eq;exact eq,eg,ec,hx⟩
        case measure=>simp[intOf];omega
       ·obtain rfl:K=j:=by omega
        rw[VA (Nat.le_refl _)]at eq;obtain⟨b,B,bn,bc,e8,hb⟩:=ec;have Hb:=Lib.hid hb;clear hb;obtain⟨ce80,ce81⟩:=e8.cells2;have fe8:=e8.frozen
        go_wp2_with fail
        refine Calls.mono (Ii _ _ _ (Hb.out.has HC.out.2.1)) ?_;rintro e w3 ⟨r,rfl,hr,hx3⟩;have hb:=Hb.out.kd hx3.kd;clear ce80 ce81 fe8 Hb;replace er:=er.ext hx3;replace eq:=eq.ext hx3;replace eg:=eg.ext hx3;replace e8:=e8.ext hx3;replace hx:=hx.trans hx3;clear hx3;obtain⟨b5,A5,n5,c5,rfl⟩:=hr.cells;have hkf:i < (Df K (psc (ld G) (Gb F G k))).length:=by rw[AP];exact hik
        have Hkf:=Lib.hid hkf;have Hb:=Lib.hid hb;clear hb;obtain⟨_,_,_,_,ca0,ca1,-⟩:=eq.at_ (j:=i) (by first | omega | (simp;omega));have fa0:=eq.frozen (i*2);have fa1:=eq.frozen (i*2+1);clear hkf;go_wp2;have hkf:=Hkf.out;have hb:=Hb.out;obtain⟨W7,eW,eq',U⟩:=eq.put (k:=i) (by first | omega | (simp;omega)) hr;rw[←eW];clear eW eq;replace hb:=hb.kd U.kd;replace er:=er.upd U Ai;replace eg:=eg.upd U Ai
        replace e8:=e8.upd U Ai;replace hx:=U.from_ hx Ai;have eq:=eq';clear U eq';rw[Oe (G:=Gb F G (k+1)) (fun n=>by rw[Wh HI.out.1 ((IU HI.out.2.2.2.2.2 k (by have:=HI.out.2.2.2.2.1;omega)).2 i HI.out.2.2.2.2.1),HC.out.1])]at eq;have ec:=Bh.mk e8 hb;clear e8 hb Hb Hkf hkf
        go_loopw [87] (fun jv wx=>∃ j:Nat,j≤L∧jv = .int .i64 j∧Cj wx w.heap.size 26 (Df P (mx (i+j) (CX F G (k+1)) (psc (ld G) (CX F G k))))∧Cj wx gq 26 (Df K (Gb F G (k+1)))∧Cj wx gG 26 (Df L G)∧Bh wx gc 26 cv∧Ext w wx) (fun jv _=>L - (intOf jv).toNat)
        case atStart=>exact⟨0,Nat.zero_le _,rfl,by rw[Nat.add_zero,Yg (fun n hn=>YM HI.out.1 hn)];exact er,eq,eg,ec,hx⟩
        case round =>
         clear er eq eg ec hx hj hjl;obtain⟨j,hj,rfl,er,eq,eg,ec,hx⟩:=hrel;by_cases hjl:j < L
         ·obtain⟨y1,Y1,yn1,yc1,q0,q1,hy⟩:=eg.at_ (j:=j) (by rw[AP];exact hjl)
          rw[BX]at hy;have Hy:=Lib.hid hy;clear hy;have hne:=ec.lt;have hne2:=eq.lt
          go_wp2_with fail
          obtain⟨W10,eW10,e10,x10⟩:=Be.made wr 26 #[.bool y1,.slice Y1 yn1 yc1] (by simp[Ag]);rw[←eW10];clear eW10 q0 q1;have hy:=Hy.out.kd x10.kd;replace er:=er.ext x10;replace eq:=eq.ext x10;replace eg:=eg.ext x10;replace ec:=ec.ext x10;replace hx:=hx.trans x10;clear x10;obtain⟨b,B,bn,bc,e8,hb⟩:=ec;have hij:i+j < P:=by have:=HI.out.2.2.2.1;omega
          obtain⟨z1,Z1,zn1,zc1,ca0,ca1,hz⟩:=er.at_ (j:=i+j) (by rw[AP];exact hij);rw[BX,Xo]at hz;have Hz:=Lib.hid (And.intro hz (And.intro hb hy));clear hz hb hy Hy;obtain⟨ce80,ce81⟩:=e8.cells2;have fe8:=e8.frozen;obtain⟨ce100,ce101⟩:=e10.cells2;have fe10:=e10.frozen
          go_wp2_with fail
          refine Ae 14 [92,93,94,95,96,97,98,99,100,101,102,103,104,105] [[],[],[],[1,2],[],[],[],[5,6],[4,5,6,7],[4,5,6,7,8],[],[],[10,11],[4,5,6,7,8,9,10,11,12],[0,1,2,3,4,5,6,7,8,9,10,11,12,13],[0,1,2,3,4,5,6,7,8,9,10,11,12,13,14]] [5,7,11,8,12] [_,_,_,_,_] [(kv ?_),(kv ?_),(kv ?_),(kv ?_),(kv ?_),(kv ?_),(kv ?_),(kv ?_),(kv ?_),(kv ?_),(kv ?_),(kv ?_),(fun γ=>γ 12),(fun γ=>γ 13)] (fun γ w'=>[True,True,True,True,True,True,True,True,True,True,True,True,AC w' (γ 12) (cv*(G j).num),AC w' (γ 13) ((psc (ld G) (CX F G k) (i+j)).num - cv*(G j).num)]) Bd Ah Ah Bb Ah Bc Bg ?hstep3 ?_
          case hstep3 =>
           iterate 14 refine⟨?_,?_⟩
           trivial
           iterate 12 focus
            intro γ w' he hf;clear hf;refine⟨by trivial,?_⟩;intro R hR;have hc:=he.cells;have cq0:=he.cell ca0;have cq1:=he.cell ca1;have cq2:=he.cell ce80;have cq3:=he.cell ce81;have cq4:=he.cell ce100;have cq5:=he.cell ce101;go_simp;(try go_ints);(try(rw[if_neg Aa]));(try(rw[if_pos Aa]));(try go_simp);(try go_ints)
            refine hR _ _ (Ext.refl _) ?_ trivial;rfl
           ·intro γ w' he hf;clear hf;refine⟨trivial,?_⟩;intro R hR
            go_simp;exact AX (Dh _ _ _ _ w' ((Hz.out.2.1.kd he.kd).has HC.out.2.1) ((Hz.out.2.2.kd he.kd).has (HB.out.2.2.2.2.2 _))) hR
           ·intro γ w' he hf;have f12:AC w' (γ 12) (cv*(G j).num):=hf 12 Ab;clear hf;refine⟨trivial,?_⟩;intro R hR
            go_simp;exact AX (Zv _ _ _ _ w' ((Hz.out.1.kd he.kd).has (HB.out.2.1 _ _ hk)) (f12.has (HC.out.2.2 j))) hR
          intro γ w6 hx6 hF;have p12:AC w6 (γ 12) (cv*(G j).num):=Au.get hF 12 Ab;have p13:AC w6 (γ 13) ((psc (ld G) (CX F G k) (i+j)).num - cv*(G j).num):=Au.get hF 13 Ab;clear hF;simp only[AZ,Nat.reduceAdd];generalize γ 12=g12 at *;generalize γ 13=g13 at *;clear γ;have hb:=Hz.out.2.1.kd hx6.kd;clear p12 Hz ca0 ca1 ce80 ce81 fe8 ce100 ce101 fe10 e10;replace er:=er.ext hx6;replace eq:=eq.ext hx6;replace eg:=eg.ext hx6
          replace e8:=e8.ext hx6;replace hx:=hx.trans hx6;clear hx6;obtain⟨b5,A5,n5,c5,rfl⟩:=p13.cells;have hkf:i+j < (Df P (mx (i+j) (CX F G (k+1)) (psc (ld G) (CX F G k)))).length:=by rw[AP];exact hij
          have Hkf:=Lib.hid hkf;have Hb:=Lib.hid hb;clear hb;obtain⟨_,_,_,_,ca0,ca1,-⟩:=er.at_ (j:=i+j) (by first | omega | (simp;omega));have fa0:=er.frozen ((i+j)*2);have fa1:=er.frozen ((i+j)*2+1);clear hkf;go_wp2;have hkf:=Hkf.out;have hb:=Hb.out;obtain⟨W9,eW,er',U⟩:=er.put (k:=i+j) (by first | omega | (simp;omega)) p13;rw[←eW];clear eW er;replace hb:=hb.kd U.kd;replace eq:=eq.upd U Ai;replace eg:=eg.upd U Ai
          replace e8:=e8.upd U Ai;replace hx:=U.from_ hx Ai;have er:=er';clear U er'
          go_roundw
          case rel=>exact⟨j+1,Aa,by go_num,by
           rw[HC.out.1,←Wi HX.out.2.1 HX.out.2.2.2.1 HI.out.1,Ru]at er;exact er,eq,eg,Bh.mk e8 hb,hx⟩
          case measure=>simp[intOf];omega
         ·obtain rfl:L=j:=by omega
          rw[YD (fun n hn=>Y3 HX.out.2.2.1 HI.out.1 (by rw[←HP.out.2.1];exact hn))]at er;go_wp2
          go_roundw
          case rel =>
           have hi1:=HI.out.2.2.1;exact⟨k+1,Aa,by rw[←hi1],er,eq,eg,hx⟩
          case measure=>simp[intOf]
   ·obtain rfl:K=k:=by omega
    have hm1:(K:Int) - 1 - K = -1:=by omega
    rw[hm1];have hT1:=DY w.heap.size (some ⟨gq,0,none⟩) K (Df K (Gb F G K)) wr (by rw[AP];exact Nat.le_refl _) Aa (eq.row Aa);have hT2:=DY w.heap.size (some ⟨w.heap.size,0,none⟩) l.length (Df P (CX F G K)) wr (by rw[AP];exact hc1) Aa (er.row (Nat.le_refl _));rw[AP]at hT1 hT2;have HE:=Lib.hid (And.intro (eq.row (base:=w.heap.size) Aa) (er.row (Nat.le_refl _)));clear er eq eg hm1
    go_wp2_with fail
    refine Calls.mono hT1 ?_;rintro e w3 ⟨rfl,rfl⟩
    go_wp2_with fail
    refine Calls.mono hT2 ?_;rintro e w3 ⟨rfl,rfl⟩;go_wp2
    go_ret3
    have hPG:pl G≤pl F:=by have:=HP.out;omega
    exact Ad.mk ⟨_,_,rfl,AQ.of_trim (Ll.trim HE.out.1 (by rw[AP];exact Nat.le_refl _) Aa) (EP (Rn HX.out.2.1 HX.out.2.2.2.1 _) (by have h1:=(IU hPG K (by rw[HP.out.2.2];exact Nat.le_refl _)).1;rw[←HP.out.2.2]at h1;exact h1)),AQ.of_trim (Ll.trim HE.out.2 (by rw[AP];exact hc1) Aa) (EP (ET HX.out.2.1 HX.out.2.2.2.1 _) (by have h1:=Kl HX.out.1 HX.out.2.2.1 HX.out.2.2.2.2.1 K (by rw[HP.out.2.2];exact Nat.le_refl _);exact h1.mono (by rw[←HP.out.1];omega)))⟩ hx
end Go.Proofs.YtmhgnigpmompmaaGreat
namespace Go.Hp
def J8(F G:Nat→Rat):Prop:=∃ Q,ZI Q∧Af Q∧F=cv Q G
theorem Yc{R G:Nat→Rat}{k:Nat}(hR:Af R)(hG:Af G)(h0:G≠pz)(hs:Bq (k+pl G) R)(h:J8 R G):∃ z:Int,R (k+pl G - 1)=(z:Rat)*ld G:=by
 obtain⟨Q,hz,hf,e⟩:=h;have hp:=AY hG h0;by_cases hQ:Q=pz
 ·refine⟨0,?_⟩
  rw[e,hQ,Cy];show(0:Rat)=((0:Int):Rat)*_;simp
 ·have h1:=Gv hf hG hQ h0
  rw[←e]at h1;have h2:=BB hs;have h3:=AY hf hQ;have h4:Bq (k+1) Q:=(AJ hf).mono Aa;have h5:Bq (pl G - 1+1) G:=(AJ hG).mono Aa;have h6:=Sy h4 h5;rw[←e,show k+(pl G - 1)=k+pl G - 1 from by omega]at h6;rw[h6,hz.num k];exact⟨_,rfl⟩
theorem VH{F G Q R:Nat→Rat}(hz:ZI Q)(hf:Af Q)(e:F=pad (cv Q G) R):J8 F G↔J8 R G:=by
 constructor
 ·rintro⟨P,h1,h2,h3⟩
  refine⟨psb P Q,h1.psb hz,h2.psb hf,?_⟩;rw[Fp,←h3,e]
  funext n;simp only[psb,pad];grind
 ·rintro⟨P,h1,h2,h3⟩
  refine⟨pad Q P,hz.pad h1,hf.pad h2,?_⟩;rw[D5,←h3,e]
theorem aD(G:Nat→Rat):J8 pz G:=⟨pz,ZI.pz,Af.pz,(Cy G).symm⟩
theorem YT{R G:Nat→Rat}(hR:Af R)(hG:Af G)(hs:pl R < pl G):J8 R G↔R=pz:=by
 constructor
 ·rintro⟨Q,h1,h2,h3⟩
  have h0:G≠pz:=fun e=>by rw[e,BV]at hs;omega
  refine Classical.byContradiction fun hn=>?_;have hQ:Q≠pz:=fun e=>hn (by rw[h3,e,Cy]);have:=Gv h2 hG hQ h0;rw[←h3]at this;have:=AY h2 hQ;omega
 ·rintro rfl;exact aD G
def EW(F G:Nat→Rat)(n s t i:Nat)(Q R:Nat→Rat):Prop:=
 (∀ j,j < i→Q j=0)∧Bq n Q∧Bq (i+pl G - 1) R∧F=pad (cv Q G) R∧ZI Q∧ZI R∧∀ m,qsz (R m)≤s+(n - i)*(t+1)
theorem EW.start{F G:Nat→Rat}{n s t:Nat}(hF:Bq (n+pl G - 1) F)(hz:ZI F)(hs:∀ m,qsz (F m)≤s):EW F G n s t n pz F:=
 ⟨fun _ _=>rfl,Bq.pz _,hF,by rw[Cy];funext m;simp only[pad,pz];grind,ZI.pz,hz,fun m=>by have:=hs m;omega⟩
theorem QF{z:Int}{a b:Rat}(hb:b≠0)(hbz:∃ y:Int,b=(y:Rat))(e:a=(z:Rat)*b):qsz (z:Rat)≤qsz a:=by
 obtain⟨y,rfl⟩:=hbz;rw[e,←Rat.intCast_mul,Ba,Ba];have hy:y≠0:=fun h=>hb (by rw[h];rfl);have:sz z.natAbs≤sz (z*y).natAbs:=by
  refine Bf ?_;rw[Int.natAbs_mul];exact Nat.le_mul_of_pos_right _ Aa
 omega
theorem EW.step{F G:Nat→Rat}{n s t k:Nat}{Q R:Nat→Rat}(hG:Af G)(h0:G≠pz)(zG:ZI G)(hcG:∀ m,qsz (G m)≤t)(h:EW F G n s t (k+1) Q R)(hk:k < n){z:Int}(hc:R (k+pl G - 1)=(z:Rat)*ld G) :
  EW F G n s t k (pad Q (mono k (z:Rat))) (psb R (cv (mono k (z:Rat)) G)):=by
 obtain⟨h3,h4,h5,h6,h7,h8,h9⟩:=h;have hp:=AY hG h0;have hl:=Dc hG h0;have hz:(z:Rat)=R (k+pl G - 1) / ld G:=by rw[hc];grind
 refine⟨fun j hj=>?_,h4.pad ((EL k _).mono Aa),?_,?_,h7.pad (ZI.mono k z),h8.psb ((ZI.mono k z).cv zG),fun m=>?_⟩
 ·show Q j+mono k (z:Rat) j=0
  rw[h3 j Aa,EN Aa];grind
 ·rw[hz];exact EJ hG h0 (h5.mono Aa)
 ·rw[D5]
  funext m
  have:=congrFun h6 m;simp only[pad,psb]at this ⊢;grind
 ·have q1:qsz (z:Rat)≤qsz (R (k+pl G - 1)):=QF hl (zG _) hc
  have q2:=h9 (k+pl G - 1);have e:n - k=(n - (k+1))+1:=by omega
  have q3:(n - k)*(t+1)=(n - (k+1))*(t+1)+(t+1):=by rw[e,Nat.succ_mul]
  have q4:qsz (cv (mono k (z:Rat)) G m)≤qsz (z:Rat)+t:=by
   rw[FR];show qsz ((z:Rat)*sh k G m)≤_;have a1:=Cq (z:Rat) (sh k G m);have a2:qsz (sh k G m)≤max t 1:=by
    unfold sh
    split
    ·have:qsz (0:Rat)=1:=by decide
     omega
    ·have:=hcG (m - k);omega
   have a3:1≤t:=by have:=hcG 0;have:1≤qsz (G 0):=by { unfold qsz;have:=DL (n:=(G 0).den) (by have:=(G 0).den_pos;omega);omega };omega
   omega
  have q5:=MK h8 ((ZI.mono k z).cv zG) m m;have q6:=h9 m;show qsz (R m - cv (mono k (z:Rat)) G m)≤_;omega
theorem EW.end_{F G:Nat→Rat}{n s t:Nat}{Q R:Nat→Rat}(hF:Af F)(hG:Af G)(h0:G≠pz)(h:EW F G n s t 0 Q R):Q=pq F G∧R=pr F G∧Bq n Q∧ZI Q:=by
 obtain⟨h3,h4,h5,h6,h7,h8,h9⟩:=h;have:=Il hF hG h0 ⟨n,h4⟩ h6 (by rwa[Nat.zero_add]at h5);exact⟨this.1,this.2,h4,h7⟩
theorem EW.zdv{F G:Nat→Rat}{n s t i:Nat}{Q R:Nat→Rat}(h:EW F G n s t i Q R):J8 F G↔J8 R G:=
 VH h.2.2.2.2.1 ⟨n,h.2.1⟩ h.2.2.2.1
theorem EW.fin{F G:Nat→Rat}{n s t i:Nat}{Q R:Nat→Rat}(h:EW F G n s t i Q R):Af R:=⟨_,h.2.2.1⟩
theorem EW.no{F G:Nat→Rat}{n s t k:Nat}{Q R:Nat→Rat}(hG:Af G)(h0:G≠pz)(zG:ZI G)(h:EW F G n s t (k+1) Q R)(hd:¬ (ld G).num∣(R (k+pl G - 1)).num):¬ J8 F G:=by
 intro hz;have hp:=AY hG h0;obtain⟨z,e⟩:=Yc (k:=k) h.fin hG h0 (h.2.2.1.mono Aa) (h.zdv.1 hz)
 apply hd
 rw[e,show ld G=((ld G).num:Rat)from zG.num _,num_mul];exact⟨z,by rw[Int.mul_comm];rfl⟩
theorem EW.yes{F G:Nat→Rat}{n s t i m:Nat}{Q R:Nat→Rat}(zG:ZI G)(h:EW F G n s t i Q R)(hd:(ld G).num∣(R m).num):R m=(((R m).num / (ld G).num:Int):Rat)*ld G:=by
 have e1:ld G=((ld G).num:Rat):=zG.num _;have e2:=h.2.2.2.2.2.1.num m;have e3:=Int.ediv_mul_cancel hd;have e4:(((R m).num / (ld G).num:Int):Rat)*(((ld G).num:Int):Rat)=(((R m).num:Int):Rat):=by rw[←Rat.intCast_mul,e3]
 rw[e2,e1];exact e4.symm
theorem EW.out{F G:Nat→Rat}{n s t:Nat}{Q R:Nat→Rat}(hF:Af F)(hG:Af G)(h0:G≠pz)(h:EW F G n s t 0 Q R):J8 F G↔R=pz:=by
 rw[h.zdv,YT h.fin hG];have hp:=AY hG h0;have:=BB h.2.2.1;omega
theorem TN(k j:Nat)(c:Rat)(R G:Nat→Rat):DW k j c R G (k+j)=R (k+j):=by
 unfold DW;rw[if_neg Aa];grind
theorem VD{k j:Nat}{z:Int}{R G:Nat→Rat}(hR:ZI R)(hG:ZI G)(n:Nat):(DW k (j+1) (z:Rat) R G n).num=if n=k+j then(R (k+j)).num - z*(G j).num else(DW k j (z:Rat) R G n).num:=by
 rw[KM]
 split
 ·rename_i h;subst h
  rw[TN,hR.num,hG.num j,←Rat.intCast_mul,num_sub];rfl
 ·rfl
theorem VE{Q:Nat→Rat}{k:Nat}{z:Int}(hQ:ZI Q)(h:Q k=0)(n:Nat):(pad Q (mono k (z:Rat)) n).num=if n=k then z else(Q n).num:=by
 show(Q n+mono k (z:Rat) n).num=_;by_cases e:n=k
 ·subst e;rw[if_pos rfl,h,K4,Rat.zero_add];rfl
 ·rw[if_neg e,EN e,Rat.add_zero]
end Go.Hp
namespace Go.Hp
open Go.RowKit
def ER(w:World)(v:Value)(x:Int)(e:Int):Prop:=∃ a,v = .tuple #[a,.int .i64 e]∧AC w a x
theorem ER.ext{w w':World}{v:Value}{x e:Int}(h:ER w v x e)(k:Ext w w'):ER w' v x e:=by
 obtain⟨a,h1,h2⟩:=h;exact⟨a,h1,h2.kd k.kd⟩
def Zk(base:Nat)(F G:Nat→Rat)(r:Value)(w:World):Prop:=(J8 F G→∃ q,r = .tuple #[q,.int .i64 0]∧AQ base w q (pq F G))∧(¬ J8 F G→r = .tuple #[.slice none 0 0,.int .i64 6])
end Go.Hp
namespace Go.Proofs.YtmhgnigpmompmaaGreat
open Go.RowKit Go.Hp
set_option maxHeartbeats 1000000 in
theorem VZ(v u:Value)(x y:Int)(w:World)(hv:Bj w v x)(hu:Bj w u y)(h0:y≠0)(hd:¬ y∣x):Calls Tryz.prog 86 #[v,u] w (Ad w fun r w'=>ER w' r 0 6):=by
 have Hv:=Lib.hid hv;have Hu:=Lib.hid hu;obtain⟨neg,A,n,c,N,rfl,h1,h2,h3,hN,hx⟩:=hv.form;obtain⟨neg',A',n',c',M,rfl,k1,k2,k3,kN,hy⟩:=hu.form;clear hN hx hv hu kN hy;have hz:x % y≠0:=fun e=>hd (Int.dvd_of_emod_eq_zero e);have hp:0 < sz (x % y).natAbs:=Nat.pos_of_ne_zero fun e=>hz (by have:=(Ew (n:=(x % y).natAbs) (k:=0)).1 Aa;rw[J9]at this;omega);have H0:=Lib.hid (And.intro h0 hp);clear h0 hd hz hp
 go_enter Tryz.func86,Tryz.ntmps86
 go_wp2_with fail
 refine Calls.mono (Kt _ _ x y _ (Hv.out.ext ((((Ext.refl w).alloc _).alloc _).alloc _)) (Hu.out.ext ((((Ext.refl w).alloc _).alloc _).alloc _))) ?_;rintro e w1 ⟨r,rfl,⟨q,m,rfl,hq,hm⟩,hx1⟩;rw[if_neg H0.out.1]at hm;rw[if_neg H0.out.1];obtain⟨b,A1,n1,c1,rfl⟩:=hq.cells;obtain⟨A2,c2,rfl,-⟩:=hm.form;obtain⟨n2,hn2⟩:∃ n2,n2=sz (x % y).natAbs:=⟨_,rfl⟩
 rw[←hn2];have hn0:0 < n2:=by have:=H0.out.2;omega
 obtain⟨bb,hbb⟩:∃ bb,bb=decide (x % y < 0):=⟨_,rfl⟩
 rw[←hbb];clear hq hm hn2 hbb;have hx2:=(hx1.alloc (Obj.cells #[Value.bool b,Value.slice A1 n1 c1] 26)).alloc (Obj.cells #[Value.bool bb,Value.slice A2 n2 c2] 26);have hc2:=hx2.cells;have hf2:=hx2.frozens;have Hfin:=Lib.hid (BZ (Kg ((w1.alloc (Obj.cells #[Value.bool b,Value.slice A1 n1 c1] 26)).alloc (Obj.cells #[Value.bool bb,Value.slice A2 n2 c2] 26))) hx2.a3 (AL.at_ hx2 (g:=w.heap.size+1+1) Ac (by simp[Ag])) Aa)
 have hc1:=hx1.cells;have hf1:=hx1.frozens;go_wp2;refine bodyPost_ret (v := .tuple #[.agg #[.bool false,.slice none 0 0],.int .i64 6]) (by simp[results,Tryz.results86,go_sem,hc2]) rfl ?_;obtain⟨r,e,hr,hx⟩:=Hfin.out;cases e;exact Ad.mk ⟨_,rfl,hr⟩ hx
theorem Ye(v u:Value)(x y:Int)(w:World)(hv:Bj w v x)(hu:Bj w u y)(h0:y≠0)(hd:y∣x):Calls Tryz.prog 86 #[v,u] w (Ad w fun r w'=>ER w' r (x / y) 0):=GU v u x y w hv hu h0 hd
set_option maxRecDepth 20000 in
set_option maxHeartbeats 16000000 in
theorem UV(v u:Value)(l m:List Int)(s t:Nat)(w:World)(hv:EI 0 w v l)(hu:EI 0 w u m)(hs:∀ i,qsz (cz l i)≤s)(ht:∀ i,qsz (cz m i)≤t)(hn:l.length≤549755813888)(hm:m.length≤549755813888)(h0:cz m≠pz)(hst:s+(l.length+2)*(t+1)+t≤1099511627776) :
  Calls Tryz.prog 88 #[v,u] w (Ad w (Zk w.heap.size (cz l) (cz m))):=by
 have HV:=Lib.hid hv;have HU:=Lib.hid hu;obtain⟨A0,c0,rfl⟩:=hv.len;obtain⟨A1,c1,rfl⟩:=hu.len;clear hv hu;have hN1:=EC _ l w HV.out Aa;rw[Gp]at hN1;have hN2:=fun W (x:Ext w W)=>EC _ m W (HU.out.ext x) Aa;simp only[Gp]at hN2;have hc1:=BB (Cb l);have hc2:=BB (Cb m);have hfF:=Af.cz l;have hzF:=ZI.cz l;have hfG:=Af.cz m;have hzG:=ZI.cz m;have hL:=AY hfG h0;have ht1:=JN l;have ht2:=JN m;obtain⟨F,hF⟩:∃ F,F=cz l:=⟨_,rfl⟩
 obtain⟨G,hG⟩:∃ G,G=cz m:=⟨_,rfl⟩
 rw[←hF]at hN1 hs hc1 hfF hzF ht1;rw[←hG]at hc2 hfG hzG hL ht h0 ht2;simp only[←hG]at hN2;rw[←hF,←hG];obtain⟨P,hP⟩:∃ P,P=pl F:=⟨_,rfl⟩
 obtain⟨L,hLe⟩:∃ L,L=pl G:=⟨_,rfl⟩
 obtain⟨K,hK⟩:∃ K,K=pl F+1 - pl G:=⟨_,rfl⟩
 have HB:=Lib.hid (show(∀ k,k≤K→∀ q,q≤s+k*(t+1)→q≤1099511627776∧q+t≤1099511627776)∧sz (ld G).num.natAbs≤1099511627776∧(∀ j,sz (G j).num.natAbs≤t)∧t≤1099511627776 by
  have key:∀ k,k≤K→k*(t+1)≤(l.length+2)*(t+1):=fun k hk=>Nat.mul_le_mul_right _ Aa;have g1:∀ j,sz (G j).num.natAbs≤t:=fun j=>Nat.le_trans (Fx _) (ht j);have g2:sz (ld G).num.natAbs≤t:=g1 _;exact⟨fun k hk q hq=>by have:=key k hk;omega,Aa,g1,Aa⟩)
 have HX:=Lib.hid (And.intro hfF (And.intro hzF (And.intro hfG (And.intro hzG (And.intro h0 (And.intro hF (And.intro hG (And.intro hs ht))))))));have HP:=Lib.hid (And.intro hP (And.intro hLe hK));rw[←hP]at hc1 hN1 ht1;rw[←hLe]at hc2 hL ht2;simp only[←hLe]at hN2;have HN1:=Lib.hid hN1;have HN2:=Lib.hid hN2;have HT:=Lib.hid (And.intro ht1 ht2);have hKe:K=P+1 - L:=by rw[hP,hLe];exact hK
 clear hs ht hst hfF hzF hfG hzG h0 hF hG hP hLe hK ht1 ht2 hN1 hN2;have hb1:((L:Int)==0)=false:=by simpa using(show L≠0 by omega)
 go_enter Tryz.func88,Tryz.ntmps88
 go_wp2_with fail
 refine Calls.mono HN1.out ?_;rintro e w1 ⟨r1,rfl,⟨rfl,er⟩,hx⟩;have hg1:=er.lt
 go_wp2_with fail
 refine Calls.mono (HN2.out w1 hx) ?_;rintro e w2 ⟨r2,rfl,⟨rfl,eg⟩,hx2⟩;have hg2:=eg.lt;replace er:=er.ext hx2;replace hx:=hx.trans hx2;clear hx2;have hK1:P+1≤K+L∧(0 < K→P+1=K+L):=by omega
 have HK:=Lib.hid hK1;replace er:=er.pre P;rw[HT.out.1]at er;replace eg:=eg.pre L;rw[HT.out.2]at eg;obtain⟨W0,hmk,eq,hxq⟩:=IQ K (max ((P:Int) - L+1) 0) Aa Aa w2;replace er:=er.ext hxq;replace eg:=eg.ext hxq;replace hx:=hx.trans hxq;have hg3:=eq.lt;rw[←Tv]at eq;have hK40:K≤1099511627776:=by omega
 clear hK1 hKe;have hst0:EW F G K s t K pz F:=EW.start ((AJ HX.out.1).mono (by have:=HK.out;have:=HP.out;omega)) HX.out.2.1 HX.out.2.2.2.2.2.2.2.1;have HS0:=Lib.hid hst0;clear hst0;generalize hgG:w1.heap.size=gG at *;generalize hgq:w2.heap.size=gq at *;go_wp2;clear hmk hxq
 go_loopw [8] (fun iv wr=>∃ (i:Nat) (Q R:Nat→Rat),i≤K∧iv = .int .i64 ((i:Int) - 1)∧Cj wr w.heap.size 26 (Df P R)∧Cj wr gq 26 (Df K Q)∧Cj wr gG 26 (Df L G)∧EW F G K s t i Q R∧Bq P R∧Ext w wr) (fun iv _=>(intOf iv+1).toNat)
 case atStart=>exact⟨K,pz,F,Nat.le_refl _,by go_num,er,eq,eg,HS0.out,by rw[HP.out.1];exact AJ HX.out.1,hx⟩
 case round =>
  clear er eq eg hx;obtain⟨i,Q,R,hi,rfl,er,eq,eg,hst,hsP,hx⟩:=hrel;have HR:=Lib.hid hst;have HSP:=Lib.hid hsP;clear hst hsP;by_cases hi0:0 < i
  ·obtain⟨k,rfl⟩:∃ k,i=k+1:=⟨i - 1,Aa⟩
   have hii:((k+1:Nat):Int) - 1=(k:Int):=by omega
   rw[hii];clear hii hi0;have hkK:k < K:=by omega
   have hkP:k+L≤P:=by have:=HK.out.2;omega
   have hkL:k+L - 1 < P:=by omega
   obtain⟨z0,Z0,zn0,zc0,cr0,cr1,hzc⟩:=er.at_ (j:=k+L - 1) (by rw[AP];exact hkL);rw[BX]at hzc;have hLP:((k:Int)+L - 1).toNat=k+L - 1:=by omega
   have HQ:=Lib.hid (show(∀ n,sz (R n).num.natAbs≤1099511627776)∧(ld G).num≠0∧R (k+L - 1)=R (k+pl G - 1)from by
    refine⟨fun n=>?_,fun e=>?_,by rw[HP.out.2.1]⟩
    ·have h1:=HR.out.2.2.2.2.2.2 n
     have h2:=HB.out.1 _ (show K - (k+1)≤K by omega) _ h1;have h3:=Fx (R n);omega
    ·have:=Dc HX.out.2.2.1 HX.out.2.2.2.2.1
     exact this (by rw[show ld G=((ld G).num:Rat)from HX.out.2.2.2.1.num _,e];rfl))
   have Hz:=Lib.hid (And.intro hzc (show AQ w.heap.size _ (.slice (some ⟨gG,0,none⟩) L m.length) G by
    have h1:=eg;have h2:=HP.out.2.1;rw[h2]at h1;rw[h2];exact h1.whole HX.out.2.2.2.1 HX.out.2.2.1 Aa Aa Aa))
   clear hzc;obtain⟨rv,hrv⟩:∃ rv,rv=(R (k+L - 1)).num:=⟨_,rfl⟩
   rw[←hrv]at Hz;by_cases hd:(ld G).num∣rv
   ·obtain⟨z,hzz⟩:∃ z,z=rv / (ld G).num:=⟨_,rfl⟩
    have HD:=Lib.hid (And.intro hd (And.intro hrv hzz));clear hd hzz
    go_wp2_with fail
    go_cut [9,10] (fun pv ev wx=>∃ gc,pv = .pointer (some ⟨gc,0,none⟩)∧ev = .int .i64 0∧Bh wx gc 26 z∧wr.heap.size≤gc∧Ext wr wx)
    case first =>
     refine BJ 15 13 1 [36,37,38,39,40,41,42,43,44,45,46,35,47,48,9] [[],[],[],[2],[1,2,3],[1,2,3,4],[0,1,2,3,4,5],[0,1,2,3,4,5,6],[],[8],[0,1,2,3,4,5,6,7,8,9],[0,1,2,3,4,5,6,7,8,9,10],[0,1,2,3,4,5,6,7,8,9,10,11],[0,1,2,3,4,5,6,7,8,9,10,11],[],[0,1,2,3,4,5,6,7,8,9,10,11,12,14],[0,1,2,3,4,5,6,7,8,9,10,11,12,13,14,15]] [6,8,1] [_,_,_] [(kv ?_),(kv ?_),(kv ?_),(kv ?_),(kv ?_),(kv ?_),(kv ?_),(kv ?_),(kv ?_),(fun γ=>γ 9),(fun γ=>γ 10),(fun γ=>γ 10),(fun γ=>γ 12),(kv ?_),(fun γ=>γ 14)] (fun γ w'=>[True,True,True,True,True,True,True,True,True,AC w' (γ 9) (ld G).num,ER w' (γ 10) z 0,True,AC w' (γ 12) z,True,AV w' (γ 14) wr.heap.size #[.bool false,.slice none 0 0] 26]) _ rfl Bd Ah Ah Ah Ah Ah Bb Ah Bc ?hmono1 ?hstep1 ?_ ?hlate1
     case hstep1 =>
      iterate 15 refine⟨?_,?_⟩
      trivial
      iterate 9 focus
       intro γ w' he hf;clear hf;refine⟨by trivial,?_⟩;intro R hR;have hc:=he.cells;have cq0:=he.cell cr0;have cq1:=he.cell cr1;go_simp;(try go_ints);(try(rw[if_neg Aa]));(try(rw[if_pos Aa]));(try go_simp);(try go_ints)
       refine hR _ _ (Ext.refl _) ?_ trivial;rfl
      ·intro γ w' he hf;clear hf;refine⟨trivial,?_⟩;intro R hR
       go_simp;exact AX (O9 _ w.heap.size G w' (Hz.out.2.ext he) HX.out.2.2.2.2.1) hR
      ·intro γ w' he hf;have f9:AC w' (γ 9) (ld G).num:=hf 9 Ab;clear hf;refine⟨trivial,?_⟩;intro R hR
       go_simp;exact AX (HD.out.2.2▸Ye _ _ _ _ w' ((Hz.out.1.kd he.kd).has (by rw[HD.out.2.1];exact HQ.out.1 _)) (f9.has HB.out.2.1) HQ.out.2.1 HD.out.1) hR
      ·intro γ w' he hf;clear hf;refine⟨trivial,?_⟩;intro R hR
       have hc:=he.cells;go_simp
       (try go_ints);(try(rw[if_neg Aa]));(try(rw[if_pos Aa]));(try go_simp);(try go_ints)
       refine hR _ _ (Ext.refl _) ?_ trivial;rfl
      ·intro γ w' he hf;have f10:ER w' (γ 10) z 0:=hf 10 Ab;clear hf;refine⟨trivial,?_⟩;intro R hR
       obtain⟨a,e,ha⟩:=f10;go_simp;exact hR _ _ (Ext.refl _) rfl ha
      ·intro γ w' he hf;have f10:ER w' (γ 10) z 0:=hf 10 Ab;clear hf;refine⟨trivial,?_⟩;intro R hR
       obtain⟨a,e,ha⟩:=f10;have hc:=he.cells;go_simp
       (try go_ints);(try(rw[if_neg Aa]));(try(rw[if_pos Aa]));(try go_simp);(try go_ints)
       refine hR _ _ (Ext.refl _) ?_ trivial;rfl
      ·intro γ w' he hf;clear hf;refine⟨trivial,?_⟩;intro R hR
       go_simp;exact hR _ _ ((Ext.refl _).alloc _) rfl (AV.mk (Nat.le_trans Ac he.size) (by simp[Ag]))
     case hmono1 =>
      exact⟨⟨⟨⟨⟨⟨⟨⟨⟨⟨⟨⟨⟨⟨⟨trivial,(fun γ wA w' e h=>h)⟩,(fun γ wA w' e h=>h)⟩,(fun γ wA w' e h=>h)⟩,(fun γ wA w' e h=>h)⟩,(fun γ wA w' e h=>h)⟩,(fun γ wA w' e h=>h)⟩,(fun γ wA w' e h=>h)⟩,(fun γ wA w' e h=>h)⟩,(fun γ wA w' e h=>h)⟩,(fun γ wA w' e h=>(show AC wA (γ 9) (ld G).num from h).ext e)⟩,(fun γ wA w' e h=>(show ER wA (γ 10) z 0 from h).ext e)⟩,(fun γ wA w' e h=>h)⟩,(fun γ w w' e h=>AC.ext_ h e)⟩,(fun γ wA w' e h=>h)⟩,(fun γ wA w' e h=>(show AV wA (γ 14) wr.heap.size #[.bool false,.slice none 0 0] 26 from h).ext e)⟩
     case hlate1 =>
      intro γ w3 hx3 hF;have p9:AC w3 (γ 9) (ld G).num:=(Au.get hF 9 Ab).resolve_left Ab;have p10:ER w3 (γ 10) z 0:=(Au.get hF 10 Ab).resolve_left Ab;have p12:AC w3 (γ 12) z:=(Au.get hF 12 Ab).resolve_left Ab;have p14:AV w3 (γ 14) wr.heap.size #[.bool false,.slice none 0 0] 26:=(Au.get hF 14 Ab).resolve_left Ab;clear hF;simp only[AZ,Nat.reduceAdd,EB,Array.getD_eq_getD_getElem?,List.getElem?_toArray,List.getElem?_cons_succ,List.getElem?_cons_zero,Option.getD_some]
      generalize γ 9=g9 at *;generalize γ 10=g10 at *;generalize γ 12=g12 at *;generalize γ 14=g14 at *;clear γ;obtain⟨a10,rfl,-⟩:=p10;obtain⟨gc,rfl,hgc,ec⟩:=p14;obtain⟨b5,A5,n5,c5,rfl⟩:=p12.cells;clear cr0 cr1 p9 hLP;obtain⟨cec0,cec1⟩:=ec.cells2;have fec:=ec.frozen;go_wp2;refine⟨?_,trivial⟩;go_wp2;skip;obtain⟨W4,eW,ec',U⟩:=ec.put2 (.bool b5) (.slice A5 n5 c5) rfl rfl;rw[←eW];clear eW ec;replace p12:=p12.kd U.kd
      replace hx3:=U.from_ hx3 Ai;have ec:=ec';clear U ec'
      go_meet
      case rel=>exact⟨gc,rfl,rfl,Bh.mk ec p12,hgc,hx3⟩
     intro γ w3 hx3 hF;have p9:AC w3 (γ 9) (ld G).num:=Au.get hF 9 Ab;have p10:ER w3 (γ 10) z 0:=Au.get hF 10 Ab;have p12:AC w3 (γ 12) z:=Au.get hF 12 Ab;have p14:AV w3 (γ 14) wr.heap.size #[.bool false,.slice none 0 0] 26:=Au.get hF 14 Ab;clear hF;simp only[AZ,Nat.reduceAdd];generalize γ 9=g9 at *;generalize γ 10=g10 at *;generalize γ 12=g12 at *;generalize γ 14=g14 at *;clear γ;obtain⟨a10,rfl,-⟩:=p10
     obtain⟨gc,rfl,hgc,ec⟩:=p14;obtain⟨b5,A5,n5,c5,rfl⟩:=p12.cells;clear cr0 cr1 p9 hLP;obtain⟨cec0,cec1⟩:=ec.cells2;have fec:=ec.frozen;go_wp2;skip;obtain⟨W4,eW,ec',U⟩:=ec.put2 (.bool b5) (.slice A5 n5 c5) rfl rfl;rw[←eW];clear eW ec;replace p12:=p12.kd U.kd;replace hx3:=U.from_ hx3 Ai;have ec:=ec';clear U ec'
     go_meet
     case rel=>exact⟨gc,rfl,rfl,Bh.mk ec p12,hgc,hx3⟩
    case rest =>
     clear cr0 cr1 hLP;obtain⟨gc,rfl,rfl,⟨b,B,bn,bc,e8,hb⟩,hgc,hx3⟩:=hcut;have hgq:=eq.lt;have hgr:=er.lt;have hgg:=eg.lt;replace er:=er.ext hx3;replace eq:=eq.ext hx3;replace eg:=eg.ext hx3;replace hx:=hx.trans hx3;clear hx3;have hzk:Q k=0:=HR.out.1 k Aa;have hzv:R (k+pl G - 1)=(z:Rat)*ld G:=by
      rw[←HQ.out.2.2,HD.out.2.2,HD.out.2.1];exact HR.out.yes HX.out.2.2.2.1 (by rw[←HD.out.2.1];exact HD.out.1)
     have HZ:=Lib.hid (show EW F G K s t k (pad Q (mono k (z:Rat))) (psb R (cv (mono k (z:Rat)) G))∧Q k=0∧sz z.natAbs≤1099511627776∧(∀ j,sz (z*(G j).num).natAbs≤1099511627776)∧∀ n,sz (R n).num.natAbs≤1099511627776 from by
      have hl:=Dc HX.out.2.2.1 HX.out.2.2.2.2.1;have h1:qsz (z:Rat)≤qsz (R (k+pl G - 1)):=QF hl (HX.out.2.2.2.1 _) hzv;have h2:=HR.out.2.2.2.2.2.2 (k+pl G - 1);have h3:=HB.out.1 _ (show K - (k+1)≤K by omega) _ h2;have h4:sz z.natAbs≤qsz (z:Rat):=by rw[Ba];omega
      refine⟨HR.out.step HX.out.2.2.1 HX.out.2.2.2.2.1 HX.out.2.2.2.1 HX.out.2.2.2.2.2.2.2.2 hkK hzv,hzk,Aa,fun j=>?_,HQ.out.1⟩;have h5:=F6 (x:=z) (y:=(G j).num) h4 (HB.out.2.2.1 j);omega)
     clear hzk hzv;have Hb:=Lib.hid hb;clear hb;have hkl:k < (Df K Q).length:=by rw[AP];exact hkK
     have Hkl:=Lib.hid hkl;obtain⟨ce80,ce81⟩:=e8.cells2;have fe8:=e8.frozen;obtain⟨_,_,_,_,ca0,ca1,-⟩:=eq.at_ (j:=k) (by first | omega | (simp;omega));have fa0:=eq.frozen (k*2);have fa1:=eq.frozen (k*2+1);clear hkl;go_wp2;have hkl:=Hkl.out;have hb:=Hb.out;obtain⟨W7,eW,eq',U⟩:=eq.put (k:=k) (by first | omega | (simp;omega)) hb;rw[←eW];clear eW eq;replace hb:=hb.kd U.kd;replace er:=er.upd U Ai;replace eg:=eg.upd U Ai
     replace e8:=e8.upd U Ai;replace hx:=U.from_ hx Ai;have eq:=eq';clear U eq';rw[Oe (G:=pad Q (mono k (z:Rat))) (fun n=>VE HR.out.2.2.2.2.1 HZ.out.2.1 n)]at eq;have ec:=Bh.mk e8 hb;clear e8 hb Hb Hkl hkl ce80 ce81 fe8
     go_loopw [57] (fun jv wx=>∃ j:Nat,j≤L∧jv = .int .i64 j∧Cj wx w.heap.size 26 (Df P (DW k j (z:Rat) R G))∧Cj wx gq 26 (Df K (pad Q (mono k (z:Rat))))∧Cj wx gG 26 (Df L G)∧Bh wx gc 26 z∧Ext w wx) (fun jv _=>L - (intOf jv).toNat)
     case atStart=>exact⟨0,Nat.zero_le _,rfl,by rw[KN];exact er,eq,eg,ec,hx⟩
     case round =>
      clear er eq eg ec hx;obtain⟨j,hj,rfl,er,eq,eg,ec,hx⟩:=hrel;by_cases hjl:j < L
      ·obtain⟨y1,Y1,yn1,yc1,q0,q1,hy⟩:=eg.at_ (j:=j) (by rw[AP];exact hjl)
       rw[BX]at hy;have Hy:=Lib.hid hy;clear hy;have hne:=ec.lt;have hne2:=eq.lt
       go_wp2_with fail
       obtain⟨W10,eW10,e10,x10⟩:=Be.made wr 26 #[.bool y1,.slice Y1 yn1 yc1] (by simp[Ag]);rw[←eW10];clear eW10 q0 q1;have hy:=Hy.out.kd x10.kd;replace er:=er.ext x10;replace eq:=eq.ext x10;replace eg:=eg.ext x10;replace ec:=ec.ext x10;replace hx:=hx.trans x10;clear x10;obtain⟨b,B,bn,bc,e8,hb⟩:=ec;have hij:k+j < P:=by omega
       obtain⟨z1,Z1,zn1,zc1,ca0,ca1,hz⟩:=er.at_ (j:=k+j) (by rw[AP];exact hij);rw[BX,TN]at hz;obtain⟨rj,hrj⟩:∃ rj,rj=(R (k+j)).num:=⟨_,rfl⟩
       rw[←hrj]at hz;have Hrj:=Lib.hid hrj;clear hrj;have Hz':=Lib.hid (And.intro hz (And.intro hb hy));clear hz hb hy Hy;obtain⟨ce80,ce81⟩:=e8.cells2;have fe8:=e8.frozen;obtain⟨ce100,ce101⟩:=e10.cells2;have fe10:=e10.frozen
       go_wp2_with fail
       refine Ae 14 [62,63,64,65,66,67,68,69,70,71,72,73,74,75] [[],[],[],[1,2],[],[],[],[5,6],[4,5,6,7],[4,5,6,7,8],[],[],[10,11],[4,5,6,7,8,9,10,11,12],[0,1,2,3,4,5,6,7,8,9,10,11,12,13],[0,1,2,3,4,5,6,7,8,9,10,11,12,13,14]] [6,8,11,9,12] [_,_,_,_,_] [(kv ?_),(kv ?_),(kv ?_),(kv ?_),(kv ?_),(kv ?_),(kv ?_),(kv ?_),(kv ?_),(kv ?_),(kv ?_),(kv ?_),(fun γ=>γ 12),(fun γ=>γ 13)] (fun γ w'=>[True,True,True,True,True,True,True,True,True,True,True,True,AC w' (γ 12) (z*(G j).num),AC w' (γ 13) (rj - z*(G j).num)]) Bd Ah Ah Bb Ah Bc Bg ?hstep2 ?_
       case hstep2 =>
        iterate 14 refine⟨?_,?_⟩
        trivial
        iterate 12 focus
         intro γ w' he hf;clear hf;refine⟨by trivial,?_⟩;intro R hR;have hc:=he.cells;have cq0:=he.cell ca0;have cq1:=he.cell ca1;have cq2:=he.cell ce80;have cq3:=he.cell ce81;have cq4:=he.cell ce100;have cq5:=he.cell ce101;go_simp;(try go_ints);(try(rw[if_neg Aa]));(try(rw[if_pos Aa]));(try go_simp);(try go_ints)
         refine hR _ _ (Ext.refl _) ?_ trivial;rfl
        ·intro γ w' he hf;clear hf;refine⟨trivial,?_⟩;intro R hR
         go_simp;exact AX (Dh _ _ _ _ w' ((Hz'.out.2.1.kd he.kd).has HZ.out.2.2.1) ((Hz'.out.2.2.kd he.kd).has (by have h1:=HB.out.2.2.1 j;have h2:=HB.out.2.2.2;omega))) hR
        ·intro γ w' he hf;have f12:AC w' (γ 12) (z*(G j).num):=hf 12 Ab;clear hf;refine⟨trivial,?_⟩;intro R hR
         go_simp;exact AX (Zv _ _ _ _ w' ((Hz'.out.1.kd he.kd).has (by rw[Hrj.out];exact HZ.out.2.2.2.2 _)) (f12.has (HZ.out.2.2.2.1 j))) hR
       intro γ w6 hx6 hF;have p12:AC w6 (γ 12) (z*(G j).num):=Au.get hF 12 Ab;have p13:AC w6 (γ 13) (rj - z*(G j).num):=Au.get hF 13 Ab;clear hF;simp only[AZ,Nat.reduceAdd];generalize γ 12=g12 at *;generalize γ 13=g13 at *;clear γ;have hb:=Hz'.out.2.1.kd hx6.kd;clear p12 Hz' ca0 ca1 ce80 ce81 fe8 ce100 ce101 fe10 e10;replace er:=er.ext hx6;replace eq:=eq.ext hx6;replace eg:=eg.ext hx6;replace e8:=e8.ext hx6
       replace hx:=hx.trans hx6;clear hx6;obtain⟨b5,A5,n5,c5,rfl⟩:=p13.cells;have hkf:k+j < (Df P (DW k j (z:Rat) R G)).length:=by rw[AP];exact hij
       have Hkf:=Lib.hid hkf;have Hb:=Lib.hid hb;clear hb;obtain⟨_,_,_,_,ca0,ca1,-⟩:=er.at_ (j:=k+j) (by first | omega | (simp;omega));have fa0:=er.frozen ((k+j)*2);have fa1:=er.frozen ((k+j)*2+1);clear hkf;go_wp2;have hkf:=Hkf.out;have hb:=Hb.out;obtain⟨W9,eW,er',U⟩:=er.put (k:=k+j) (by first | omega | (simp;omega)) p13;rw[←eW];clear eW er;replace hb:=hb.kd U.kd;replace eq:=eq.upd U Ai;replace eg:=eg.upd U Ai
       replace e8:=e8.upd U Ai;replace hx:=U.from_ hx Ai;have er:=er';clear U er'
       go_roundw
       case rel=>exact⟨j+1,Aa,by go_num,by
        rw[Hrj.out,Oe (G:=DW k (j+1) (z:Rat) R G) (fun n=>VD HR.out.2.2.2.2.2.1 HX.out.2.2.2.1 n)]at er;exact er,eq,eg,Bh.mk e8 hb,hx⟩
       case measure=>simp[intOf];omega
      ·obtain rfl:L=j:=by omega
       rw[IV (AJ HX.out.2.2.1 |>.mono (by rw[←HP.out.2.1];exact Nat.le_refl _))]at er;go_wp2
       go_roundw
       case rel=>exact⟨k,_,_,Aa,by go_num,er,eq,eg,HZ.out.1,HSP.out.psb (((EL k _).cv (AJ HX.out.2.2.1)).mono (by have:=HP.out.2.1;omega)),hx⟩
       case measure=>simp[intOf]<;>omega
   ·have hno:¬ J8 F G:=HR.out.no HX.out.2.2.1 HX.out.2.2.2.2.1 HX.out.2.2.2.1 (by rw[←HQ.out.2.2,←hrv];exact hd)
    have HD:=Lib.hid (And.intro hd (And.intro hrv hno));clear hd hno
    go_wp2_with fail
    go_cut [9,10] (fun pv ev wx=>∃ gc,pv = .pointer (some ⟨gc,0,none⟩)∧ev = .int .i64 6∧Bh wx gc 26 0∧wr.heap.size≤gc∧Ext wr wx)
    case first =>
     refine BJ 15 13 1 [36,37,38,39,40,41,42,43,44,45,46,35,47,48,9] [[],[],[],[2],[1,2,3],[1,2,3,4],[0,1,2,3,4,5],[0,1,2,3,4,5,6],[],[8],[0,1,2,3,4,5,6,7,8,9],[0,1,2,3,4,5,6,7,8,9,10],[0,1,2,3,4,5,6,7,8,9,10,11],[0,1,2,3,4,5,6,7,8,9,10,11],[],[0,1,2,3,4,5,6,7,8,9,10,11,12,14],[0,1,2,3,4,5,6,7,8,9,10,11,12,13,14,15]] [6,8,1] [_,_,_] [(kv ?_),(kv ?_),(kv ?_),(kv ?_),(kv ?_),(kv ?_),(kv ?_),(kv ?_),(kv ?_),(fun γ=>γ 9),(fun γ=>γ 10),(fun γ=>γ 10),(fun γ=>γ 12),(kv ?_),(fun γ=>γ 14)] (fun γ w'=>[True,True,True,True,True,True,True,True,True,AC w' (γ 9) (ld G).num,ER w' (γ 10) 0 6,True,AC w' (γ 12) 0,True,AV w' (γ 14) wr.heap.size #[.bool false,.slice none 0 0] 26]) _ rfl Bd Ah Ah Ah Ah Ah Bb Ah Bc ?hmono3 ?hstep3 ?_ ?hlate3
     case hstep3 =>
      iterate 15 refine⟨?_,?_⟩
      trivial
      iterate 9 focus
       intro γ w' he hf;clear hf;refine⟨by trivial,?_⟩;intro R hR;have hc:=he.cells;have cq0:=he.cell cr0;have cq1:=he.cell cr1;go_simp;(try go_ints);(try(rw[if_neg Aa]));(try(rw[if_pos Aa]));(try go_simp);(try go_ints)
       refine hR _ _ (Ext.refl _) ?_ trivial;rfl
      ·intro γ w' he hf;clear hf;refine⟨trivial,?_⟩;intro R hR
       go_simp;exact AX (O9 _ w.heap.size G w' (Hz.out.2.ext he) HX.out.2.2.2.2.1) hR
      ·intro γ w' he hf;have f9:AC w' (γ 9) (ld G).num:=hf 9 Ab;clear hf;refine⟨trivial,?_⟩;intro R hR
       go_simp;exact AX (VZ _ _ _ _ w' ((Hz.out.1.kd he.kd).has (by rw[HD.out.2.1];exact HQ.out.1 _)) (f9.has HB.out.2.1) HQ.out.2.1 HD.out.1) hR
      ·intro γ w' he hf;clear hf;refine⟨trivial,?_⟩;intro R hR
       have hc:=he.cells;go_simp
       (try go_ints);(try(rw[if_neg Aa]));(try(rw[if_pos Aa]));(try go_simp);(try go_ints)
       refine hR _ _ (Ext.refl _) ?_ trivial;rfl
      ·intro γ w' he hf;have f10:ER w' (γ 10) 0 6:=hf 10 Ab;clear hf;refine⟨trivial,?_⟩;intro R hR
       obtain⟨a,e,ha⟩:=f10;go_simp;exact hR _ _ (Ext.refl _) rfl ha
      ·intro γ w' he hf;have f10:ER w' (γ 10) 0 6:=hf 10 Ab;clear hf;refine⟨trivial,?_⟩;intro R hR
       obtain⟨a,e,ha⟩:=f10;have hc:=he.cells;go_simp
       (try go_ints);(try(rw[if_neg Aa]));(try(rw[if_pos Aa]));(try go_simp);(try go_ints)
       refine hR _ _ (Ext.refl _) ?_ trivial;rfl
      ·intro γ w' he hf;clear hf;refine⟨trivial,?_⟩;intro R hR
       go_simp;exact hR _ _ ((Ext.refl _).alloc _) rfl (AV.mk (Nat.le_trans Ac he.size) (by simp[Ag]))
     case hmono3 =>
      exact⟨⟨⟨⟨⟨⟨⟨⟨⟨⟨⟨⟨⟨⟨⟨trivial,(fun γ wA w' e h=>h)⟩,(fun γ wA w' e h=>h)⟩,(fun γ wA w' e h=>h)⟩,(fun γ wA w' e h=>h)⟩,(fun γ wA w' e h=>h)⟩,(fun γ wA w' e h=>h)⟩,(fun γ wA w' e h=>h)⟩,(fun γ wA w' e h=>h)⟩,(fun γ wA w' e h=>h)⟩,(fun γ wA w' e h=>(show AC wA (γ 9) (ld G).num from h).ext e)⟩,(fun γ wA w' e h=>(show ER wA (γ 10) 0 6 from h).ext e)⟩,(fun γ wA w' e h=>h)⟩,(fun γ w w' e h=>AC.ext_ h e)⟩,(fun γ wA w' e h=>h)⟩,(fun γ wA w' e h=>(show AV wA (γ 14) wr.heap.size #[.bool false,.slice none 0 0] 26 from h).ext e)⟩
     case hlate3 =>
      intro γ w3 hx3 hF;have p9:AC w3 (γ 9) (ld G).num:=(Au.get hF 9 Ab).resolve_left Ab;have p10:ER w3 (γ 10) 0 6:=(Au.get hF 10 Ab).resolve_left Ab;have p12:AC w3 (γ 12) 0:=(Au.get hF 12 Ab).resolve_left Ab;have p14:AV w3 (γ 14) wr.heap.size #[.bool false,.slice none 0 0] 26:=(Au.get hF 14 Ab).resolve_left Ab;clear hF;simp only[AZ,Nat.reduceAdd,EB,Array.getD_eq_getD_getElem?,List.getElem?_toArray,List.getElem?_cons_succ,List.getElem?_cons_zero,Option.getD_some]
      generalize γ 9=g9 at *;generalize γ 10=g10 at *;generalize γ 12=g12 at *;generalize γ 14=g14 at *;clear γ;obtain⟨a10,rfl,-⟩:=p10;obtain⟨gc,rfl,hgc,ec⟩:=p14;obtain⟨b5,A5,n5,c5,rfl⟩:=p12.cells;clear cr0 cr1 p9 hLP;obtain⟨cec0,cec1⟩:=ec.cells2;have fec:=ec.frozen;go_wp2;refine⟨?_,trivial⟩;go_wp2;skip;obtain⟨W4,eW,ec',U⟩:=ec.put2 (.bool b5) (.slice A5 n5 c5) rfl rfl;rw[←eW];clear eW ec;replace p12:=p12.kd U.kd
      replace hx3:=U.from_ hx3 Ai;have ec:=ec';clear U ec'
      go_meet
      case rel=>exact⟨gc,rfl,rfl,Bh.mk ec p12,hgc,hx3⟩
     intro γ w3 hx3 hF;have p9:AC w3 (γ 9) (ld G).num:=Au.get hF 9 Ab;have p10:ER w3 (γ 10) 0 6:=Au.get hF 10 Ab;have p12:AC w3 (γ 12) 0:=Au.get hF 12 Ab;have p14:AV w3 (γ 14) wr.heap.size #[.bool false,.slice none 0 0] 26:=Au.get hF 14 Ab;clear hF;simp only[AZ,Nat.reduceAdd];generalize γ 9=g9 at *;generalize γ 10=g10 at *;generalize γ 12=g12 at *;generalize γ 14=g14 at *;clear γ;obtain⟨a10,rfl,-⟩:=p10
     obtain⟨gc,rfl,hgc,ec⟩:=p14;obtain⟨b5,A5,n5,c5,rfl⟩:=p12.cells;clear cr0 cr1 p9 hLP;obtain⟨cec0,cec1⟩:=ec.cells2;have fec:=ec.frozen;go_wp2;skip;obtain⟨W4,eW,ec',U⟩:=ec.put2 (.bool b5) (.slice A5 n5 c5) rfl rfl;rw[←eW];clear eW ec;replace p12:=p12.kd U.kd;replace hx3:=U.from_ hx3 Ai;have ec:=ec';clear U ec'
     go_meet
     case rel=>exact⟨gc,rfl,rfl,Bh.mk ec p12,hgc,hx3⟩
    case rest =>
     clear cr0 cr1 hLP;obtain⟨gc,rfl,rfl,-,-,hx3⟩:=hcut;go_wp2
     go_ret2
     exact Ad.mk ⟨fun h=>absurd h HD.out.2.2,fun _=>rfl⟩ (hx.trans hx3)
  ·obtain rfl:i=0:=by omega
   have hm1:((0:Nat):Int) - 1 = -1:=by omega
   rw[hm1];have hfR:=HR.out.fin;have hcR:cz (Df P R)=R:=EP HR.out.2.2.2.2.2.1 HSP.out;have hend:=HR.out.end_ HX.out.1 HX.out.2.2.1 HX.out.2.2.2.2.1;have hout:=HR.out.out HX.out.1 HX.out.2.2.1 HX.out.2.2.2.2.1;have hcQ:cz (Df K Q)=Q:=EP hend.2.2.2 hend.2.2.1;have hT2:=DY w.heap.size (some ⟨w.heap.size,0,none⟩) l.length (Df P R) wr (by rw[AP];exact hc1) Aa (er.row (Nat.le_refl _));have hT1:=DY w.heap.size (some ⟨gq,0,none⟩) K (Df K Q) wr (by rw[AP];exact Nat.le_refl _) Aa (eq.row Aa)
   rw[AP]at hT1 hT2;rw[Gp,hcR]at hT2;have HE:=Lib.hid (And.intro (eq.row (base:=w.heap.size) Aa) (And.intro hcQ (And.intro hend (And.intro hout hfR))));clear er eq eg hm1 hcR hcQ hend hout hfR
   go_wp2_with fail
   refine Calls.mono hT2 ?_;rintro e w3 ⟨rfl,rfl⟩;by_cases hz:R=pz
   ·have h0:pl R=0:=by rw[hz,BV]
    have hyes:=HE.out.2.2.2.1.2 hz;have HY:=Lib.hid hyes;clear hz hyes;rw[h0]
    go_wp2_with fail
    refine Calls.mono hT1 ?_;rintro e w3 ⟨rfl,rfl⟩;go_wp2
    go_ret2
    exact Ad.mk ⟨fun _=>⟨_,rfl,by
     rw[←HE.out.2.2.1.1];exact AQ.of_trim (Ll.trim HE.out.1 (by rw[AP];exact Nat.le_refl _) Aa) HE.out.2.1⟩,fun h=>absurd HY.out h⟩ hx
   ·have h0:0 < pl R:=AY HE.out.2.2.2.2 hz
    have hno:¬ J8 F G:=fun h=>hz (HE.out.2.2.2.1.1 h);have HY:=Lib.hid hno;clear hz hno;go_wp2
    go_ret2
    exact Ad.mk ⟨fun h=>absurd h HY.out,fun _=>rfl⟩ hx
theorem UM(v u:Value)(F G:Nat→Rat)(s t:Nat)(w:World)(hv:AQ 0 w v F)(hu:AQ 0 w u G)(hs:∀ i,qsz (F i)≤s)(ht:∀ i,qsz (G i)≤t)(hn:pl F≤549755813888)(hm:pl G≤549755813888)(h0:G≠pz)(hst:s+(pl F+2)*(t+1)+t≤1099511627776) :
  Calls Tryz.prog 88 #[v,u] w (Ad w (Zk w.heap.size F G)):=by
 obtain⟨l,h1,h2,-,rfl⟩:=hv.hz (fun i=>by have:=hs i;omega);obtain⟨m,k1,k2,-,rfl⟩:=hu.hz (fun i=>by have:=ht i;omega);exact UV v u l m s t w h1 k1 hs ht Aa Aa h0 (by rw[h2];exact hst)
end Go.Proofs.YtmhgnigpmompmaaGreat
namespace Go.Hp
open Go.RowKit
theorem AC.inj{w:World}{v:Value}{x y:Int}(h:AC w v x)(k:AC w v y):x=y:=by
 obtain⟨n,ds,⟨s,rfl,hd⟩,rfl,-⟩:=h;obtain⟨m,es,⟨t,e,he⟩,rfl,-⟩:=k;cases e;rw[hd.uniq he]
theorem Bh.inj{w:World}{g:Nat}{t:TypeId}{x y:Int}(h:Bh w g t x)(k:Bh w g t y):x=y:=by
 obtain⟨b,A,n,c,h1,h2⟩:=h;obtain⟨b',A',n',c',k1,k2⟩:=k;have e:=h1.1.symm.trans k1.1;cases e;exact h2.inj k2
noncomputable def dG(w:World)(g:Nat)(t:TypeId):Nat:=open Classical in if h:∃ x,Bh w g t x then(Classical.choose h).natAbs else 0
theorem KG{w:World}{g:Nat}{t:TypeId}{x:Int}(h:Bh w g t x):dG w g t=x.natAbs:=by
 have hx:∃ x,Bh w g t x:=⟨x,h⟩
 unfold dG;rw[dif_pos hx,(Classical.choose_spec hx).inj h]
theorem GG(n:Nat):sz ((2:Int)^n).natAbs≤1+n:=by
 have:=IP 2 1 Ab n;omega
theorem Qb(i:Nat)(hi:i < 9223372036854775808):bits BinOp.and IntKind.i64 (i:Int) 1=((i % 2:Nat):Int):=Go.Proofs.and_one i hi
theorem Oj{x y z:Int}(h:x*y=z)(hy:y≠0:=by decide):sz x.natAbs≤sz z.natAbs:=by
 refine Bf ?_;rw[←h,Int.natAbs_mul];exact Nat.le_mul_of_pos_right _ Aa
theorem Us(n j:Nat):(2:Int)^(n / 2^(j+1))*2^(n / 2^(j+1))*(if n / 2^j % 2=1 then 2 else 1)=2^(n / 2^j):=by
 have e:n / 2^(j+1)=n / 2^j / 2:=by rw[Nat.pow_succ,Nat.div_div_eq_div_mul]
 rw[e];generalize n / 2^j=m
 split
 ·rename_i h
  rw[←Int.pow_add,←Int.pow_succ];congr 1;omega
 ·rename_i h
  rw[←Int.pow_add,Int.mul_one];congr 1;omega
end Go.Hp
namespace Go.Proofs.YtmhgnigpmompmaaGreat
open Go.RowKit Go.Hp
set_option maxRecDepth 20000 in
set_option maxHeartbeats 8000000 in
theorem RJ(v:Value)(n:Nat)(w:World)(hv:Bj w v 2)(hn:n < 65536):Calls Tryz.prog 176 #[v,.int .i64 (n:Nat)] w (Ad w fun r w'=>ER w' r (2^n) 0):=by
 have HV:=Lib.hid hv;obtain⟨b1,A1,n1,c1,rfl⟩:=hv.cells;clear hv;have hL:=Lib.bitLen_le n 16 Ab Aa;have HL:=Lib.hid (G5 n n (Nat.le_refl _) Aa).1
 go_enter Tryz.func176,Tryz.ntmps176
 go_wp2_with fail
 refine Calls.mono (Sw _ 2 _ (HV.out.ext (((Ext.refl w).alloc _).alloc _))) ?_;rintro e w1 ⟨r1,rfl,⟨b,rfl,hb⟩,hx1⟩;obtain rfl:b=2:=hb.uniq ⟨Ab,fun _=>Ab⟩;clear hb;have ea:=((Be.new w 26 #[.bool b1,.slice A1 n1 c1] (by simp[Ag])).alloc (.cells #[.bool false,.slice none 0 0] 26)).ext hx1;have ez:=(Be.new (w.alloc (.cells #[.bool b1,.slice A1 n1 c1] 26)) 26 #[.bool false,.slice none 0 0] (by simp[Ag])).ext hx1
 rw[World.size_alloc]at ez;have hx:=hx1.a2;clear hx1
 go_wp2_with fail
 refine Calls.mono (Ji 1 _ Aa Aa) ?_;rintro e w2 ⟨r2,rfl,hr2,hx2⟩;obtain⟨b5,A5,n5,c5,rfl⟩:=hr2.cells;replace ea:=ea.ext hx2;replace ez:=ez.ext hx2;obtain⟨W0,eW,eb,x0⟩:=Be.made w2 26 #[.bool b5,.slice A5 n5 c5] (by simp[Ag]);have hb:=hr2.kd x0.kd;replace ea:=ea.ext x0;have hgb:=ez.lt;replace ez:=ez.ext x0;replace hx:=(hx.trans hx2).trans x0;have Hb:=Lib.hid hb;clear hr2 hb hx2
 go_wp2_with (go_at_call 190;refine(V7 _ _ Aa).mono ?_;rintro e w' ⟨rfl,rfl⟩)
 rw[←eW];clear eW x0;generalize w2.heap.size=gb at *
 go_loopw [8] (fun iv wr=>∃ (j:Nat),j≤Lib.bitLen n∧iv = .int .i64 ((j:Int) - 1)∧Be wr w.heap.size 26 #[.bool b1,.slice A1 n1 c1]∧Be wr (w.heap.size+1) 26 #[.bool false,.slice none 0 0]∧Bh wr gb 26 (2^(n / 2^j))∧Ext w wr) (fun iv _=>(intOf iv+1).toNat)
 case atStart=>exact⟨Lib.bitLen n,Nat.le_refl _,rfl,ea,ez,by rw[Nat.div_eq_of_lt HL.out];exact Bh.mk eb Hb.out,hx⟩
 case round =>
  clear ea ez eb hx Hb;obtain⟨j,hj,rfl,ea,ez,⟨b6,A6,n6,c6,eb,hb⟩,hx⟩:=hrel;have Hb:=Lib.hid hb;clear hb;rcases j with _ | j
  ·have e1:(((0:Nat):Int) - 1) = -1:=rfl
   rw[e1];clear e1;obtain⟨cez0,cez1⟩:=ez.cells2;have fez:=ez.frozen;obtain⟨ceb0,ceb1⟩:=eb.cells2;have feb:=eb.frozen;have hr:=Hb.out;go_wp2;obtain⟨W3,eW,ez',U⟩:=ez.put2 (.bool b6) (.slice A6 n6 c6) rfl rfl;rw[←eW];clear eW ez;replace hr:=hr.kd U.kd;replace hx:=U.from_ hx Ai;have ez:=ez';clear U ez';clear cez0 cez1 fez;obtain⟨cez0,cez1⟩:=ez.cells2;have fez:=ez.frozen;refine bodyPost_ret (v := .tuple #[.agg #[.bool b6,.slice A6 n6 c6],.int .i64 0]) (by simp[results,Tryz.results176,go_sem,cez0,cez1]) rfl ?_
   exact Ad.mk ⟨_,rfl,by simpa using hr⟩ hx
  ·have e1:(((j+1:Nat):Int) - 1)=(j:Nat):=by omega
   rw[e1];clear e1;have hsz:∀ m,m≤n→sz ((2:Int)^m).natAbs≤100000:=fun m hm=>by have:=GG m;omega
   have hd1:n / 2^(j+1)≤n:=Nat.div_le_self _ _;have hd2:n / 2^j≤n:=Nat.div_le_self _ _;have HS:=Lib.hid (And.intro (hsz _ hd1) (And.intro (hsz _ hd2) (Us n j)));clear hsz hd1 hd2;obtain⟨ceb0,ceb1⟩:=eb.cells2;have feb:=eb.frozen
   go_wp2_with fail
   refine Calls.mono (Dh _ _ _ _ _ (Hb.out.has (by have:=HS.out.1;omega)) (Hb.out.has (by have:=HS.out.1;omega))) ?_;rintro e w2 ⟨r2,rfl,hr2,hx2⟩;obtain⟨b7,A7,n7,c7,rfl⟩:=hr2.cells;clear Hb ceb0 ceb1 feb;replace ea:=ea.ext hx2;replace ez:=ez.ext hx2;replace eb:=eb.ext hx2;replace hx:=hx.trans hx2;clear hx2;obtain⟨ceb0,ceb1⟩:=eb.cells2;have feb:=eb.frozen
   go_upto_region 13 with(fail)
   obtain⟨W3,eW,eb',U⟩:=eb.put2 (.bool b7) (.slice A7 n7 c7) rfl rfl;rw[←eW];clear eW eb;replace hr2:=hr2.kd U.kd;replace ea:=ea.upd U Ai;replace ez:=ez.upd U Ai;replace hx:=U.from_ hx Ai;have eb:=eb';clear U eb';have Hb:=Lib.hid hr2;clear hr2;obtain⟨q,hq⟩:∃ q,q=n / 2^j:=⟨_,rfl⟩
   have hqi:(n:Int) / 2^j=(q:Nat):=by rw[hq];simp
   have hq9:q≤n:=by rw[hq];exact Nat.div_le_self _ _
   have hbit:=Qb q Aa;have Hq:=Lib.hid HS.out.2;rw[←hq]at Hq;have HQ:=Lib.hid hq;clear HS hq;by_cases hodd:q % 2=1
   ·rw[hodd]at hbit
    have hp:=Hq.out.2;rw[if_pos hodd]at hp;have Hp:=Lib.hid hp;clear hp hodd;obtain⟨cea0,cea1⟩:=ea.cells2;have fea:=ea.frozen;obtain⟨ceb0,ceb1⟩:=eb.cells2;have feb:=eb.frozen
    go_wp2_with fail
    refine Calls.mono (Dh _ _ _ 2 _ (Hb.out.has (Nat.le_trans (Oj Hp.out) (by have:=Hq.out.1;omega))) (HV.out.ext hx)) ?_;rintro e w4 ⟨r4,rfl,hr4,hx4⟩;rw[Hp.out]at hr4;obtain⟨b8,A8,n8,c8,rfl⟩:=hr4.cells;clear Hb cea0 cea1 fea ceb0 ceb1 feb;replace ea:=ea.ext hx4;replace ez:=ez.ext hx4;replace eb:=eb.ext hx4;replace hx:=hx.trans hx4;clear hx4;obtain⟨ceb0,ceb1⟩:=eb.cells2;have feb:=eb.frozen;go_wp2;obtain⟨W5,eW,eb',U⟩:=eb.put2 (.bool b8) (.slice A8 n8 c8) rfl rfl
    rw[←eW];clear eW eb;replace hr4:=hr4.kd U.kd;replace ea:=ea.upd U Ai;replace ez:=ez.upd U Ai;replace hx:=U.from_ hx Ai;have eb:=eb';clear U eb'
    go_roundw
    case rel=>exact⟨j,Aa,by go_num,ea,ez,by rw[←HQ.out];exact Bh.mk eb hr4,hx⟩
    case measure=>simp[intOf]<;>omega
   ·rw[show q % 2=0 by omega]at hbit
    have hp:=Hq.out.2;rw[if_neg hodd,Int.mul_one]at hp;have hr4:=Hb.out;rw[hp]at hr4;clear hp Hb Hq;go_wp2
    go_roundw
    case rel=>exact⟨j,Aa,by go_num,ea,ez,by rw[←HQ.out];exact Bh.mk eb hr4,hx⟩
    case measure=>simp[intOf]<;>omega
end Go.Proofs.YtmhgnigpmompmaaGreat
namespace Go.Hp
open Go
def Xp(φ:Nat→Prop):List Nat→Prop
 | []=>True
 | x::xs=>φ x∧Xp φ xs
theorem Xp.get{φ:Nat→Prop}:∀ {l:List Nat},Xp φ l→∀ x∈l,φ x
 | _::_,h,x,hx=>by
  rcases List.mem_cons.1 hx with rfl | hx
  ·exact h.1
  ·exact h.2.get x hx
def BR(P:Program)(ops:Array Oper)(Q:Exit→Act→World→Prop)(x:Nat)(K:Act→World→Prop)(a:Act)(w:World):Prop:=
 wpList P ops (Exit.then K Q) ((ops.toList.drop x).take 1) a w
def Bp(P:Program)(ops:Array Oper)(Q:Exit→Act→World→Prop)(dl:Nat→Nat):Nat→List Nat→Nat→Act→World→Prop
 | _,[],m,a,w=>wpList P ops Q (ops.toList.drop m) a w
 | 0,_::_,_,_,_=>False
 | f+1,p::ps,m,a,w=>Xp (fun x=>BR P ops Q x (Bp P ops Q dl f ((p::ps).erase x) m) a w) (p::ps) ∧
   ((Nat.blt m ops.size&&(p::ps).all fun x=>Nat.blt m (dl x))=true→BR P ops Q m (Bp P ops Q dl f (p::ps) (m+1)) a w)
def DK(a0:Act)(D:List Nat):List Nat→Act→Act
 | [],a=>a
 | p::ps,a=>DK a0 D ps (a.put (some (D.getD p 0)) (a0.tmps.getD (D.getD p 0) undef))
section
variable{P:Program}{ops:Array Oper}{Q:Exit→Act→World→Prop}{a0:Act}{W0:World}
 {k:Nat} {Λ:List Nat} {D:List Nat} {T:List (List Nat)} {EK:List Nat} {EV:List Value} {V:(Nat→Value)→Nat→Value} {F:Nat→(Nat→Value)→World→Prop}
theorem Lh{i:Nat}(hi:i < ops.size){K:Act→World→Prop}{a:Act}{w:World}(h:BR P ops Q i K a w):wpOp P ops Q i K a w:=by
 have e:(ops.toList.drop i).take 1=[ops[i]]:=by
  rw[List.drop_eq_getElem_cons (by simpa using hi)];simp
 unfold BR at h;rw[e]at h;unfold wpOp;rw[Array.getElem?_eq_getElem hi];exact L8 h
theorem QN{dl:Nat→Nat}(c:JR ops k D T EK Λ)(hΛ:∀ j∈Λ,j < k)(hdl:∀ x∈Λ,∀ i,dl x≤i→i < ops.size→x∈T.getD i [])
  (hind:∀ x∈Λ,∀ o,ops[x]? = some o→∀ e∈o.after,Region.binds .any e=true→e.on∉Λ) :
  ∀(f m fuel:Nat) (pend:List Nat) (L:Array Bool) (a:Act) (w:World),pend.Nodup→(∀ x∈pend,x∈Λ)→m≤ops.size→pend.length+(ops.size - m)≤f→f≤fuel→k≤m→L.size=ops.size →
  (∀ j,j < m→j∉pend→L.getD j false=true)→(∀ x∈pend,L.getD x false=false)→(∀ j,m≤j→L.getD j false=false) →
  (∀ i o,L.getD i false=true→ops[i]? = some o→∀ e∈o.after,Region.binds .any e=true→L.getD e.on false=true)→Bp P ops Q dl f pend m a w→wpAny P .any ops Q fuel L a w:=by
 have hck:=c.hk;have hΛ':∀ j∈Λ,j < k∨ops.size≤j:=fun j hj => .inl (hΛ j hj);intro f;induction f with
 | zero =>
  intro m fuel pend L a w hnd hp hm hf hfu hk hL hlo hpe hhi hcl h;have he:pend=[]:=List.length_eq_zero_iff.1 Aa;subst he;exact Di c hΛ' (ops.size - m) m fuel L a w Aa Aa hk hL (fun j hj=>hlo j hj Ac) hhi h
 | succ f ih =>
  intro m fuel pend L a w hnd hp hm hf hfu hk hL hlo hpe hhi hcl h
  match pend,hnd,hp,hf,hlo,hpe,h with
  | [],hnd,hp,hf,hlo,hpe,h =>
   exact Di c hΛ' (ops.size - m) m fuel L a w Aa (by simp at hf;omega) hk hL (fun j hj=>hlo j hj Ac) hhi h
  | p::ps,hnd,hp,hf,hlo,hpe,h =>
   obtain⟨h1,h2⟩:=h;obtain⟨fuel,rfl⟩:∃ g,fuel=g+1:=⟨fuel - 1,Aa⟩
   have hun:∀ j,j < ops.size→L.getD j true=L.getD j false:=fun j hj=>by
    rw[Array.getD_eq_getD_getElem?,Array.getD_eq_getD_getElem?,Array.getElem?_eq_getElem Aa];rfl
   have hps:p < ops.size:=by have:=hΛ p (hp p Ac);omega
   have hready:∀ x∈p::ps,∀ o,ops[x]? = some o→∀ e∈o.after,Region.binds .any e=true→L.getD e.on false=true:=fun x hx o ho e he hb =>
    hlo _ (by have:=c.edges x o ho e he hb;have:=hΛ x (hp x hx);omega) fun hm'=>hind x (hp x hx) o ho e he hb (hp _ hm')
   have hpr:p∈Region.ready .any ops L:=Ct.2 ⟨hps,by rw[hun p hps];exact hpe p Ac,_,Array.getElem?_eq_getElem hps,fun e he hb=>hready p Ac _ (Array.getElem?_eq_getElem hps) e he hb⟩;refine⟨fun h0=>(by rw[h0]at hpr;cases hpr),fun i hi=>?_⟩;obtain⟨i1,i2,o,ho,hed⟩:=Ct.1 hi;have hLs:i < L.size:=by omega
   by_cases hip:i∈p::ps
   ·refine wpOp_mono (fun a w hw=>?_) (Lh i1 (h1.get i hip))
    have hlen:((p::ps).erase i).length=(p::ps).length - 1:=List.length_erase_of_mem hip;refine ih m fuel _ _ a w (hnd.erase i) (fun x hx=>hp x (List.mem_of_mem_erase hx)) hm (by rw[hlen];simp at hf ⊢;omega) Aa hk (by simpa using hL) (fun j hj hne=>?_) (fun x hx=>?_) (fun j hj=>?_) (fun j oj hj hoj e he hb=>?_) hw
    ·rw[Bo hLs]
     split
     ·rfl
     ·rename_i hij
      exact hlo j hj fun hm'=>hne ((List.mem_erase_of_ne (fun e=>hij e.symm)).2 hm')
    ·rw[Bo hLs,if_neg (fun e=>by subst e;exact(hnd.not_mem_erase) hx)]
     exact hpe x (List.mem_of_mem_erase hx)
    ·rw[Bo hLs,if_neg (by have:=hΛ i (hp i hip);omega)]
     exact hhi j hj
    ·rw[Bo hLs]at hj ⊢
     split
     ·rfl
     ·split at hj
      ·rename_i hij
       subst hij;rw[ho]at hoj;cases hoj;exact hed e he hb
      ·exact hcl j oj hj hoj e he hb
   ·have hmi:i=m:=by
     rcases Nat.lt_trichotomy i m with h' | h' | h'
     ·rw[hun i i1,hlo i h' hip]at i2;cases i2
     ·exact h'
     ·exfalso
      have hT:=c.tail i Aa i1 m h' (fun hm'=>by have:=hΛ m hm';omega);have:=c.up hcl i o ho hed m hT;rw[hhi m (Nat.le_refl _)]at this;cases this
    subst hmi;have hdead:∀ x∈p::ps,i < dl x:=fun x hx=>by
     rcases Nat.lt_or_ge i (dl x)with h' | h'
     ·exact h'
     ·exfalso
      have:=c.up hcl i o ho hed x (hdl x (hp x hx) i h' i1);rw[hpe x hx]at this;cases this
    have hb:(Nat.blt i ops.size&&(p::ps).all fun x=>Nat.blt i (dl x))=true:=by
     rw[Bool.and_eq_true,List.all_eq_true];exact⟨by simpa[Nat.blt_eq] using i1,fun x hx=>by simpa[Nat.blt_eq] using hdead x hx⟩
    refine wpOp_mono (fun a w hw=>?_) (Lh i1 (h2 hb));refine ih (i+1) fuel _ _ a w hnd hp Aa (by simp at hf ⊢;omega) Aa Aa (by simpa using hL) (fun j hj hne=>?_) (fun x hx=>?_) (fun j hj=>?_) (fun j oj hj hoj e he hb=>?_) hw
    ·rw[Bo hLs]
     split
     ·rfl
     ·exact hlo j Aa hne
    ·rw[Bo hLs,if_neg (fun e=>by subst e;exact hip hx)]
     exact hpe x hx
    ·rw[Bo hLs,if_neg Aa]
     exact hhi j Aa
    ·rw[Bo hLs]at hj ⊢
     split
     ·rfl
     ·split at hj
      ·rename_i hij
       subst hij;rw[ho]at hoj;cases hoj;exact hed e he hb
      ·exact hcl j oj hj hoj e he hb
theorem JA(a0:Act)(D:List Nat):∀(l:List Nat) (a:Act) (t:Nat),(DK a0 D l a).defers=a.defers∧(DK a0 D l a).tmps.size=a.tmps.size ∧
  ((∃ p∈l,D.getD p 0=t)→t < a.tmps.size→(DK a0 D l a).tmps[t]? = some (a0.tmps.getD t undef))∧((∀ p∈l,D.getD p 0≠t)→(DK a0 D l a).tmps[t]? = a.tmps[t]?)
 | [],a,t=>⟨rfl,rfl,fun h=>(by obtain⟨_,h,_⟩:=h;cases h),fun _=>rfl⟩
 | p::ps,a,t=>by
  obtain⟨h1,h2,h3,h4⟩:=JA a0 D ps (a.put (some (D.getD p 0)) (a0.tmps.getD (D.getD p 0) undef)) t;have hsz:(a.put (some (D.getD p 0)) (a0.tmps.getD (D.getD p 0) undef)).tmps.size=a.tmps.size:=by simp[Act.put]
  refine⟨h1.trans rfl,h2.trans hsz,fun⟨q,hq,e⟩ ht=>?_,fun hn=>?_⟩
  ·by_cases hx:∃ p∈ps,D.getD p 0=t
   ·exact h3 hx (by rw[hsz];exact ht)
   ·have e2:D.getD p 0=t:=by
     rcases List.mem_cons.1 hq with rfl | hq
     ·exact e
     ·exact absurd ⟨q,hq,e⟩ hx
    show(DK a0 D ps _).tmps[t]? = _;rw[h4 fun p' hp' e'=>hx ⟨p',hp',e'⟩];show(a.tmps.setIfInBounds (D.getD p 0) (a0.tmps.getD (D.getD p 0) undef))[t]? = _;rw[e2,Array.getElem?_setIfInBounds,if_pos rfl,if_pos ht]
  ·show(DK a0 D ps _).tmps[t]? = _
   rw[h4 fun p' hp'=>hn p' (List.mem_cons_of_mem _ hp')];show(a.tmps.setIfInBounds (D.getD p 0) (a0.tmps.getD (D.getD p 0) undef))[t]? = _;rw[Array.getElem?_setIfInBounds_ne (hn p Ac)]
theorem PM(c:JR ops k D T EK Λ)(hD:∀ d∈D,d < a0.tmps.size){Pn:List Nat}(hk:∀ p∈Pn,p < k){γ:Nat→Value}{L:Array Bool}{a:Act}{w:World}(h:Pw ops a0 W0 k D T V F γ L a w)
  (hall:∀ i,i < k→i∉Pn→L.getD i false=true) (hl:∀ p∈Pn,L.getD p false=false):a=DK a0 D Pn (AO a0 (Bi T V γ) 0 D):=by
 obtain⟨f1,f2,f3,f4⟩:=FY (Bi T V γ) D 0 a0;have hg:∀ m,(hm:m < D.length)→D.getD m 0=D[m]:=fun m hm=>by rw[List.getD_eq_getElem?_getD,List.getElem?_eq_getElem hm];rfl
 have ht:a.tmps=(DK a0 D Pn (AO a0 (Bi T V γ) 0 D)).tmps:=by
  apply Array.ext_getElem?
  intro t;obtain⟨u1,u2,u3,u4⟩:=JA a0 D Pn (AO a0 (Bi T V γ) 0 D) t;by_cases hp:∃ p∈Pn,D.getD p 0=t
  ·obtain⟨p,hpp,e⟩:=hp
   have hpk:=hk p hpp;have hpD:p < D.length:=by rw[c.hlen];exact hpk
   have hts:t < a0.tmps.size:=by rw[←e];exact hD _ (by rw[hg p hpD];exact List.getElem_mem hpD)
   rw[u3 ⟨p,hpp,e⟩ (by rw[f2];exact hts)];rw[h.other t fun i hi hil e2=>by
    by_cases hij:i=p
    ·rw[hij,hl p hpp]at hil;cases hil
    ·exact c.dist i p hi hpk hij (by rw[e2,e])]
   rw[Array.getD_eq_getD_getElem?,Array.getElem?_eq_getElem hts];rfl
  ·rw[u4 fun p hpp e=>hp ⟨p,hpp,e⟩]
   by_cases hm:t∈D
   ·obtain⟨j,hj,e⟩:=List.getElem_of_mem hm
    have hjk:j < k:=by rw[←c.hlen];exact hj
    have hjP:j∉Pn:=fun hj'=>hp ⟨j,hj',by rw[hg j hj];exact e⟩;have h1:=h.mine j hjk (hall j hjk hjP);rw[hg j hj]at h1;have h2:=f4 j hj (fun m hm hjm=>by
     have:=c.dist m j (by rw[←c.hlen];exact hm) hjk Aa;rwa[hg m hm,hg j hj]at this) (hD _ (List.getElem_mem hj))
    rw[←e,h1,h2,Nat.zero_add]
   ·rw[f3 t hm]
    refine h.other t fun i hi _ e=>hm ?_;have hlt:i < D.length:=by rw[c.hlen];exact hi
    rw[←e,hg i hlt];exact List.getElem_mem hlt
 have hd:a.defers=(DK a0 D Pn (AO a0 (Bi T V γ) 0 D)).defers:=h.defers.trans (f1.symm.trans (JA a0 D Pn _ 0).1.symm);cases a;generalize DK a0 D Pn (AO a0 (Bi T V γ) 0 D)=b at *;cases b;simp only at ht hd;rw[ht,hd]
theorem Rz{dl:Nat→Nat}(c:JR ops k D T EK Λ)(hsub:Λ.Sublist (List.range k))(hdl:∀ x∈Λ,∀ i,dl x≤i→i < ops.size→x∈T.getD i [])
  (hind:∀ x∈Λ,∀ o,ops[x]? = some o→∀ e∈o.after,Region.binds .any e=true→e.on∉Λ) (hE:Jj a0 EK EV) (hD:∀ d∈D,d < a0.tmps.size) (hmono:∀ i γ w w',i < k→Ext w w'→F i γ w→F i γ w')
  (hstep:∀ i,i < k→Wu P ops EK EV W0 D T V F i)
  (htail:∀ γ w,Ext W0 w→(∀ i,i < k→F i (EF (i::T.getD i []) γ) w)→(∀ i j,i < k→j < k→i≠j→Eo ops i→Eo ops j→Bi T V γ i≠Bi T V γ j)→wpList P ops Q (ops.toList.drop k) (AO a0 (Bi T V γ) 0 D) w)
  (hlate:∀ Pn,Pn.Sublist Λ→Pn≠[]→∀ γ w,Ext W0 w→(∀ i,i < k→i∉Pn→F i (EF (i::T.getD i []) γ) w)→(∀ i j,i < k→j < k→i≠j→i∉Pn→j∉Pn→Eo ops i→Eo ops j→Bi T V γ i≠Bi T V γ j)→Bp P ops Q dl (Pn.length+(ops.size - k)) Pn k (DK a0 D Pn (AO a0 (Bi T V γ) 0 D)) w) :
  ∀(fuel:Nat) (γ:Nat→Value) (L:Array Bool) (a:Act) (w:World),(List.range ops.size).countP (fun i=>!L.getD i false)≤fuel→Pw ops a0 W0 k D T V F γ L a w→wpAny P .any ops Q fuel L a w:=by
 have hΛk:∀ j∈Λ,j < k:=fun j hj=>List.mem_range.1 (hsub.subset hj);intro fuel;induction fuel with
 | zero =>
  intro γ L a w hf h;have hall:∀ i,i < ops.size→L.getD i false=true:=by
   intro i hi;have:=List.countP_eq_zero.1 (Nat.le_zero.1 hf) i (List.mem_range.2 hi);simpa using this
  have hks:k=ops.size:=by
   rcases Nat.lt_or_ge k ops.size with hlt | hge
   ·have h1:=hall k hlt
    rw[h.low k (Nat.le_refl _)]at h1;cases h1
   ·exact Nat.le_antisymm c.hk hge
  have ha:a=AO a0 (Bi T V γ) 0 D:=Iw c hD h (fun i hi=>hall i (Nat.lt_of_lt_of_le hi c.hk));rw[ha];exact Di c (fun j hj => .inl (hΛk j hj)) 0 k 0 L _ w Aa (Nat.le_refl _) (Nat.le_refl _) h.size (fun j hj=>hall j Aa) (fun j hj=>h.low j hj) (htail γ w h.ext (fun i hi=>h.facts i hi (hall i Aa)) fun i j hi hj hne=>h.apart i j hi hj hne (hall i Aa) (hall j Aa))
 | succ fuel ih =>
  intro γ L a w hf h;by_cases hall:∀ i,i < k→L.getD i false=true
  ·have ha:a=AO a0 (Bi T V γ) 0 D:=Iw c hD h hall
   have hcount:ops.size - k≤fuel+1:=by
    refine Nat.le_trans ?_ hf;have:(List.range' k (ops.size - k)).countP (fun i=>!L.getD i false)=ops.size - k:=by
     have h1:(List.range' k (ops.size - k)).countP (fun i=>!L.getD i false)=(List.range' k (ops.size - k)).length:=by
      rw[List.countP_eq_length];intro i hi;rw[List.mem_range'_1]at hi;simp[h.low i hi.1]
     rw[h1,List.length_range']
    rw[←this];have hsub:(List.range' k (ops.size - k)).Sublist (List.range ops.size):=by
     rw[Ec ops.size k c.hk];exact List.sublist_append_right _ _
    exact hsub.countP_le
   rw[ha];exact Di c (fun j hj => .inl (hΛk j hj)) (ops.size - k) k (fuel+1) L _ w (by have:=c.hk;omega) hcount (Nat.le_refl _) h.size hall (fun j hj=>h.low j hj) (htail γ w h.ext (fun i hi=>h.facts i hi (hall i hi)) fun i j hi hj hne=>h.apart i j hi hj hne (hall i hi) (hall j hj))
  ·have hun:∀ j,j < ops.size→L.getD j true=L.getD j false:=fun j hj=>by
    rw[Array.getD_eq_getD_getElem?,Array.getD_eq_getD_getElem?,Array.getElem?_eq_getElem (by rw[h.size];exact hj)];rfl
   by_cases hlc:∀ i,i < k→i∉Λ→L.getD i false=true
   ·obtain⟨Pn,hPn⟩:∃ Pn,Pn=Λ.filter fun p=>!L.getD p false:=⟨_,rfl⟩
    have hmem:∀ p,p∈Pn↔p∈Λ∧L.getD p false=false:=fun p=>by rw[hPn,List.mem_filter];simp
    have hPs:Pn.Sublist Λ:=by rw[hPn];exact List.filter_sublist
    have hPk:∀ p∈Pn,p < k:=fun p hp=>hΛk p (hPs.subset hp);have hne:Pn≠[]:=fun e=>hall fun i hi=>by
     by_cases hiΛ:i∈Λ
     ·cases hx:L.getD i false with
      | true=>rfl
      | false =>
       have:=(hmem i).2 ⟨hiΛ,hx⟩;rw[e]at this;cases this
     ·exact hlc i hi hiΛ
    have hll:∀ i,i < k→i∉Pn→L.getD i false=true:=fun i hi hn=>by
     by_cases hiΛ:i∈Λ
     ·cases hx:L.getD i false with
      | true=>rfl
      | false=>exact absurd ((hmem i).2 ⟨hiΛ,hx⟩) hn
     ·exact hlc i hi hiΛ
    have hl0:∀ p∈Pn,L.getD p false=false:=fun p hp=>((hmem p).1 hp).2;have ha:=PM c hD hPk h hll hl0;have hnd:Pn.Nodup:=(hPs.trans hsub).nodup List.nodup_range;have hcount:Pn.length+(ops.size - k)≤fuel+1:=by
     refine Nat.le_trans ?_ hf;have h1:(List.range' k (ops.size - k)).countP (fun i=>!L.getD i false)=ops.size - k:=by
      have h1:(List.range' k (ops.size - k)).countP (fun i=>!L.getD i false)=(List.range' k (ops.size - k)).length:=by
       rw[List.countP_eq_length];intro i hi;rw[List.mem_range'_1]at hi;simp[h.low i hi.1]
      rw[h1,List.length_range']
     have h2:Pn.length≤(List.range k).countP (fun i=>!L.getD i false):=by
      rw[List.countP_eq_length_filter];have:=(hsub.filter fun p=>!L.getD p false).length_le;rw[←hPn]at this;exact this
     rw[Ec ops.size k c.hk,List.countP_append,h1];omega
    refine QN c hΛk hdl hind (Pn.length+(ops.size - k)) k (fuel+1) Pn L a w hnd (fun x hx=>hPs.subset hx) c.hk (Nat.le_refl _) hcount (Nat.le_refl _) h.size (fun j hj hn=>hll j hj hn) hl0 (fun j hj=>h.low j hj) h.closed ?_;rw[ha];exact hlate Pn hPs hne γ w h.ext (fun i hi hn=>h.facts i hi (hll i hi hn)) fun i j hi hj hne hil hjl=>h.apart i j hi hj hne (hll i hi hil) (hll j hj hjl)
   -- the ML that is not listed may come up
   have hex:∃ i,i < k∧L.getD i false=false∧∀ j,j < i→L.getD j false=true:=by
    have:∃ i,i < k∧L.getD i false=false:=by
     obtain⟨i,hi⟩:=Classical.not_forall.1 hall;obtain⟨hi,hl⟩:=Classical.not_imp.1 hi;exact⟨i,hi,by simpa using hl⟩
    obtain⟨i,hi,hl⟩:=this;induction i using Nat.strongRecOn with
    | _ i ihi =>
     by_cases hj:∃ j,j < i∧L.getD j false=false
     ·obtain⟨j,hji,hjl⟩:=hj
      exact ihi j hji Aa hjl
     ·refine⟨i,hi,hl,fun j hji=>?_⟩
      cases hjl:L.getD j false with
      | true=>rfl
      | false=>exact absurd ⟨j,hji,hjl⟩ hj
   obtain⟨i0,hi0,hl0,hlow0⟩:=hex;have hi0s:i0 < ops.size:=Nat.lt_of_lt_of_le hi0 c.hk;have hi0o:ops[i0]? = some ops[i0]:=Array.getElem?_eq_getElem hi0s;have hr0:i0∈Region.ready .any ops L:=Ct.2 ⟨hi0s,by rw[hun i0 hi0s];exact hl0,_,hi0o,fun e he hb=>hlow0 _ (c.edges i0 _ hi0o e he hb)⟩;refine⟨fun h0=>(by rw[h0]at hr0;cases hr0),fun i hi=>?_⟩;obtain⟨h1,h2,o,ho,he⟩:=Ct.1 hi;rw[hun i h1]at h2;have hT:=c.up h.closed i o ho he
   have hik:i < k:=by
    rcases Nat.lt_or_ge i k with hlt | hge
    ·exact hlt
    ·exfalso
     refine hlc fun j hj hn=>?_;exact hT j (c.tail i hge h1 j Aa hn)
   have hs:=hstep i hik γ w h.ext (fun j hj=>h.facts j (by
    have hjl:=hT j hj;rcases Nat.lt_or_ge j k with hlt | hge
    ·exact hlt
    ·rw[h.low j hge]at hjl;cases hjl) (hT j hj))
   rw[ho]at hs;obtain⟨hg,hu⟩:=hs;unfold wpOp;rw[ho];show if _ then _ else _;rw[if_pos (FZ c h hik ho hT hg)];refine .inl (I6.wp (M8 hu) (Ip c hE h hik ho hT) fun v w' hvw=>?_);obtain⟨⟨q1,q2,q3⟩,q4⟩:=hvw;refine ih (upd γ i v) _ _ w' ?_ (Ni c hD hmono h hik ho h2 he q1 q2 q3 q4);have hiL:i < L.size:=by rw[h.size];exact h1
   have hlt:(List.range ops.size).countP (fun j=>!(L.setIfInBounds i true).getD j false) < (List.range ops.size).countP (fun j=>!L.getD j false):=by
    have hle:∀(l:List Nat),l.countP (fun j=>!(L.setIfInBounds i true).getD j false)≤l.countP (fun j=>!L.getD j false):=fun l =>
     List.countP_mono_left fun j _ hj=>by
      rw[Bo hiL]at hj
      split at hj
      ·simp at hj
      ·exact hj
    have hspl:List.range ops.size=List.range i ++ i::List.range' (i+1) (ops.size - i - 1):=by
     rw[Ec ops.size i Aa,show ops.size - i=(ops.size - i - 1)+1 from Aa,List.range'_succ];simp
    rw[hspl,List.countP_append,List.countP_append,List.countP_cons,List.countP_cons];have a1:=hle (List.range i);have a2:=hle (List.range' (i+1) (ops.size - i - 1));rw[Bo hiL,if_pos rfl,h2];simp only[Bool.not_true,Bool.not_false,if_true,Bool.false_eq_true,if_false];omega
   omega
theorem Lv{id:Nat}(k:Nat)(Λ:List Nat)(dl:Nat→Nat)(D:List Nat)(T:List (List Nat))(EK:List Nat)(EV:List Value)(VL:List ((Nat→Value)→Value))(FL:(Nat→Value)→World→List Prop)
  (hE:Jj a0 EK EV) (hm:P.follows .mixedOrders=true) (hc:Mq ops k D T EK Λ=true) (hsub:Λ.isSublist (List.range k)=true)
  (hdl:(Λ.all fun x=>(List.range ops.size).all fun i=>Nat.blt i (dl x) || (T.getD i []).contains x)=true)
  (hind:(Λ.all fun x=>((ops.toList.drop x).take 1).all fun o=>o.after.toList.all fun e=>!Region.binds .any e || !Λ.contains e.on)=true) (hD:D.all (fun d=>Nat.blt d a0.tmps.size)=true)
  (hT:(List.range k).all (fun i=>(T.getD i []).all fun j=>Nat.blt j i&&(T.getD j []).all fun m=>(T.getD i []).contains m)=true)
  (hloc:Au k (Qx T VL FL))
  (hmono:Au k fun i=>∀ γ w w',Ext w w'→gF FL γ w i→gF FL γ w' i)
  (hstep:Au k (Mt P ops EK EV W0 D T VL FL))
  (htail:∀ γ w,Ext W0 w→Au k (fun i=>gF FL γ w i)→(∀ i j,i < k→j < k→i≠j→Eo ops i→Eo ops j→gV VL γ i≠gV VL γ j)→wpList P ops Q (ops.toList.drop k) (AO a0 (gV VL γ) 0 D) w)
  (hlate:∀ Pn,Pn.Sublist Λ→Pn≠[]→∀ γ w,Ext W0 w→Au k (fun i=>i∈Pn∨gF FL γ w i)→(∀ i j,i < k→j < k→i≠j→i∉Pn→j∉Pn→Eo ops i→Eo ops j→gV VL γ i≠gV VL γ j)→Bp P ops Q dl (Pn.length+(ops.size - k)) Pn k (DK a0 D Pn (AO a0 (gV VL γ) 0 D)) w) :
  (Code.region id ops true).wp P Q a0 W0:=by
 have c:=Ev hc;have hT':∀ i,i < k→∀ j∈T.getD i [],j < i∧∀ m∈T.getD j [],m∈T.getD i []:=fun i hi j hj=>by
  have:=List.all_eq_true.1 (List.all_eq_true.1 hT i (List.mem_range.2 hi)) j hj;simp only[Bool.and_eq_true,Nat.blt_eq,List.all_eq_true]at this;exact⟨this.1,fun m hm=>by simpa using this.2 m hm⟩
 have hF:∀ i,(Array.replicate ops.size false).getD i false=false:=fun i=>by
  rw[Array.getD_eq_getD_getElem?,Array.getElem?_replicate];split<;>rfl
 have msk:∀(l:List Nat) (γ:Nat→Value) j,l.contains j=true→EF l γ j=γ j:=fun l γ j h=>by unfold EF;rw[if_pos h]
 have lV:∀ i,i < k→∀ γ,gV VL (EF (i::T.getD i []) γ) i=gV VL γ i:=fun i hi γ=>(hloc.get i hi _ _ fun j hj=>msk _ γ j hj).1;have lF:∀ i,i < k→∀ γ w,gF FL (EF (i::T.getD i []) γ) w i=gF FL γ w i:=fun i hi γ w=>(hloc.get i hi _ _ fun j hj=>msk _ γ j hj).2 w;have pv:∀ γ i,i < k→Bi T (fun γ i=>gV VL γ i) γ i=gV VL γ i:=fun γ i hi=>lV i hi γ;have pe:∀ γ,I5 EK EV D (Bi T (fun γ i=>gV VL γ i) γ)=I5 EK EV D (gV VL γ):=fun γ=>by
  funext x
  cases x with
  | tmp t =>
   rw[Ig hE,Ig hE];cases hd:D.idxOf? t with
   | none=>rfl
   | some j =>
    obtain⟨hlt,_⟩:=List.findIdx?_eq_some_iff_getElem.1 (show D.findIdx? (· == t)=some j from hd);exact pv γ j (by rw[←c.hlen];exact hlt)
  | const v=>rfl
  | global g=>rfl
  | func f=>rfl
 refine wp_region_any hm ?_;refine Rz (dl:=dl) (W0:=W0) (V:=fun γ i=>gV VL γ i) (F:=fun i γ w=>gF FL γ w i) c (List.isSublist_iff_sublist.1 hsub) (fun x hx i hi his=>?_) (fun x hx o ho e he hb=>?_) hE (fun d hd=>by simpa[Nat.blt_eq] using List.all_eq_true.1 hD d hd) (fun i γ w w' hi=>hmono.get i hi γ w w') (fun i hi γ w he hf=>?_)
  (fun γ w he hf hap=>?_) (fun Pn hPs hPn γ w he hf hap=>?_) ops.size (fun _=>undef) _ _ _ ?_ ?_
 ·have:=List.all_eq_true.1 (List.all_eq_true.1 hdl x hx) i (List.mem_range.2 his)
  simp only[Bool.or_eq_true,Nat.blt_eq]at this;rcases this with h | h
  ·omega
  ·simpa using h
 ·have h1:=List.all_eq_true.1 hind x hx
  have hxs:x < ops.size:=(Array.getElem?_eq_some_iff.1 ho).1;have e1:(ops.toList.drop x).take 1=[o]:=by
   rw[List.drop_eq_getElem_cons (by simpa using hxs)];rw[Array.getElem?_eq_getElem hxs]at ho;simpa using ho
  rw[e1]at h1;simp only[List.all_cons,List.all_nil,Bool.and_true]at h1;have h2:=List.all_eq_true.1 h1 e (by simpa using he);rw[hb]at h2;simpa using h2
 ·have hs:=hstep.get i hi γ w he (fun j hj=>by
   have h1:=hT' i hi j hj;rw[←lF j Aa γ w];exact hf j hj)
  cases ho:ops[i]? with
  | none=>rw[ho]at hs;exact hs
  | some o =>
   rw[ho]at hs;obtain⟨h1,h2⟩:=hs;refine⟨?_,?_⟩
   ·cases hg:o.guard with
    | none=>trivial
    | some p =>
     obtain⟨g,b⟩:=p;rw[hg]at h1;have:=c.guard i o g b ho hi hg;exact(pv γ g this.2).trans h1
   ·rw[pe]
    have e:(fun v w'=>Ext w w'∧gV VL (EF (i::T.getD i []) (upd γ i v)) i=v∧gF FL (EF (i::T.getD i []) (upd γ i v)) w' i)=(fun v w'=>Ext w w'∧gV VL (upd γ i v) i=v∧gF FL (upd γ i v) w' i):=by
     funext v w'
     rw[lV i hi,lF i hi]
    rw[e];exact h2 _ (fun v w' a b c=>⟨a,b,c⟩)
 ·have h1:=htail γ w he (Kw fun i hi=>by rw[←lF i hi γ w];exact hf i hi) fun i j hi hj hne a b=>by
   have:=hap i j hi hj hne a b;rwa[pv γ i hi,pv γ j hj]at this
  have e:AO a0 (Bi T (fun γ i=>gV VL γ i) γ) 0 D=AO a0 (gV VL γ) 0 D:=by
   have key:∀(ds:List Nat) (i:Nat) (a:Act),i+ds.length≤k→AO a (Bi T (fun γ i=>gV VL γ i) γ) i ds=AO a (gV VL γ) i ds:=by
    intro ds;induction ds with
    | nil=>intro i a _;rfl
    | cons d ds ih =>
     intro i a hk;simp only[List.length_cons]at hk;show AO (a.put (some d) (Bi T (fun γ i=>gV VL γ i) γ i)) _ (i+1) ds=AO (a.put (some d) (gV VL γ i)) _ (i+1) ds;rw[pv γ i Aa];exact ih _ _ Aa
   exact key D 0 a0 (by rw[c.hlen];omega)
  rw[e];exact h1
 ·have h1:=hlate Pn hPs hPn γ w he (Kw fun i hi=>by
   by_cases e:i∈Pn
   ·exact .inl e
   ·right;rw[←lF i hi γ w];exact hf i hi e) fun i j hi hj hne hil hjl a b=>by
    have:=hap i j hi hj hne hil hjl a b;rwa[pv γ i hi,pv γ j hj]at this
  have e:AO a0 (Bi T (fun γ i=>gV VL γ i) γ) 0 D=AO a0 (gV VL γ) 0 D:=by
   have key:∀(ds:List Nat) (i:Nat) (a:Act),i+ds.length≤k→AO a (Bi T (fun γ i=>gV VL γ i) γ) i ds=AO a (gV VL γ) i ds:=by
    intro ds;induction ds with
    | nil=>intro i a _;rfl
    | cons d ds ih =>
     intro i a hk;simp only[List.length_cons]at hk;show AO (a.put (some d) (Bi T (fun γ i=>gV VL γ i) γ i)) _ (i+1) ds=AO (a.put (some d) (gV VL γ i)) _ (i+1) ds;rw[pv γ i Aa];exact ih _ _ Aa
   exact key _ 0 a0 (by rw[c.hlen];omega)
  rw[e];exact h1
 ·exact Nat.le_trans List.countP_le_length Ac
 ·have hN:∀ {p:Prop} i,(Array.replicate ops.size false).getD i false=true→p:=fun i h=>absurd ((hF i).symm.trans h) Ab
  exact⟨Ac,fun i o h=>hN i h,fun i _=>hF i,rfl,rfl,fun i _ h=>hN i h,fun t _=>rfl,(Ext.refl W0).drew,fun i _ h=>hN i h,fun i _ h=>hN i h,fun i _ _ _ _ h=>hN i h⟩
end
theorem Bp.mk{P:Program}{ops:Array Oper}{Q:Exit→Act→World→Prop}{dl:Nat→Nat}{p m:Nat}{ps:List Nat}{a:Act}{w:World}(f:Nat)
  (h1:Xp (fun x=>BR P ops Q x (Bp P ops Q dl f ((p::ps).erase x) m) a w) (p::ps)) (h2:(Nat.blt m ops.size&&(p::ps).all fun x=>Nat.blt m (dl x))=true→BR P ops Q m (Bp P ops Q dl f (p::ps) (m+1)) a w):Bp P ops Q dl (f+1) (p::ps) m a w:=⟨h1,h2⟩
theorem Bp.nil{P:Program}{ops:Array Oper}{Q:Exit→Act→World→Prop}{dl:Nat→Nat}{f m:Nat}{a:Act}{w:World}(h:wpList P ops Q (ops.toList.drop m) a w):Bp P ops Q dl f [] m a w:=by
 unfold Bp;exact h
theorem Zg{x:Nat}{l:List Nat}(h:l.Sublist [x])(hn:l≠[]):l=[x]:=by
 cases h with
 | cons _ h=>exact absurd (List.sublist_nil.1 h) hn
 | cons_cons _ h=>rw[List.sublist_nil.1 h]
theorem dY{x y:Nat}{l:List Nat}(h:l.Sublist [x,y])(hn:l≠[]):l=[x]∨l=[y]∨l=[x,y]:=by
 cases h with
 | cons _ h=>exact .inr (.inl (Zg h hn))
 | cons_cons _ h =>
  rename_i l';by_cases e:l'=[]
  ·subst e;exact .inl rfl
  ·rw[Zg h e];exact .inr (.inr rfl)
end Go.Hp
