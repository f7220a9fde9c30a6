/- Lemmas. -/
import Derived.Test.YtmhgnigpmompmaaGreatCv1
import Derived.Test.YtmhgnigpmompmaaGreatCv2
import Derived.Deep.RegionWith
import Derived.WalkSmall
import Derived.Lib.RabinKarpLaws
import Derived.Deep.Cut
import Derived.Deep.DeepCutAuto
set_option linter.unusedVariables false
set_option linter.unusedSimpArgs false
set_option maxHeartbeats 16000000
namespace Go.Proofs.YtmhgnigpmompmaaGreat
open Go.RowKit Go.Hp
theorem Fx(v:Value)(q:Rat)(w:World)(hv:BQ w v q):Bh 22 #[v] w (fun r w'=>BD w' r q):=by
 obtain⟨b,A,n,c,b',A',n',c',x,y,rfl,hx,hy,sx,sy,hq⟩:=hv.form;have HX:=Ad hx;have HY:=Ad hy;clear hx hy hv;have Hq:=Ad hq;clear hq
 go_enter Tryz.func22,Tryz.ntmps22
 go_wp2_with fail
 refine AL (Ib _ _ x y _ (HX.out.ext (((Ext.refl w).alloc _).alloc _)) (HY.out.ext (((Ext.refl w).alloc _).alloc _)) Aa Aa) ?_;rintro r w1 hr hx1;rw[←Hq.out]at hr;obtain⟨b5,A5,n5,c5,b6,A6,n6,c6,rfl⟩:=hr.cells;have hc1:=hx1.cells;have hf1:=hx1.frozens;have Hfin:=Ad (Cy hr hx1.a2 (AX.at_ hx1 (g:=w.heap.size+1) Ac (by simp[Ag])) Aa);clear hr;go_wp2;refine bodyPost_ret (v := .agg #[.bool b5,.slice A5 n5 c5,.bool b6,.slice A6 n6 c6]) (by simp[results,Tryz.results22,go_sem,hc1]) rfl ?_
 exact Hfin.out
theorem M8(v:Value)(q:Rat)(w:World)(hv:BQ w v q):Bh 56 #[v] w (fun r _=>r = .int .i64 (FB q)):=by
 obtain⟨b,A,n,c,b',A',n',c',x,y,rfl,hx,hy,sx,sy,hq⟩:=hv.form;have HX:=Ad hx;have HY:=Ad hy;clear hx hy hv sx sy;have Hq:=Ad (show FB q=x.sign*y.sign by rw[hq];exact MK x y);clear hq;have hb:=Iy x y
 go_enter Tryz.func56,Tryz.ntmps56
 go_wp2_with fail
 refine Ae 5 [3,4,5,6,7] [[],[0],[0,1],[],[3],[0,1,2,3,4],[0,1,2,3,4,5],[0,1,2,3,4,5,6]] [1] [_] [(kv ?_),(kv ?_),(fun γ=>γ 2),(kv ?_),(kv ?_)] (fun γ w'=>[True,True,dZ w' (γ 2) x.sign,True,True]) Bn Aj Aj Bo Aj Bl Br ?hstep1 ?_
 case hstep1 =>
  iterate 5 refine⟨?_,?_⟩
  trivial
  iterate 2 focus
   intro γ w' he hf;clear hf;refine⟨by trivial,?_⟩;intro R hR;have hc:=he.cells;go_simp;refine hR _ _ (Ext.refl _) ?_ trivial;rfl
  ·intro γ w' he hf;clear hf;refine⟨trivial,?_⟩;intro R hR
   go_simp;exact Bd (IX _ x w' (HX.out.ext he.a1)) hR
  iterate 2 focus
   intro γ w' he hf;clear hf;refine⟨by trivial,?_⟩;intro R hR;have hc:=he.cells;go_simp;refine hR _ _ (Ext.refl _) ?_ trivial;rfl
 intro γ w1 hx1 hF;have p2:dZ w1 (γ 2) x.sign:=AA.get hF 2 Ab;clear hF;simp only[Bf,Nat.reduceAdd];generalize γ 2=g2 at *;clear γ;obtain rfl:g2 = .int .i64 x.sign:=p2
 go_wp2_with fail
 refine AL (IX _ y _ (HY.out.ext hx1.a1)) ?_;rintro r w2 rfl hx2;replace hx1:=hx1.trans hx2;go_wp2
 go_ret
 exact Ah.mk (by rw[Hq.out];rfl) hx1.a1
theorem XY(v:Value)(q:Rat)(w:World)(hv:BQ w v q):Bh 55 #[v] w (fun r w'=>BD w' r (-q)):=by
 obtain⟨b,A,n,c,b',A',n',c',x,y,rfl,hx,hy,sx,sy,hq⟩:=hv.form;have HX:=Ad hx;have HY:=Ad hy;clear hx hy hv;have Hq:=Ad hq;clear hq
 go_enter Tryz.func55,Tryz.ntmps55
 go_wp2_with fail
 refine Ae 5 [3,4,5,6,7] [[],[0],[0,1],[],[3],[0,1,2,3,4],[0,1,2,3,4,5]] [1] [_] [(kv ?_),(kv ?_),(fun γ=>γ 2),(kv ?_),(kv ?_)] (fun γ w'=>[True,True,AO w' (γ 2) (-x),True,True]) Bn Aj Aj Bo Aj Bl Br ?hstep2 ?_
 case hstep2 =>
  iterate 5 refine⟨?_,?_⟩
  trivial
  iterate 2 focus
   intro γ w' he hf;clear hf;refine⟨by trivial,?_⟩;intro R hR;have hc:=he.cells;go_simp;refine hR _ _ (Ext.refl _) ?_ trivial;rfl
  ·intro γ w' he hf;clear hf;refine⟨trivial,?_⟩;intro R hR
   go_simp;exact Bd (Uj _ x w' (HX.out.ext he.a2)) hR
  iterate 2 focus
   intro γ w' he hf;clear hf;refine⟨by trivial,?_⟩;intro R hR;have hc:=he.cells;go_simp;refine hR _ _ (Ext.refl _) ?_ trivial;rfl
 intro γ w1 hx1 hF;have p2:AO w1 (γ 2) (-x):=AA.get hF 2 Ab;clear hF;simp only[Bf,Nat.reduceAdd];generalize γ 2=g2 at *;clear γ
 go_wp2_with fail
 refine AL (Ib _ _ (-x) y _ (p2.has (by rw[Int.natAbs_neg];omega)) (HY.out.ext hx1.a2) (by rw[Int.natAbs_neg];omega) Aa) ?_;rintro r w2 hr hx2;replace hx1:=hx1.trans hx2;clear hx2 p2;rw[←Rat.neg_divInt,←Hq.out]at hr;obtain⟨b5,A5,n5,c5,b6,A6,n6,c6,rfl⟩:=hr.cells;have hc1:=hx1.cells;have hf1:=hx1.frozens;have Hfin:=Ad (Cy hr hx1.a2 (AX.at_ hx1 (g:=w.heap.size+1) Ac (by simp[Ag])) Aa);clear hr;go_wp2
 refine bodyPost_ret (v := .agg #[.bool b5,.slice A5 n5 c5,.bool b6,.slice A6 n6 c6]) (by simp[results,Tryz.results55,go_sem,hc1]) rfl ?_;exact Hfin.out
theorem WG(v u:Value)(p q:Rat)(w:World)(hv:BQ w v p)(hu:BQ w u q):Bh 129 #[v,u] w (fun r w'=>BD w' r (p*q)):=by
 obtain⟨b,A,n,c,b',A',n',c',x,y,rfl,hx,hy,sx,sy,hp⟩:=hv.form;obtain⟨d,E,m,e,d',E',m',e',s,t,rfl,hs,ht,ss,st,hq⟩:=hu.form;have HX:=Ad (Ak hx hy);have HY:=Ad (Ak hs ht);clear hx hy hv hs ht hu;have Hq:=Ad (show Rat.divInt (x*s) (y*t)=p*q by rw[hp,hq,Rat.divInt_mul_divInt]);clear hp hq;have m1:=I1 sx ss;have m2:=I1 sy st
 go_enter Tryz.func129,Tryz.ntmps129
 go_wp2_with fail
 refine Ae 9 [5,6,7,8,9,10,11,12,13] [[],[0],[],[2],[0,1,2,3],[],[5],[],[7],[0,1,2,3,4,5,6,7,8],[0,1,2,3,4,5,6,7,8,9],[0,1,2,3,4,5,6,7,8,9,10]] [2,3] [_,_] [(kv ?_),(kv ?_),(kv ?_),(kv ?_),(fun γ=>γ 4),(kv ?_),(kv ?_),(kv ?_),(kv ?_)] (fun γ w'=>[True,True,True,True,AO w' (γ 4) (x*s),True,True,True,True]) Bn Aj Aj Bo Aj Bl Br ?hstep3 ?_
 case hstep3 =>
  iterate 9 refine⟨?_,?_⟩
  trivial
  iterate 4 focus
   intro γ w' he hf;clear hf;refine⟨by trivial,?_⟩;intro R hR;have hc:=he.cells;go_simp;refine hR _ _ (Ext.refl _) ?_ trivial;rfl
  ·intro γ w' he hf;clear hf;refine⟨trivial,?_⟩;intro R hR
   go_simp;exact Bd (FQ _ _ x s w' (HX.out.1.ext he.a3) (HY.out.1.ext he.a3) Aa Aa) hR
  iterate 4 focus
   intro γ w' he hf;clear hf;refine⟨by trivial,?_⟩;intro R hR;have hc:=he.cells;go_simp;refine hR _ _ (Ext.refl _) ?_ trivial;rfl
 intro γ w1 hx1 hF;have p4:AO w1 (γ 4) (x*s):=AA.get hF 4 Ab;clear hF;simp only[Bf,Nat.reduceAdd];generalize γ 4=g4 at *;clear γ
 go_wp2_with fail
 refine AL (FQ _ _ y t _ (HX.out.2.ext hx1.a3) (HY.out.2.ext hx1.a3) Aa Aa) ?_;rintro g9 w9 p9 hx9;replace p4:=p4.ext hx9;replace hx1:=hx1.trans hx9;clear hx9
 go_wp2_with fail
 refine AL (Ib _ _ (x*s) (y*t) _ (p4.has Aa) (p9.has Aa) m1 m2) ?_;rintro r w2 hr hx2;replace hx1:=hx1.trans hx2;clear hx2 p4 p9;rw[Hq.out]at hr;obtain⟨b5,A5,n5,c5,b6,A6,n6,c6,rfl⟩:=hr.cells;have hc1:=hx1.cells;have hf1:=hx1.frozens;have Hfin:=Ad (Cy hr hx1.a3 (AX.at_ hx1 (g:=w.heap.size+2) Ac (by simp[Ag])) Aa);clear hr;go_wp2;refine bodyPost_ret (v := .agg #[.bool b5,.slice A5 n5 c5,.bool b6,.slice A6 n6 c6]) (by simp[results,Tryz.results129,go_sem,hc1]) rfl ?_
 exact Hfin.out
theorem U8(v u:Value)(p q:Rat)(w:World)(hv:BD w v p)(hu:BD w u q):Bh 79 #[v,u] w (fun r _=>r = .bool (decide (p=q))):=by
 obtain⟨b,A,n,c,b',A',n',c',rfl,h1,h2⟩:=hv;obtain⟨d,E,m,e,d',E',m',e',rfl,k1,k2⟩:=hu;have H:=Ad (Ak h1 (Ak h2 (Ak k1 k2)));clear h1 h2 k1 k2
 go_enter Tryz.func79,Tryz.ntmps79
 go_wp2_with fail
 refine AL (P8 _ _ p.num q.num _ (H.out.1.ext (((Ext.refl w).alloc _).alloc _)) (H.out.2.2.1.ext (((Ext.refl w).alloc _).alloc _))) ?_;rintro r w1 rfl hx1;have hc1:=hx1.cells;have hf1:=hx1.frozens;by_cases hn:p.num=q.num
 ·have hb:decide (p.num=q.num)=true:=decide_eq_true hn
  have Hn:=Ad hn;clear hn
  go_wp2_with fail
  refine AL (P8 _ _ (p.den:Int) (q.den:Int) _ (H.out.2.1.ext hx1.a2) (H.out.2.2.2.ext hx1.a2)) ?_;rintro r w2 rfl hx2;replace hx1:=hx1.trans hx2;clear hx2 hc1 hf1;go_wp2
  go_ret
  refine Ah.mk (show Value.bool (decide ((p.den:Int)=(q.den:Int)))=Value.bool (decide (p=q))from ?_) hx1.a2;exact congrArg _ (decide_eq_decide.2 ⟨fun h=>Rat.ext Hn.out Aa,fun h=>by rw[h]⟩)
 ·have hb:decide (p.num=q.num)=false:=decide_eq_false hn
  have Hn:=Ad hn;clear hn;go_wp2
  go_ret
  refine Ah.mk (show Value.bool false=Value.bool (decide (p=q))from ?_) hx1.a2;exact congrArg _ (decide_eq_false fun h=>Hn.out (by rw[h])).symm
end Go.Proofs.YtmhgnigpmompmaaGreat
namespace Go.Hp
open Go.RowKit
theorem BD.parts4{w:World}{b b':Bool}{A A':Option Addr}{n c n' c':Nat}{q:Rat}(h:BD w (.agg #[.bool b,.slice A n c,.bool b',.slice A' n' c']) q):AO w (.agg #[.bool b,.slice A n c]) q.num∧AO w (.agg #[.bool b',.slice A' n' c']) (q.den:Int):=by
 obtain⟨_,_,_,_,_,_,_,_,e,h1,h2⟩:=h;have e:=Tx e;simp only[Array.mk.injEq,List.cons.injEq,Value.bool.injEq,Value.slice.injEq,and_true]at e;obtain⟨rfl,⟨rfl,rfl,rfl⟩,rfl,rfl,rfl,rfl⟩:=e;exact⟨h1,h2⟩
theorem Ht(q:Rat):sz q.num.natAbs≤qsz q:=by unfold qsz;omega
theorem Fh(q:Rat):sz ((q.den:Int)).natAbs≤qsz q:=by rw[Int.natAbs_natCast];unfold qsz;omega
theorem Fq{x y:Int}{a b:Nat}(hx:sz x.natAbs≤a)(hy:sz y.natAbs≤b):sz (x*y).natAbs≤a+b:=by
 rw[Int.natAbs_mul];have:=Cc x.natAbs y.natAbs;omega
theorem Za{x y:Int}{a:Nat}(hx:sz x.natAbs≤a)(hy:sz y.natAbs≤a):sz (x+y).natAbs≤a+1:=by
 have h1:=Bp (Int.natAbs_add_le x y);have h2:=Gp x.natAbs y.natAbs;omega
theorem NT(p q:Rat):Rat.divInt (p.num*q.den+q.num*p.den) (p.den*q.den)=p+q:=by
 have hp:(p.den:Int)≠0:=by have:=p.den_nz;omega
 have hq:(q.den:Int)≠0:=by have:=q.den_nz;omega
 rw[←Rat.divInt_add_divInt _ _ hp hq,Rat.num_divInt_den,Rat.num_divInt_den]
theorem O0(p q:Rat):Rat.divInt (p.num*q.den) (p.den*q.num)=p / q:=by
 rw[Nj,Rat.num_divInt_den,Rat.num_divInt_den]
end Go.Hp
namespace Go.Proofs.YtmhgnigpmompmaaGreat
open Go.RowKit Go.Hp
theorem Tv(v u:Value)(p q:Rat)(w:World)(hv:BQ w v p)(hu:BQ w u q)(hs:qsz p+qsz q < 549755813888):Bh 77 #[v,u] w (fun r w'=>BD w' r (p+q)):=by
 have HV:=Ad hv;have HU:=Ad hu;have s1:=hv.qsz;have s2:=hu.qsz;obtain⟨b,A,n,c,b',A',n',c',x,y,rfl,-⟩:=hv.form;obtain⟨d,E,m,e,d',E',m',e',s,t,rfl,-⟩:=hu.form;clear hv hu;have HS:=Ad (Ak (Ht p) (Ak (Fh p) (Ak (Ht q) (Fh q))));have Hz:=Ad (NT p q)
 go_enter Tryz.func77,Tryz.ntmps77
 go_wp2_with fail
 refine CU 6 [7,8,9,10,5,6] [[],[0],[],[0,1,2],[],[],[0,1,2,3,4,5],[0,1,2,3,4,5,6]] [2,3] [_,_] [(kv ?_),(fun γ=>γ 1),(kv ?_),(fun γ=>γ 3),(fun γ=>γ 4),(fun γ=>γ 5)] (fun γ w'=>[True,BD w' (γ 1) p,True,BD w' (γ 3) q,AZ w' (γ 4) (w.heap.size+3) #[.bool false,.slice none 0 0,.bool false,.slice none 0 0] 28,AZ w' (γ 5) (w.heap.size+3) #[.bool false,.slice none 0 0,.bool false,.slice none 0 0] 28]) Bn Aj Aj Bo Aj Bl Br ?hstep4 ?_
 case hstep4 =>
  iterate 6 refine⟨?_,?_⟩
  trivial
  iterate 1 focus
   intro γ w' he hf;clear hf;refine⟨by trivial,?_⟩;intro R hR;have hc:=he.cells;go_simp;refine hR _ _ (Ext.refl _) ?_ trivial;rfl
  ·intro γ w' he hf;clear hf;refine⟨trivial,?_⟩;intro R hR
   go_simp;exact Bd (Fx _ p w' (HV.out.ext he.a3)) hR
  iterate 1 focus
   intro γ w' he hf;clear hf;refine⟨by trivial,?_⟩;intro R hR;have hc:=he.cells;go_simp;refine hR _ _ (Ext.refl _) ?_ trivial;rfl
  ·intro γ w' he hf;clear hf;refine⟨trivial,?_⟩;intro R hR
   go_simp;exact Bd (Fx _ q w' (HU.out.ext he.a3)) hR
  ·intro γ w' he hf;clear hf;refine⟨trivial,?_⟩;intro R hR
   go_simp;exact hR _ _ ((Ext.refl _).alloc _) rfl (AZ.mk (Nat.le_trans Ac he.size) (by simp[Ag]))
  ·intro γ w' he hf;clear hf;refine⟨trivial,?_⟩;intro R hR
   go_simp;exact hR _ _ ((Ext.refl _).alloc _) rfl (AZ.mk (Nat.le_trans Ac he.size) (by simp[Ag]))
 intro γ w1 hx1 hF hA;have na4x5:γ 4≠γ 5:=hA 4 5 Ab Ab Ab ⟨_,_,rfl,rfl⟩ ⟨_,_,rfl,rfl⟩;clear hA;have p1:BD w1 (γ 1) p:=AA.get hF 1 Ab;have p3:BD w1 (γ 3) q:=AA.get hF 3 Ab;have p4:AZ w1 (γ 4) (w.heap.size+3) #[.bool false,.slice none 0 0,.bool false,.slice none 0 0] 28:=AA.get hF 4 Ab;have p5:AZ w1 (γ 5) (w.heap.size+3) #[.bool false,.slice none 0 0,.bool false,.slice none 0 0] 28:=AA.get hF 5 Ab;clear hF
 simp only[Bf,Nat.reduceAdd];generalize γ 1=g1 at *;generalize γ 3=g3 at *;generalize γ 4=g4 at *;generalize γ 5=g5 at *;clear γ;obtain⟨ga,rfl,hga,ea⟩:=p4;obtain⟨gb,rfl,hgb,eb⟩:=p5;have hab:ga≠gb:=fun e=>na4x5 (by rw[e]);clear na4x5;obtain⟨b1,A1,n1,c1,b2,A2,n2,c2,rfl⟩:=p1.cells;obtain⟨b3,A3,n3,c3,b4,A4,n4,c4,rfl⟩:=p3.cells;obtain⟨cea0,cea1,cea2,cea3⟩:=ea.cells4;have fea:=ea.frozen;obtain⟨ceb0,ceb1,ceb2,ceb3⟩:=eb.cells4
 have feb:=eb.frozen
 go_upto_region 2 with(fail)
 obtain⟨W1,eW,ea',U⟩:=ea.put4 (.bool b1) (.slice A1 n1 c1) (.bool b2) (.slice A2 n2 c2) rfl rfl rfl rfl;rw[←eW];clear eW ea;replace p1:=p1.kd U.kd;replace p3:=p3.kd U.kd;replace eb:=eb.upd U Ai;replace hx1:=U.from_ hx1 Ai;have ea:=ea';clear U ea';obtain⟨W2,eW,eb',U⟩:=eb.put4 (.bool b3) (.slice A3 n3 c3) (.bool b4) (.slice A4 n4 c4) rfl rfl rfl rfl;rw[←eW];clear eW eb;replace p1:=p1.kd U.kd;replace p3:=p3.kd U.kd
 replace ea:=ea.upd U Ai;replace hx1:=U.from_ hx1 Ai;have eb:=eb';clear U eb';clear cea0 cea1 cea2 cea3 ceb0 ceb1 ceb2 ceb3 fea feb;have Hp:=Ad p1.parts4;have Hq:=Ad p3.parts4;clear p1 p3;obtain⟨cea0,cea1,cea2,cea3⟩:=ea.cells4;have fea:=ea.frozen;obtain⟨ceb0,ceb1,ceb2,ceb3⟩:=eb.cells4;have feb:=eb.frozen;have m1:=Fq HS.out.1 HS.out.2.2.2;have m2:=Fq HS.out.2.2.1 HS.out.2.1;have m3:=Fq HS.out.2.1 HS.out.2.2.2
 have m4:=Za m1 (show sz (q.num*p.den).natAbs≤qsz p+qsz q by omega);have HB:=Ad (show sz p.num.natAbs≤274877906944∧sz ((p.den:Int)).natAbs≤274877906944∧sz q.num.natAbs≤274877906944∧sz ((q.den:Int)).natAbs≤274877906944 by
  have:=HS.out;omega)
 go_wp2_with fail
 refine Ae 15 [11,12,13,14,15,16,17,18,19,20,21,22,23,24,25] [[],[0],[],[2],[0,1,2,3],[],[5],[],[7],[0,1,2,3,4,5,6,7,8],[0,1,2,3,4,5,6,7,8,9],[],[11],[],[13],[0,1,2,3,4,5,6,7,8,9,10,11,12,13,14],[0,1,2,3,4,5,6,7,8,9,10,11,12,13,14,15],[0,1,2,3,4,5,6,7,8,9,10,11,12,13,14,15,16]] [5,6] [_,_] [(kv ?_),(kv ?_),(kv ?_),(kv ?_),(fun γ=>γ 4),(kv ?_),(kv ?_),(kv ?_),(kv ?_),(fun γ=>γ 9),(fun γ=>γ 10),(kv ?_),(kv ?_),(kv ?_),(kv ?_)] (fun γ w'=>[True,True,True,True,AO w' (γ 4) (p.num*q.den),True,True,True,True,AO w' (γ 9) (q.num*p.den),AO w' (γ 10) (p.num*q.den+q.num*p.den),True,True,True,True]) Bn Aj Aj Bo Aj Bl Br ?hstep5 ?_
 case hstep5 =>
  iterate 15 refine⟨?_,?_⟩
  trivial
  iterate 4 focus
   intro γ w' he hf;clear hf;refine⟨by trivial,?_⟩;intro R hR;have hc:=he.cells;have cq0:=he.cell cea0;have cq1:=he.cell cea1;have cq2:=he.cell cea2;have cq3:=he.cell cea3;have cq4:=he.cell ceb0;have cq5:=he.cell ceb1;have cq6:=he.cell ceb2;have cq7:=he.cell ceb3;go_simp;refine hR _ _ (Ext.refl _) ?_ trivial;rfl
  ·intro γ w' he hf;clear hf;refine⟨trivial,?_⟩;intro R hR
   go_simp;exact Bd (FQ _ _ _ _ w' ((Hp.out.1.ext he).has (by have:=HB.out;omega)) ((Hq.out.2.ext he).has (by have:=HB.out;omega)) (by have:=HB.out;omega) (by have:=HB.out;omega)) hR
  iterate 4 focus
   intro γ w' he hf;clear hf;refine⟨by trivial,?_⟩;intro R hR;have hc:=he.cells;have cq0:=he.cell cea0;have cq1:=he.cell cea1;have cq2:=he.cell cea2;have cq3:=he.cell cea3;have cq4:=he.cell ceb0;have cq5:=he.cell ceb1;have cq6:=he.cell ceb2;have cq7:=he.cell ceb3;go_simp;refine hR _ _ (Ext.refl _) ?_ trivial;rfl
  ·intro γ w' he hf;clear hf;refine⟨trivial,?_⟩;intro R hR
   go_simp;exact Bd (FQ _ _ _ _ w' ((Hq.out.1.ext he).has (by have:=HB.out;omega)) ((Hp.out.2.ext he).has (by have:=HB.out;omega)) (by have:=HB.out;omega) (by have:=HB.out;omega)) hR
  ·intro γ w' he hf;have f4:AO w' (γ 4) (p.num*q.den):=hf 4 Ab;have f9:AO w' (γ 9) (q.num*p.den):=hf 9 Ab;clear hf;refine⟨trivial,?_⟩;intro R hR
   go_simp;exact Bd (O9 _ _ _ _ w' (f4.has Aa) (f9.has Aa) Aa Aa) hR
  iterate 4 focus
   intro γ w' he hf;clear hf;refine⟨by trivial,?_⟩;intro R hR;have hc:=he.cells;have cq0:=he.cell cea0;have cq1:=he.cell cea1;have cq2:=he.cell cea2;have cq3:=he.cell cea3;have cq4:=he.cell ceb0;have cq5:=he.cell ceb1;have cq6:=he.cell ceb2;have cq7:=he.cell ceb3;go_simp;refine hR _ _ (Ext.refl _) ?_ trivial;rfl
 intro γ w6 hx6 hF;have p4:AO w6 (γ 4) (p.num*q.den):=AA.get hF 4 Ab;have p9:AO w6 (γ 9) (q.num*p.den):=AA.get hF 9 Ab;have p10:AO w6 (γ 10) (p.num*q.den+q.num*p.den):=AA.get hF 10 Ab;clear hF;simp only[Bf,Nat.reduceAdd];generalize γ 4=g4 at *;generalize γ 9=g9 at *;generalize γ 10=g10 at *;clear γ;clear cea0 cea1 cea2 cea3 ceb0 ceb1 ceb2 ceb3 fea feb ea eb;replace hx1:=hx1.trans hx6
 go_wp2_with fail
 refine AL (FQ _ _ _ _ _ ((Hp.out.2.ext hx6).has (by have:=HB.out;omega)) ((Hq.out.2.ext hx6).has (by have:=HB.out;omega)) (by have:=HB.out;omega) (by have:=HB.out;omega)) ?_;rintro r w7 p15 hx7;replace p10:=p10.ext hx7;replace hx1:=hx1.trans hx7;clear hx7 hx6 p4 p9
 go_wp2_with fail
 refine AL (Ib _ _ _ _ _ (p10.has Aa) (p15.has Aa) Aa Aa) ?_;rintro r w10 hr hx10;rw[Hz.out]at hr;replace hx1:=hx1.trans hx10;clear hx10 p10 p15;obtain⟨b5,A5,n5,c5,b6,A6,n6,c6,rfl⟩:=hr.cells;have hc1:=hx1.cells;have hf1:=hx1.frozens;have Hfin:=Ad (Cy hr hx1.a3 (AX.at_ hx1 (g:=w.heap.size+2) Ac (by simp[Ag])) Aa);clear hr;go_wp2;refine bodyPost_ret (v := .agg #[.bool b5,.slice A5 n5 c5,.bool b6,.slice A6 n6 c6]) (by simp[results,Tryz.results77,go_sem,hc1]) rfl ?_
 exact Hfin.out
theorem QV(v u:Value)(p q:Rat)(w:World)(hv:BQ w v p)(hu:BQ w u q):Bh 128 #[v,u] w (fun r w'=>BD w' r (p / q)):=by
 have HV:=Ad hv;have HU:=Ad hu;have s1:=hv.qsz;have s2:=hu.qsz;obtain⟨b,A,n,c,b',A',n',c',x,y,rfl,-⟩:=hv.form;obtain⟨d,E,m,e,d',E',m',e',s,t,rfl,-⟩:=hu.form;clear hv hu;have HS:=Ad (Ak (Ht p) (Ak (Fh p) (Ak (Ht q) (Fh q))));have Hz:=Ad (O0 p q)
 go_enter Tryz.func128,Tryz.ntmps128
 go_wp2_with fail
 refine CU 6 [7,8,9,10,5,6] [[],[0],[],[0,1,2],[],[],[0,1,2,3,4,5],[0,1,2,3,4,5,6]] [2,3] [_,_] [(kv ?_),(fun γ=>γ 1),(kv ?_),(fun γ=>γ 3),(fun γ=>γ 4),(fun γ=>γ 5)] (fun γ w'=>[True,BD w' (γ 1) p,True,BD w' (γ 3) q,AZ w' (γ 4) (w.heap.size+3) #[.bool false,.slice none 0 0,.bool false,.slice none 0 0] 28,AZ w' (γ 5) (w.heap.size+3) #[.bool false,.slice none 0 0,.bool false,.slice none 0 0] 28]) Bn Aj Aj Bo Aj Bl Br ?hstep6 ?_
 case hstep6 =>
  iterate 6 refine⟨?_,?_⟩
  trivial
  iterate 1 focus
   intro γ w' he hf;clear hf;refine⟨by trivial,?_⟩;intro R hR;have hc:=he.cells;go_simp;refine hR _ _ (Ext.refl _) ?_ trivial;rfl
  ·intro γ w' he hf;clear hf;refine⟨trivial,?_⟩;intro R hR
   go_simp;exact Bd (Fx _ p w' (HV.out.ext he.a3)) hR
  iterate 1 focus
   intro γ w' he hf;clear hf;refine⟨by trivial,?_⟩;intro R hR;have hc:=he.cells;go_simp;refine hR _ _ (Ext.refl _) ?_ trivial;rfl
  ·intro γ w' he hf;clear hf;refine⟨trivial,?_⟩;intro R hR
   go_simp;exact Bd (Fx _ q w' (HU.out.ext he.a3)) hR
  ·intro γ w' he hf;clear hf;refine⟨trivial,?_⟩;intro R hR
   go_simp;exact hR _ _ ((Ext.refl _).alloc _) rfl (AZ.mk (Nat.le_trans Ac he.size) (by simp[Ag]))
  ·intro γ w' he hf;clear hf;refine⟨trivial,?_⟩;intro R hR
   go_simp;exact hR _ _ ((Ext.refl _).alloc _) rfl (AZ.mk (Nat.le_trans Ac he.size) (by simp[Ag]))
 intro γ w1 hx1 hF hA;have na4x5:γ 4≠γ 5:=hA 4 5 Ab Ab Ab ⟨_,_,rfl,rfl⟩ ⟨_,_,rfl,rfl⟩;clear hA;have p1:BD w1 (γ 1) p:=AA.get hF 1 Ab;have p3:BD w1 (γ 3) q:=AA.get hF 3 Ab;have p4:AZ w1 (γ 4) (w.heap.size+3) #[.bool false,.slice none 0 0,.bool false,.slice none 0 0] 28:=AA.get hF 4 Ab;have p5:AZ w1 (γ 5) (w.heap.size+3) #[.bool false,.slice none 0 0,.bool false,.slice none 0 0] 28:=AA.get hF 5 Ab;clear hF
 simp only[Bf,Nat.reduceAdd];generalize γ 1=g1 at *;generalize γ 3=g3 at *;generalize γ 4=g4 at *;generalize γ 5=g5 at *;clear γ;obtain⟨ga,rfl,hga,ea⟩:=p4;obtain⟨gb,rfl,hgb,eb⟩:=p5;have hab:ga≠gb:=fun e=>na4x5 (by rw[e]);clear na4x5;obtain⟨b1,A1,n1,c1,b2,A2,n2,c2,rfl⟩:=p1.cells;obtain⟨b3,A3,n3,c3,b4,A4,n4,c4,rfl⟩:=p3.cells;obtain⟨cea0,cea1,cea2,cea3⟩:=ea.cells4;have fea:=ea.frozen;obtain⟨ceb0,ceb1,ceb2,ceb3⟩:=eb.cells4
 have feb:=eb.frozen
 go_upto_region 2 with(fail)
 obtain⟨W1,eW,ea',U⟩:=ea.put4 (.bool b1) (.slice A1 n1 c1) (.bool b2) (.slice A2 n2 c2) rfl rfl rfl rfl;rw[←eW];clear eW ea;replace p1:=p1.kd U.kd;replace p3:=p3.kd U.kd;replace eb:=eb.upd U Ai;replace hx1:=U.from_ hx1 Ai;have ea:=ea';clear U ea';obtain⟨W2,eW,eb',U⟩:=eb.put4 (.bool b3) (.slice A3 n3 c3) (.bool b4) (.slice A4 n4 c4) rfl rfl rfl rfl;rw[←eW];clear eW eb;replace p1:=p1.kd U.kd;replace p3:=p3.kd U.kd
 replace ea:=ea.upd U Ai;replace hx1:=U.from_ hx1 Ai;have eb:=eb';clear U eb';clear cea0 cea1 cea2 cea3 ceb0 ceb1 ceb2 ceb3 fea feb;have Hp:=Ad p1.parts4;have Hq:=Ad p3.parts4;clear p1 p3;obtain⟨cea0,cea1,cea2,cea3⟩:=ea.cells4;have fea:=ea.frozen;obtain⟨ceb0,ceb1,ceb2,ceb3⟩:=eb.cells4;have feb:=eb.frozen;have m1:=Fq HS.out.1 HS.out.2.2.2;have m2:=Fq HS.out.2.1 HS.out.2.2.1;have HB:=Ad (show sz p.num.natAbs≤274877906944∧sz ((p.den:Int)).natAbs≤274877906944∧sz q.num.natAbs≤274877906944∧sz ((q.den:Int)).natAbs≤274877906944 by
  have:=HS.out;omega)
 go_wp2_with fail
 refine Ae 9 [11,12,13,14,15,16,17,18,19] [[],[0],[],[2],[0,1,2,3],[],[5],[],[7],[0,1,2,3,4,5,6,7,8],[0,1,2,3,4,5,6,7,8,9],[0,1,2,3,4,5,6,7,8,9,10]] [5,6] [_,_] [(kv ?_),(kv ?_),(kv ?_),(kv ?_),(fun γ=>γ 4),(kv ?_),(kv ?_),(kv ?_),(kv ?_)] (fun γ w'=>[True,True,True,True,AO w' (γ 4) (p.num*q.den),True,True,True,True]) Bn Aj Aj Bo Aj Bl Br ?hstep7 ?_
 case hstep7 =>
  iterate 9 refine⟨?_,?_⟩
  trivial
  iterate 4 focus
   intro γ w' he hf;clear hf;refine⟨by trivial,?_⟩;intro R hR;have hc:=he.cells;have cq0:=he.cell cea0;have cq1:=he.cell cea1;have cq2:=he.cell cea2;have cq3:=he.cell cea3;have cq4:=he.cell ceb0;have cq5:=he.cell ceb1;have cq6:=he.cell ceb2;have cq7:=he.cell ceb3;go_simp;refine hR _ _ (Ext.refl _) ?_ trivial;rfl
  ·intro γ w' he hf;clear hf;refine⟨trivial,?_⟩;intro R hR
   go_simp;exact Bd (FQ _ _ _ _ w' ((Hp.out.1.ext he).has (by have:=HB.out;omega)) ((Hq.out.2.ext he).has (by have:=HB.out;omega)) (by have:=HB.out;omega) (by have:=HB.out;omega)) hR
  iterate 4 focus
   intro γ w' he hf;clear hf;refine⟨by trivial,?_⟩;intro R hR;have hc:=he.cells;have cq0:=he.cell cea0;have cq1:=he.cell cea1;have cq2:=he.cell cea2;have cq3:=he.cell cea3;have cq4:=he.cell ceb0;have cq5:=he.cell ceb1;have cq6:=he.cell ceb2;have cq7:=he.cell ceb3;go_simp;refine hR _ _ (Ext.refl _) ?_ trivial;rfl
 intro γ w6 hx6 hF;have p4:AO w6 (γ 4) (p.num*q.den):=AA.get hF 4 Ab;clear hF;simp only[Bf,Nat.reduceAdd];generalize γ 4=g4 at *;clear γ;clear cea0 cea1 cea2 cea3 ceb0 ceb1 ceb2 ceb3 fea feb ea eb;replace hx1:=hx1.trans hx6
 go_wp2_with fail
 refine AL (FQ _ _ _ _ _ ((Hp.out.2.ext hx6).has (by have:=HB.out;omega)) ((Hq.out.1.ext hx6).has (by have:=HB.out;omega)) (by have:=HB.out;omega) (by have:=HB.out;omega)) ?_;rintro r w7 p15 hx7;replace p4:=p4.ext hx7;replace hx1:=hx1.trans hx7;clear hx7 hx6
 go_wp2_with fail
 refine AL (Ib _ _ _ _ _ (p4.has Aa) (p15.has Aa) Aa Aa) ?_;rintro r w10 hr hx10;rw[Hz.out]at hr;replace hx1:=hx1.trans hx10;clear hx10 p4 p15;obtain⟨b5,A5,n5,c5,b6,A6,n6,c6,rfl⟩:=hr.cells;have hc1:=hx1.cells;have hf1:=hx1.frozens;have Hfin:=Ad (Cy hr hx1.a3 (AX.at_ hx1 (g:=w.heap.size+2) Ac (by simp[Ag])) Aa);clear hr;go_wp2;refine bodyPost_ret (v := .agg #[.bool b5,.slice A5 n5 c5,.bool b6,.slice A6 n6 c6]) (by simp[results,Tryz.results128,go_sem,hc1]) rfl ?_
 exact Hfin.out
theorem XT(v u:Value)(p q:Rat)(w:World)(hv:BQ w v p)(hu:BQ w u q)(hs:qsz p+qsz q < 549755813888):Bh 57 #[v,u] w (fun r w'=>BD w' r (p - q)):=by
 have HV:=Ad hv;have HU:=Ad hu;have hs2:=hu.qsz;obtain⟨b,A,n,c,b',A',n',c',x,y,rfl,-⟩:=hv.form;obtain⟨d,E,m,e,d',E',m',e',s,t,rfl,-⟩:=hu.form;clear hv hu;rw[Rat.sub_eq_add_neg]
 go_enter Tryz.func57,Tryz.ntmps57
 go_wp2_with fail
 refine Ae 3 [5,6,7] [[],[],[1],[0,1,2],[0,1,2,3]] [2,3] [_,_] [(kv ?_),(kv ?_),(fun γ=>γ 2)] (fun γ w'=>[True,True,BD w' (γ 2) (-q)]) Bn Aj Aj Bo Aj Bl Br ?hstep8 ?_
 case hstep8 =>
  iterate 3 refine⟨?_,?_⟩
  trivial
  iterate 2 focus
   intro γ w' he hf;clear hf;refine⟨by trivial,?_⟩;intro R hR;have hc:=he.cells;go_simp;refine hR _ _ (Ext.refl _) ?_ trivial;rfl
  ·intro γ w' he hf;clear hf;refine⟨trivial,?_⟩;intro R hR
   go_simp;exact Bd (XY _ q w' (HU.out.ext he.a3)) hR
 intro γ w1 hx1 hF;have p2:BD w1 (γ 2) (-q):=AA.get hF 2 Ab;clear hF;simp only[Bf,Nat.reduceAdd];generalize γ 2=g2 at *;clear γ
 go_wp2_with fail
 refine AL (Tv _ _ p (-q) _ (HV.out.ext hx1.a3) (p2.has (by rw[G6];exact hs2)) (by rw[G6];exact hs)) ?_;rintro r w2 hr hx2;replace hx1:=hx1.trans hx2;clear hx2 p2;obtain⟨b5,A5,n5,c5,b6,A6,n6,c6,rfl⟩:=hr.cells;have hc1:=hx1.cells;have hf1:=hx1.frozens;have Hfin:=Ad (Cy hr hx1.a3 (AX.at_ hx1 (g:=w.heap.size+2) Ac (by simp[Ag])) Aa);clear hr;go_wp2;refine bodyPost_ret (v := .agg #[.bool b5,.slice A5 n5 c5,.bool b6,.slice A6 n6 c6]) (by simp[results,Tryz.results57,go_sem,hc1]) rfl ?_
 exact Hfin.out
theorem Lf(v u:Value)(p q:Rat)(w:World)(hv:BQ w v p)(hu:BQ w u q)(hs:qsz p+qsz q < 274877906944):Bh 20 #[v,u] w (fun r _=>r = .int .i64 (FB (p - q))):=by
 have HV:=Ad hv;have HU:=Ad hu;obtain⟨b,A,n,c,b',A',n',c',x,y,rfl,-⟩:=hv.form;obtain⟨d,E,m,e,d',E',m',e',s,t,rfl,-⟩:=hu.form;clear hv hu
 go_enter Tryz.func20,Tryz.ntmps20
 go_wp2_with fail
 refine AL (XT _ _ p q _ (HV.out.ext (((Ext.refl w).alloc _).alloc _)) (HU.out.ext (((Ext.refl w).alloc _).alloc _)) Aa) ?_;rintro r w1 hr hx1
 go_wp2_with fail
 refine AL (M8 _ (p - q) _ (hr.has (by have:=Py p q;omega))) ?_;rintro r w2 rfl hx2;go_wp2
 go_ret
 exact Ah.mk rfl (hx1.trans hx2).a2
theorem ZY(v u:Value)(p q:Rat)(w:World)(hv:BQ w v p)(hu:BQ w u q):Bh 99 #[v,u] w (fun r w'=>BD w' r (p - q)):=by
 have HV:=Ad hv;have HU:=Ad hu;have hs:=hu.qsz;obtain⟨b,A,n,c,b',A',n',c',x,y,rfl,-⟩:=hv.form;obtain⟨d,E,m,e,d',E',m',e',s,t,rfl,-⟩:=hu.form;clear hv hu;rw[Rat.sub_eq_add_neg]
 go_enter Tryz.func99,Tryz.ntmps99
 go_wp2_with fail
 refine Ae 3 [5,6,7] [[],[],[1],[0,1,2],[0,1,2,3]] [2,3] [_,_] [(kv ?_),(kv ?_),(fun γ=>γ 2)] (fun γ w'=>[True,True,BD w' (γ 2) (-q)]) Bn Aj Aj Bo Aj Bl Br ?hstep1 ?_
 case hstep1 =>
  iterate 3 refine⟨?_,?_⟩
  trivial
  iterate 2 focus
   intro γ w' he hf;clear hf;refine⟨by trivial,?_⟩;intro R hR;have hc:=he.cells;go_simp;refine hR _ _ (Ext.refl _) ?_ trivial;rfl
  ·intro γ w' he hf;clear hf;refine⟨trivial,?_⟩;intro R hR
   go_simp;exact Bd (aL _ q w' (HU.out.ext he.a3)) hR
 intro γ w1 hx1 hF;have p2:BD w1 (γ 2) (-q):=AA.get hF 2 Ab;clear hF;simp only[Bf,Nat.reduceAdd];generalize γ 2=g2 at *;clear γ
 go_wp2_with fail
 refine AL (U5 _ _ p (-q) _ (HV.out.ext hx1.a3) (p2.has (by rw[G6];exact hs))) ?_;rintro r w2 hr hx2;replace hx1:=hx1.trans hx2;clear hx2 p2;obtain⟨b5,A5,n5,c5,b6,A6,n6,c6,rfl⟩:=hr.cells;have hc1:=hx1.cells;have hf1:=hx1.frozens;have Hfin:=Ad (Cy hr hx1.a3 (AX.at_ hx1 (g:=w.heap.size+2) Ac (by simp[Ag])) Aa);clear hr;go_wp2;refine bodyPost_ret (v := .agg #[.bool b5,.slice A5 n5 c5,.bool b6,.slice A6 n6 c6]) (by simp[results,Tryz.results99,go_sem,hc1]) rfl ?_
 exact Hfin.out
theorem Y5(v u:Value)(p q:Rat)(w:World)(hv:BQ w v p)(hu:BQ w u q)(hs:qsz p+qsz q < 274877906944):Bh 49 #[v,u] w (fun r _=>r = .int .i64 (FB (p - q))):=by
 have HV:=Ad hv;have HU:=Ad hu;obtain⟨b,A,n,c,b',A',n',c',x,y,rfl,-⟩:=hv.form;obtain⟨d,E,m,e,d',E',m',e',s,t,rfl,-⟩:=hu.form;clear hv hu
 go_enter Tryz.func49,Tryz.ntmps49
 go_wp2_with fail
 refine AL (ZY _ _ p q _ (HV.out.ext (((Ext.refl w).alloc _).alloc _)) (HU.out.ext (((Ext.refl w).alloc _).alloc _))) ?_;rintro r w1 hr hx1
 go_wp2_with fail
 refine AL (MS _ (p - q) _ (hr.has (by have:=Py p q;omega))) ?_;rintro r w2 rfl hx2;go_wp2
 go_ret
 exact Ah.mk rfl (hx1.trans hx2).a2
theorem XR{q:Rat}(h:q=0):(FB q==0)=true:=by subst h;rfl
theorem Xo{q:Rat}(h:q≠0):(FB q==0)=false:=by simpa[QX] using h
theorem bI(v:Value)(q:Rat)(w:World)(hv:BQ w v q):Bh 179 #[v] w (fun r _=>r = .bool (FB q==0)):=by
 have HV:=Ad hv;obtain⟨b,A,n,c,b',A',n',c',x,y,rfl,-⟩:=hv.form;clear hv
 go_enter Tryz.func179,Tryz.ntmps179
 go_wp2_with fail
 refine AL (MS _ q _ (HV.out.ext ((Ext.refl w).alloc _))) ?_;rintro r w1 rfl hx1;go_wp2
 go_ret
 exact Ah.mk rfl hx1.a1
/-- qpoly.trimmed: without the zeros at the end,in place. -/
theorem GY(base:Nat)(A:Option Addr)(c:Nat)(l:List Rat)(w:World)(hl:l.length≤c)(hc:c≤9223372036854775807)(hA:Lr base w A l) :
  Calls Tryz.prog 158 #[.slice A l.length c] w fun e w'=>e = .returned (.slice A (BU l).length c)∧w=w':=by
 go_enter Tryz.func158,Tryz.ntmps158
 go_wp2
 go_loop [0] (fun v=>∃ m:Nat,m≤l.length∧v = .slice A m c∧∀ j,m≤j→(h:j < l.length)→l[j]=0) (fun v=>match v with | .slice _ m _=>m | _=>0)
 case atStart=>exact⟨l.length,Nat.le_refl _,rfl,fun j h1 h2=>Aa⟩
 case round =>
  obtain⟨m,hm,rfl,hz⟩:=hrel;by_cases h0:0 < m
  ·obtain⟨m,rfl⟩:∃ k,m=k+1:=⟨m - 1,Aa⟩
   obtain⟨g,o,b,A1,n,c1,b',A1',n',c',rfl,hb,q0,q1,q2,q3,hq⟩:=hA.at_ (j:=m) Aa;have hn:=hq.num_len;by_cases hd0:l[m]'(Aa)=0
   ·have hb:(((n:Nat):Int)==0)=true:=by rw[hn,hd0];rfl
    clear hA hn;go_wp2
    go_round
    case rel=>exact⟨m,Aa,rfl,fun j h1 h2=>by
     rcases Nat.eq_or_lt_of_le h1 with e | e
     ·subst e;exact hd0
     ·exact hz j Aa h2⟩
    case measure=>simp
   ·have hb:(((n:Nat):Int)==0)=false:=by
     have:=DY (n:=l[m].num.natAbs) (by have:l[m].num≠0:=fun e=>hd0 (Rat.num_eq_zero.1 e);omega);rw[←hn]at this;simp;omega
    clear hA hn;go_wp2
    go_ret
    have ht:=G5 hm hz (fun h _=>by simpa using hd0);have hlen:(BU l).length=m+1:=by rw[ht,List.length_take];omega
    exact⟨by rw[hlen];rfl,rfl⟩
  ·obtain rfl:m=0:=by omega
   go_wp2
   go_ret
   have ht:=G5 hm hz (fun h hh=>Aa);have hlen:(BU l).length=0:=by rw[ht];rfl
   exact⟨by rw[hlen];rfl,rfl⟩
theorem Pt.trim{base:Nat}{w:World}{A:Option Addr}{l:List Rat}(h:Lr base w A l){c:Nat}(hl:l.length≤c)(hc:c≤9223372036854775807:=by omega):Pt base w (.slice A (BU l).length c) (BU l):=by
 refine⟨A,c,rfl,by have:=Og l;omega,hc,?_⟩;rw[Fs l];exact DK.take h _
theorem Ny:(Tryz.prog.info? 28).map (fun i=>(i.zero,i.size,i.bytes))=some (some (.agg #[.bool false,.slice none 0 0,.bool false,.slice none 0 0]),4,64):=by kernel_rfl
theorem Li(n:Nat)(x:Int)(hx:x=n)(hn:n≤1099511627776)(w:World):∃ W,(Instr.makeSlice 135 (.int .i64 x) (.int .i64 x)).run Tryz.prog w = .ok (.slice (some ⟨w.heap.size,0,none⟩) n n) W∧Cx W w.heap.size 28 (List.replicate n none)∧Ext w W:=by
 subst hx;obtain⟨i0,hi,hz0,hz1,hz2⟩:=info_parts Ny;have h:=run_make (P:=Tryz.prog) w 135 28 i0 (.agg #[.bool false,.slice none 0 0,.bool false,.slice none 0 0]) Tryz.underlying135 hi hz0 .i64 .i64 (n:Int) (n:Int) Aa Aa (by rw[hz2];omega) Aa;rw[h,hz1,Int.toNat_natCast];exact⟨_,rfl,Cx.new w _ n,(Ext.refl w).alloc _⟩
theorem Rv{l:List (Option Rat)}{m:List Rat}{k n:Nat}{q:Rat}(h:l=(m.take k).map some ++ List.replicate (n - k) none)(hk:k < n)(hm:m.length=n)(hq:m[k]'(by omega)=q):l.set k (some q)=(m.take (k+1)).map some ++ List.replicate (n - (k+1)) none:=by
 subst h;have h1:((m.take k).map some:List (Option Rat)).length=k:=by simp;omega
 rw[List.set_append,if_neg (by rw[h1];omega),h1,Nat.sub_self,show n - k=(n - (k+1))+1 from Aa,List.replicate_succ,List.set_cons_zero,List.take_succ_eq_append_getElem Aa,hq];simp
theorem Nn(v:Value)(l:List Rat)(w:World)(hv:KU 0 w v l)(hn:l.length≤1099511627776):Bh 156 #[v] w (fun r w'=>r = .slice (some ⟨w.heap.size,0,none⟩) (BU l).length l.length∧Cx w' w.heap.size 28 (l.map some)):=by
 obtain⟨A,c,rfl,hl,hc,hA⟩:=hv;obtain⟨W0,hmk,ea,hx⟩:=Li l.length (l.length:Int) rfl hn w;have HA:Hid (Qj 0 w A l):=Ad hA;clear hA
 go_enter Tryz.func156,Tryz.ntmps156
 go_wp2
 go_loopw [11] (fun iv wr=>∃ (k:Nat) (la:List (Option Rat)),k≤l.length∧iv = .int .i64 k∧Cx wr w.heap.size 28 la∧la.length=l.length∧la=(l.take k).map some ++ List.replicate (l.length - k) none∧Ext w wr) (fun iv _=>l.length - (intOf iv).toNat)
 case atStart=>exact⟨0,_,Nat.zero_le _,rfl,ea,Ac,Ac,hx⟩
 case round =>
  obtain⟨k,la,hk,rfl,ea,hlen,hla,hx⟩:=hrel;have Hla:=Ad hla;clear hla;have Hlen:=Ad hlen;clear hlen;by_cases hkl:k < l.length
  ·obtain⟨g,o,b,A1,n,c1,b',A1',n',c1',rfl,_,q0,q1,q2,q3,hq⟩:=HA.out.at_ (j:=k) hkl
   replace q0:=hx.cell q0;replace q1:=hx.cell q1;replace q2:=hx.cell q2;replace q3:=hx.cell q3;have Hq:=Ad hq;clear hq
   go_wp2_with fail
   refine AL (GN _ _ _ (Hq.out.ext (hx.alloc _))) ?_;rintro r w2 hr hx2;replace ea:=ea.ext hx2.a1;replace hx:=hx.trans hx2.a1;clear hx2 q0 q1 q2 q3;obtain⟨b5,A5,n5,c5,b6,A6,n6,c6,rfl⟩:=hr.cells;have hkla:k < la.length:=by have:=Hlen.out;omega
   obtain⟨_,_,_,_,_,_,_,_,ca0,ca1,ca2,ca3,-⟩:=ea.at_ (j:=k) (by first | omega | (simp;omega));have fa0:=ea.frozen (k*4);have fa1:=ea.frozen (k*4+1);have fa2:=ea.frozen (k*4+2);have fa3:=ea.frozen (k*4+3);go_wp2;obtain⟨W3,eW,ea',U⟩:=ea.put (k:=k) (by first | omega | (simp;omega)) hr;rw[←eW];clear eW ea;replace hx:=U.from_ hx Ai;have ea:=ea';clear U ea'
   go_roundw
   case rel=>exact⟨k+1,_,Aa,by go_num,ea,by simpa using Hlen.out,Rv Hla.out hkl rfl rfl,hx⟩
   case measure=>simp[intOf];omega
  ·obtain rfl:k=l.length:=by omega
   replace ea:Cx wr w.heap.size 28 (l.map some):=by
    have:=Hla.out;rw[Nat.sub_self,List.replicate_zero,List.append_nil,List.take_of_length_le (Nat.le_refl _)]at this;rw[←this];exact ea
   have hrow:=ea.row (m:=l) rfl (Nat.le_refl _)
   go_wp2_with fail
   refine Calls.mono (GY w.heap.size _ _ l _ (Nat.le_refl _) Aa hrow) ?_;rintro e w2 ⟨rfl,rfl⟩;go_wp2
   go_ret
   exact Ah.mk ⟨rfl,ea⟩ hx
theorem Va(v:Value)(l:List Rat)(w:World)(hv:KU 0 w v l)(hn:l.length≤1099511627776):Bh 156 #[v] w (fun r w'=>Pt w.heap.size w' r (BU l)):=
 Ah.imp (Nn v l w hv hn) fun _ _ ⟨e,h⟩=>by subst e;exact Pt.trim (h.row rfl (Nat.le_refl _)) (Nat.le_refl _) Aa
end Go.Proofs.YtmhgnigpmompmaaGreat
namespace Go.Hp
theorem BQ.zero(w:World):BQ w (.agg #[.bool false,.slice none 0 0,.bool false,.slice none 0 0]) 0:=
 ⟨_,_,_,_,_,_,_,_,0,0,rfl,(AO.zero w).has Ab,(AO.zero w).has Ab,Ab,Ab,Ac⟩
end Go.Hp
namespace Go.Proofs.YtmhgnigpmompmaaGreat
open Go.RowKit Go.Hp
end Go.Proofs.YtmhgnigpmompmaaGreat
namespace Go.Hp
theorem Cx.full_at{w:World}{g:Nat}{t:TypeId}{N:Nat}{F:Nat→Rat}(h:Cx w g t (Dy N F)){j:Nat}(hj:j < N) :
  ∃ b A n c b' A' n' c',w.cell? ⟨g,j*4,none⟩=some (.bool b)∧w.cell? ⟨g,j*4+1,none⟩=some (.slice A n c)∧w.cell? ⟨g,j*4+2,none⟩=some (.bool b')∧w.cell? ⟨g,j*4+3,none⟩=some (.slice A' n' c')∧BD w (.agg #[.bool b,.slice A n c,.bool b',.slice A' n' c']) (F j):=by
 obtain⟨b,A,n,c,b',A',n',c',q0,q1,q2,q3,q⟩:=h.at_ (j:=j) (by rw[NM];exact hj);rw[WP]at q;exact⟨b,A,n,c,b',A',n',c',q0,q1,q2,q3,q⟩
end Go.Hp
namespace Go.Proofs.YtmhgnigpmompmaaGreat
open Go.RowKit Go.Hp
end Go.Proofs.YtmhgnigpmompmaaGreat
namespace Go.Hp
theorem UB{x:Int}(h1 : -9223372036854775808≤x)(h2:x≤9223372036854775808):qsz (x:Rat)≤2:=by
 have h3:=Jj (n:=x.natAbs) Aa;have h4:sz 1=1:=by decide
 show max (sz x.natAbs) (sz 1)≤2;omega
theorem IE{α:Type}(F:Nat→α)(k:Nat):(List.range (k+1)).map F=(List.range k).map F ++ [F k]:=by rw[List.range_succ];simp
theorem Ve{n:Nat}(h:n≤1099511627776):n+1≤maxLen:=by simp only[maxLen];omega
end Go.Hp
namespace Go.Proofs.YtmhgnigpmompmaaGreat
open Go.RowKit Go.Hp
end Go.Proofs.YtmhgnigpmompmaaGreat
namespace Go.Hp
def Eg(k j:Nat)(c:Rat)(R G:Nat→Rat)(n:Nat):Rat:=R n - (if k≤n∧n - k < j then c*G (n - k)else 0)
theorem Lc(k:Nat)(c:Rat)(R G:Nat→Rat):Eg k 0 c R G=R:=by
 funext n;unfold Eg;rw[if_neg Aa];grind
theorem J8{k m:Nat}{c:Rat}{R G:Nat→Rat}(h:BB m G):Eg k m c R G=psb R (cv (mono k c) G):=by
 funext n
 rw[EX];show R n - _=R n - c*sh k G n;unfold sh;by_cases h1:n < k
 ·rw[if_neg Aa,if_pos h1];grind
 ·rw[if_neg h1]
  by_cases h2:n - k < m
  ·rw[if_pos ⟨Aa,h2⟩]
  ·rw[if_neg Aa,h _ Aa];grind
theorem La(k j:Nat)(c:Rat)(R G:Nat→Rat)(n:Nat):Eg k (j+1) c R G n=if n=k+j then Eg k j c R G n - c*G j else Eg k j c R G n:=by
 unfold Eg;by_cases h:n=k+j
 ·subst h;rw[if_pos rfl,if_pos Aa,if_neg Aa,show k+j - k=j from by omega];grind
 ·rw[if_neg h]
  by_cases h2:k≤n∧n - k < j
  ·rw[if_pos h2,if_pos Aa]
  ·rw[if_neg h2,if_neg Aa]
theorem QR{k j:Nat}{c:Rat}{R G:Nat→Rat}{m s:Nat}(hG:BB m G)(h1:∀ n,qsz (R n)≤s)(h2:∀ n,qsz (psb R (cv (mono k c) G) n)≤s)(n:Nat):qsz (Eg k j c R G n)≤s:=by
 by_cases h:k≤n∧n - k < j
 ·have e:Eg k j c R G n=psb R (cv (mono k c) G) n:=by
   rw[←J8 hG];unfold Eg;rw[if_pos h];by_cases h3:k≤n∧n - k < m
   ·rw[if_pos h3]
   ·rw[if_neg h3,hG _ Aa];grind
  rw[e];exact h2 n
 ·have e:Eg k j c R G n=R n:=by unfold Eg;rw[if_neg h];grind
  rw[e];exact h1 n
theorem Qf(l:List Rat):l.map some=Dy l.length (co l):=by
 apply List.ext_getElem
 ·simp[Dy]
 ·intro i h1 h2
  have:i < l.length:=by simpa using h1
  simp[Dy,DW this]
def JN(w:World)(v:Value)(c:Rat):Prop:=∃ a,v = .tuple #[a,.int .i64 0]∧BD w a c
theorem JN.ext{w w':World}{v:Value}{c:Rat}(h:JN w v c)(e:Ext w w'):JN w' v c:=by
 obtain⟨a,h1,h2⟩:=h;exact⟨a,h1,h2.ext e⟩
theorem YC{la:List (Option Rat)}{n:Nat}{Q:Nat→Rat}(hl:la.length=n)(h:∀ j (hj:j < la.length),la[j]=some (Q j)):la=Dy n Q:=by
 apply List.ext_getElem
 ·simp[Dy,hl]
 ·intro i h1 h2
  rw[h i h1];simp[Dy]
def IY(F G:Nat→Rat)(n s t i:Nat)(la:List (Option Rat))(Q R:Nat→Rat):Prop:=
 la.length=n∧(∀ j (h:j < la.length),i≤j→la[j]=some (Q j))∧(∀ j,j < i→Q j=0)∧BB n Q∧BB (i+pl G - 1) R∧F=pad (cv Q G) R∧CD (s+(n - i)*(t+1)) R
theorem IY.start{F G:Nat→Rat}{n s t:Nat}(hF:BB (n+pl G - 1) F)(hs:CD s F):IY F G n s t n (List.replicate n none) pz F:=
 ⟨Ac,fun j h h'=>by simp at h;omega,fun _ _=>rfl,BB.pz _,hF,by rw[CG];funext m;simp only[pad,pz];grind,hs.mono Aa⟩
theorem IY.step{F G:Nat→Rat}{n s t k:Nat}{la:List (Option Rat)}{Q R:Nat→Rat}(hG:Af G)(h0:G≠pz)(hcG:CD t G)(h:IY F G n s t (k+1) la Q R)(hk:k < n){c:Rat}(hc:c=R (k+pl G - 1) / ld G) :
  IY F G n s t k (la.set k (some c)) (pad Q (mono k c)) (psb R (cv (mono k c) G)):=by
 obtain⟨h1,h2,h3,h4,h5,h6,h7⟩:=h;have hp:=Be hG h0;refine⟨by simpa using h1,fun j hj hkj=>?_,fun j hj=>?_,h4.pad ((CX k c).mono Aa),?_,?_,?_⟩
 ·rw[List.getElem_set]
  split
  ·rename_i e;subst e
   show some c=some (Q k+mono k c k);rw[h3 k Aa,Ja];congr 1;grind
  ·rename_i e
   rw[h2 j (by simpa using hj) Aa];show some (Q j)=some (Q j+mono k c j);rw[Ez (fun e'=>e e'.symm)];congr 1;grind
 ·show Q j+mono k c j=0
  rw[h3 j Aa,Ez Aa];grind
 ·subst hc
  exact F3 hG h0 (h5.mono Aa)
 ·rw[Dk]
  funext m
  have:=congrFun h6 m;simp only[pad,psb]at this ⊢;grind
 ·subst hc
  refine(CD.step (n:=k) hG h0 h7 hcG).mono ?_;have:n - k=(n - (k+1))+1:=by omega
  rw[this,Nat.succ_mul];omega
theorem IY.end_{F G:Nat→Rat}{n s t:Nat}{la:List (Option Rat)}{Q R:Nat→Rat}(hF:Af F)(hG:Af G)(h0:G≠pz)(h:IY F G n s t 0 la Q R):la=Dy n Q∧Q=pq F G∧R=pr F G∧BB n Q:=by
 obtain⟨h1,h2,h3,h4,h5,h6,h7⟩:=h;have:=GU hF hG h0 ⟨n,h4⟩ h6 (by rwa[Nat.zero_add]at h5);exact⟨YC h1 fun j hj=>h2 j hj (Nat.zero_le _),this.1,this.2,h4⟩
theorem NV{k:Nat}{c:Rat}(h:c=0)(R G:Nat→Rat):psb R (cv (mono k c) G)=R:=by
 funext n;rw[EX];simp only[psb,psc];rw[h];grind
theorem IR(l:List Rat):(BU l).length=pl (co l):=by rw[←(Fv l).pl,Gw]
theorem Cx.isP{base:Nat}{w:World}{g:Nat}{t:TypeId}{N:Nat}{F:Nat→Rat}(h:Cx w g t (Dy N F))(hF:BB N F)(hb:base≤g){c:Nat}(hc:N≤c)(hm:c≤9223372036854775807):Da base w (.slice (some ⟨g,0,none⟩) (pl F) c) F:=by
 have e:=Jp hF;have hrow:=h.row (KA N F) hb;have hl:((List.range N).map F).length=N:=DN N F;have:=Bq hF;refine⟨BU ((List.range N).map F),⟨_,c,by rw[IR,e],by rw[IR,e];omega,hm,?_⟩,Fv _,by rw[Gw,e]⟩;rw[Fs];exact DK.take hrow _
end Go.Hp
namespace Go.Proofs.YtmhgnigpmompmaaGreat
open Go.RowKit Go.Hp
set_option maxRecDepth 20000 in
theorem Wq(v u:Value)(F G:Nat→Rat)(s t:Nat)(w:World)(hv:Da 0 w v F)(hu:Da 0 w u G)(h0:G≠pz)(hF:CD s F)(hG:CD t G)(hb:pl F≤1099511627776)(hK:s+(pl F+2)*(t+1)+2*t+2≤274877906944) :
  Bh 157 #[v,u] w (fun r w'=>∃ a b,r = .tuple #[a,b]∧Da w.heap.size w' a (pq F G)∧Da w.heap.size w' b (pr F G)):=by
 have hFf:=hv.fin;have hGf:=hu.fin;have hpG:=Be hGf h0;obtain⟨lf,hfv,hfl,hft,hfc⟩:=hv.hs (fun i=>by have:=hF.elem i;have:0 < (pl F+2)*(t+1):=Nat.mul_pos Aa Aa;omega);obtain⟨E,d,lg,rfl,hgd,hd,hE,hgl,hgt,hgc⟩:=hu.form;obtain⟨A,c,hve⟩:=hfv.len;have Hn:=Ad (Nn v lf w hfv Aa);have hft':BU lf=lf:=(Fv lf).uniq hft (Gw lf);subst hve;rw[hfl]at Hn ⊢;have HE:=Ad hE;have HX:=Ad (Ak hFf (Ak hGf (Ak h0 (Ak hF (Ak hG hK)))))
 have HL:=Ad (Ak hfl (Ak hfc (Ak hgl (Ak hgc hft'))));clear hv hu h0 hF hG hK hFf hGf hE hgl hgt hgc hfv hfl hft hfc hft'
 go_enter Tryz.func157,Tryz.ntmps157
 go_wp2_with fail
 refine AL Hn.out ?_;rintro r w1 ⟨rfl,er⟩ hx1;rw[HL.out.2.2.2.2,HL.out.1];rw[Qf,HL.out.1,HL.out.2.1]at er;clear Hn;by_cases hlt:pl F < pl G
 ·go_wp2
  go_ret2
  have hdl:=Ke (F:=F) (G:=G) ((AU HX.out.1).mono Aa) HX.out.2.1 HX.out.2.2.1;rw[hdl.1,hdl.2];exact Ah.mk ⟨_,_,rfl,Da.nil _ _,er.isP (AU HX.out.1) (Nat.le_refl _) (Nat.le_refl _) Aa⟩ hx1
 obtain⟨n,hn⟩:∃ n,n=pl F - pl G+1:=⟨_,rfl⟩
 have hnF:n+pl G=pl F+1:=by omega
 have hn1:1≤n:=by omega
 have hn40:n≤1099511627776:=by omega
 obtain⟨W0,hmk,eq,hxq⟩:=Li n ((pl F:Int) - pl G+1) Aa hn40 w1;have HN:=Ad hnF;clear hnF hn;have hg12:=er.lt;replace er:=er.ext hxq;replace hx1:=hx1.trans hxq;clear hxq;go_wp2
 go_loopw [6] (fun iv wr=>∃ (i:Nat) (Q Rm:Nat→Rat) (la:List (Option Rat)),i≤n∧(∃ z:Int,z+1=i∧iv = .int .i64 z)∧Cx wr w.heap.size 28 (Dy (pl F) Rm)∧Cx wr w1.heap.size 28 la∧IY F G n s t i la Q Rm∧Ext w wr) (fun iv _=>(intOf iv+1).toNat)
 case atStart=>exact⟨n,pz,F,_,Nat.le_refl _,⟨_,Aa,rfl⟩,er,eq,IY.start ((AU HX.out.1).mono (by have:=HN.out;omega)) HX.out.2.2.2.1,hx1⟩
 case round =>
  clear er eq hx1;obtain⟨i,Q,Rm,la,hi,⟨z,hz,rfl⟩,er,eq,hst,hx⟩:=hrel;have HR:=Ad hst;clear hst;by_cases hi0:0 < i
  ·obtain⟨k,rfl⟩:∃ k,i=k+1:=⟨i - 1,Aa⟩
   obtain rfl:z=(k:Int):=by omega
   clear hz hi0;have hkn:k < n:=by omega
   have hkp:k+pl G - 1 < pl F:=by have:=HN.out;omega
   have HL2:=HL.out.2.2.1;obtain⟨z1,Z1,zn,zc,z2,Z2,zn',zc',ca0,ca1,ca2,ca3,hza⟩:=er.full_at (j:=k+pl G - 1) hkp;obtain⟨g,o,b,A1,m1,c1,b',A1',m1',c1',rfl,_,q0,q1,q2,q3,hq⟩:=HE.out.at_ (j:=pl G - 1) Aa;replace q0:=hx.cell q0;replace q1:=hx.cell q1;replace q2:=hx.cell q2;replace q3:=hx.cell q3;have hlead:lg[pl G - 1]'(Aa)=ld G:=by rw[←DW,HL.out.2.2.2.1];rfl
   rw[hlead]at hq;have Hq:=Ad (Ak hza hq);clear hza hq hlead HL2;have HB:=Ad (show qsz (Rm (k+pl G - 1))≤274877906944∧qsz (ld G)≤274877906944∧ld G≠0 by
    have h0:=HN.out;have h1:=HR.out.2.2.2.2.2.2.elem (k+pl G - 1);have h2:qsz (ld G)≤t:=HX.out.2.2.2.2.1.elem _;have h3:=HX.out.2.2.2.2.2;have h4:(n - (k+1))*(t+1)≤(pl F+2)*(t+1):=Nat.mul_le_mul_right _ Aa;exact⟨Aa,Aa,D8 HX.out.2.1 HX.out.2.2.1⟩)
   obtain⟨c0,hc0⟩:∃ c0,c0=Rm (k+pl G - 1) / ld G:=⟨_,rfl⟩
   have Hc0:=Ad hc0;clear hc0;have hkla:k < la.length:=by have:=HR.out.1;omega
   have Hkla:=Ad hkla
   go_wp2_with fail
   go_cut [] (fun wx=>Cx wx w1.heap.size 28 (la.set k (some c0))∧Cx wx w.heap.size 28 (Dy (pl F) Rm)∧Ext w wx)
   case first =>
    refine Bz 20 [19] (fun x=>22) [32,33,34,35,36,37,38,39,40,41,42,43,44,45,46,47,48,31,49,50] [[],[],[],[],[],[4],[3,4,5],[3,4,5,6],[2,3,4,5,6,7],[2,3,4,5,6,7,8],[],[],[11],[11,12],[10,11,12,13],[10,11,12,13,14],[2,3,4,5,6,7,8,9,10,11,12,13,14,15],[2,3,4,5,6,7,8,9,10,11,12,13,14,15,16],[2,3,4,5,6,7,8,9,10,11,12,13,14,15,16,17],[2,3,4,5,6,7,8,9,10,11,12,13,14,15,16,17],[0,1,2,3,4,5,6,7,8,9,10,11,12,13,14,15,16,17,18],[0,1,2,3,4,5,6,7,8,9,10,11,12,13,14,15,16,17,18,20]] [4,6,5,1] [_,_,_,_] [(kv ?_),(kv ?_),(kv ?_),(kv ?_),(kv ?_),(kv ?_),(kv ?_),(kv ?_),(kv ?_),(kv ?_),(kv ?_),(kv ?_),(kv ?_),(kv ?_),(kv ?_),(kv ?_),(fun γ=>γ 16),(fun γ=>γ 16),(fun γ=>γ 18),(kv ?_)] (fun γ w'=>[True,True,True,True,True,True,True,True,True,True,True,True,True,True,True,True,JN w' (γ 16) c0,True,BD w' (γ 18) c0,True]) Bn Aj Aj Aj Aj Aj Bo Aj Bl ?hmono1 ?hstep1 ?_ ?hlate1
    case hstep1 =>
     iterate 20 refine⟨?_,?_⟩
     trivial
     iterate 16 focus
      intro γ w' he hf;clear hf;refine⟨by trivial,?_⟩;intro R hR;have hc:=he.cells;have cq0:=he.cell ca0;have cq1:=he.cell ca1;have cq2:=he.cell ca2;have cq3:=he.cell ca3;have cq4:=he.cell q0;have cq5:=he.cell q1;have cq6:=he.cell q2;have cq7:=he.cell q3;go_simp;(try go_ints);(try(rw[if_neg Aa]));(try(rw[if_pos Aa]));(try go_simp);(try go_ints)
      refine hR _ _ (Ext.refl _) ?_ trivial;rfl
     ·intro γ w' he hf;clear hf;refine⟨trivial,?_⟩;intro R hR
      go_simp;exact Bd (Hc0.out▸XE _ _ _ _ w' ((Hq.out.1.ext he).has HB.out.1) ((Hq.out.2.ext (hx.trans he)).has HB.out.2.1) HB.out.2.2) hR
     ·intro γ w' he hf;clear hf;refine⟨trivial,?_⟩;intro R hR
      have hc:=he.cells;go_simp
      (try go_ints);(try(rw[if_neg Aa]));(try(rw[if_pos Aa]));(try go_simp);(try go_ints)
      refine hR _ _ (Ext.refl _) ?_ trivial;rfl
     ·intro γ w' he hf;have f16:JN w' (γ 16) c0:=hf 16 Ab;clear hf;refine⟨trivial,?_⟩;intro R hR
      obtain⟨a,e,ha⟩:=f16;go_simp;exact hR _ _ (Ext.refl _) rfl ha
     ·intro γ w' he hf;have f16:JN w' (γ 16) c0:=hf 16 Ab;clear hf;refine⟨trivial,?_⟩;intro R hR
      obtain⟨a,e,ha⟩:=f16;have hc:=he.cells;go_simp
      (try go_ints);(try(rw[if_neg Aa]));(try(rw[if_pos Aa]));(try go_simp);(try go_ints)
      refine hR _ _ (Ext.refl _) ?_ trivial;rfl
    case hmono1 =>
     exact⟨⟨⟨⟨⟨⟨⟨⟨⟨⟨⟨⟨⟨⟨⟨⟨⟨⟨⟨⟨trivial,(fun γ wA w' e h=>h)⟩,(fun γ wA w' e h=>h)⟩,(fun γ wA w' e h=>h)⟩,(fun γ wA w' e h=>h)⟩,(fun γ wA w' e h=>h)⟩,(fun γ wA w' e h=>h)⟩,(fun γ wA w' e h=>h)⟩,(fun γ wA w' e h=>h)⟩,(fun γ wA w' e h=>h)⟩,(fun γ wA w' e h=>h)⟩,(fun γ wA w' e h=>h)⟩,(fun γ wA w' e h=>h)⟩,(fun γ wA w' e h=>h)⟩,(fun γ wA w' e h=>h)⟩,(fun γ wA w' e h=>h)⟩,(fun γ wA w' e h=>h)⟩,(fun γ wA w' e h=>(show JN wA (γ 16) c0 from h).ext e)⟩,(fun γ wA w' e h=>h)⟩,(fun γ w w' e h=>BD.ext h e)⟩,(fun γ wA w' e h=>h)⟩
    case hlate1 =>
     intro Pn hPs hPn;obtain rfl:=Gn hPs hPn;clear hPs hPn
     ·intro γ w2 hx2 hF hA
      clear hA;have p16:JN w2 (γ 16) c0:=(AA.get hF 16 Ab).resolve_left Ab;have p18:BD w2 (γ 18) c0:=(AA.get hF 18 Ab).resolve_left Ab;clear hF;show AC _ _ _ _ 3 [19] 20 _ _;simp only[Bf,Nat.reduceAdd,Ck,Array.getD_eq_getD_getElem?,List.getElem?_toArray,List.getElem?_cons_succ,List.getElem?_cons_zero,Option.getD_some];generalize γ 16=g16 at *;generalize γ 18=g18 at *;clear γ;obtain⟨a16,rfl,-⟩:=p16
      obtain⟨b5,A5,n5,c5,b6,A6,n6,c6,rfl⟩:=p18.cells;clear ca0 ca1 ca2 ca3 q0 q1 q2 q3;replace er:=er.ext hx2;replace eq:=eq.ext hx2;replace hx:=hx.trans hx2;clear hx2;obtain⟨_,_,_,_,_,_,_,_,ca0,ca1,ca2,ca3,-⟩:=eq.at_ (j:=k) (by first | omega | (simp;omega));have fa0:=eq.frozen (k*4);have fa1:=eq.frozen (k*4+1);have fa2:=eq.frozen (k*4+2);have fa3:=eq.frozen (k*4+3);refine AC.mk 2 ⟨?_,trivial⟩ (fun _=>?_)
      ·simp only[Bb,List.toList_toArray,List.drop_succ_cons,List.drop_zero,List.take_succ_cons,List.take_zero]
       go_wp2;show AC _ _ _ _ _ [] _ _ _;refine AC.nil ?_;simp only[List.toList_toArray,List.drop_succ_cons,List.drop_zero];go_wp2;skip;obtain⟨W3,eW,eq',U⟩:=eq.put (k:=k) (by first | omega | (simp;omega)) p18;rw[←eW];clear eW eq;replace er:=er.upd U Ai;replace hx:=U.from_ hx Ai;have eq:=eq';clear U eq'
       go_meet
       case rel=>exact⟨eq,er,hx⟩
      ·simp only[Bb,List.toList_toArray,List.drop_succ_cons,List.drop_zero,List.take_succ_cons,List.take_zero]
       go_wp2;refine AC.mk 1 ⟨?_,trivial⟩ (fun _=>?_)
       ·simp only[Bb,List.toList_toArray,List.drop_succ_cons,List.drop_zero,List.take_succ_cons,List.take_zero]
        go_wp2;show AC _ _ _ _ _ [] _ _ _;refine AC.nil ?_;simp only[List.toList_toArray,List.drop_succ_cons,List.drop_zero];go_wp2;skip;obtain⟨W3,eW,eq',U⟩:=eq.put (k:=k) (by first | omega | (simp;omega)) p18;rw[←eW];clear eW eq;replace er:=er.upd U Ai;replace hx:=U.from_ hx Ai;have eq:=eq';clear U eq'
        go_meet
        case rel=>exact⟨eq,er,hx⟩
       ·simp only[Bb,List.toList_toArray,List.drop_succ_cons,List.drop_zero,List.take_succ_cons,List.take_zero]
        go_wp2;refine AC.mk 0 ⟨?_,trivial⟩ (fun h=>by cases(show false=true from h))
        ·simp only[Bb,List.toList_toArray,List.drop_succ_cons,List.drop_zero,List.take_succ_cons,List.take_zero]
         go_wp2;show AC _ _ _ _ _ [] _ _ _;refine AC.nil ?_;simp only[List.toList_toArray,List.drop_succ_cons,List.drop_zero,List.drop_nil];go_wp2;skip;obtain⟨W3,eW,eq',U⟩:=eq.put (k:=k) (by first | omega | (simp;omega)) p18;rw[←eW];clear eW eq;replace er:=er.upd U Ai;replace hx:=U.from_ hx Ai;have eq:=eq';clear U eq'
         go_meet
         case rel=>exact⟨eq,er,hx⟩
    intro γ w2 hx2 hF hA;clear hA;have p16:JN w2 (γ 16) c0:=AA.get hF 16 Ab;have p18:BD w2 (γ 18) c0:=AA.get hF 18 Ab;clear hF;simp only[Bf,Nat.reduceAdd];generalize γ 16=g16 at *;generalize γ 18=g18 at *;clear γ;obtain⟨a16,rfl,-⟩:=p16;obtain⟨b5,A5,n5,c5,b6,A6,n6,c6,rfl⟩:=p18.cells;clear ca0 ca1 ca2 ca3 q0 q1 q2 q3;replace er:=er.ext hx2;replace eq:=eq.ext hx2;replace hx:=hx.trans hx2;clear hx2;obtain⟨_,_,_,_,_,_,_,_,ca0,ca1,ca2,ca3,-⟩:=eq.at_ (j:=k) (by first | omega | (simp;omega))
    have fa0:=eq.frozen (k*4);have fa1:=eq.frozen (k*4+1);have fa2:=eq.frozen (k*4+2);have fa3:=eq.frozen (k*4+3);go_wp2;skip;obtain⟨W3,eW,eq',U⟩:=eq.put (k:=k) (by first | omega | (simp;omega)) p18;rw[←eW];clear eW eq;replace er:=er.upd U Ai;replace hx:=U.from_ hx Ai;have eq:=eq';clear U eq'
    go_meet
    case rel=>exact⟨eq,er,hx⟩
   case rest =>
    clear er eq hx ca0 ca1 ca2 ca3 q0 q1 q2 q3;obtain⟨eq,er,hx⟩:=hcut;have HB2:=Ad (show qsz c0≤274877906944∧(∀ j m,qsz (Eg k j c0 Rm G m)≤274877906944)∧∀ j (hj:j < lg.length),qsz lg[j]≤274877906944∧qsz (c0*lg[j])≤274877906944 by
     have h0:=HN.out;have h1:=fun m=>HR.out.2.2.2.2.2.2.elem m;have h1':=h1 (k+pl G - 1);have h2:qsz (ld G)≤t:=HX.out.2.2.2.2.1.elem _;have h3:=HX.out.2.2.2.2.2;have h4:(n - (k+1))*(t+1)+(t+1)≤(pl F+2)*(t+1):=by rw[←Nat.succ_mul];exact Nat.mul_le_mul_right _ Aa
     have h5:=fun m=>(HR.out.2.2.2.2.2.2.step (n:=k) HX.out.2.1 HX.out.2.2.1 HX.out.2.2.2.2.1).elem m;rw[←Hc0.out]at h5;have h6:qsz c0≤s+(n - (k+1))*(t+1)+t:=by rw[Hc0.out];have:=Fu (Rm (k+pl G - 1)) (ld G);omega
     refine⟨Aa,fun j m=>QR (AU HX.out.2.1) (fun m=>by have:=h1 m;omega) (fun m=>by have:=h5 m;omega) m,fun j hj=>?_⟩;have h7:qsz lg[j]≤t:=by rw[←DW hj,HL.out.2.2.2.1];exact HX.out.2.2.2.2.1.elem _
     have:=BR c0 lg[j];exact⟨Aa,Aa⟩)
    have HST:=Ad (HR.out.step HX.out.2.1 HX.out.2.2.1 HX.out.2.2.2.2.1 hkn Hc0.out);obtain⟨y1,Y1,yn,yc,y2,Y2,yn',yc',ca0,ca1,ca2,ca3,hy⟩:=eq.at_ (j:=k) (by rw[List.length_set];exact hkla);rw[List.getElem_set_self]at hy;have Hy:Hid (BD wc _ c0):=Ad hy;clear hy hkla
    go_wp2_with fail
    refine AL (bI _ c0 _ (Hy.out.has HB2.out.1)) ?_;rintro r w3 rfl hx2;replace er:=er.ext hx2;replace eq:=eq.ext hx2;replace hx:=hx.trans hx2;clear hx2;clear ca0 ca1 ca2 ca3 Hy;by_cases hz:c0=0
    ·have hb:=XR hz
     have Hz:=Ad hz;clear hz;go_wp2;have Hkn:=Ad HST.out;rw[NV Hz.out]at Hkn
     go_roundw
     case rel=>exact⟨k,_,Rm,_,Aa,⟨(k:Int) - 1,Aa,by go_num⟩,er,eq,Hkn.out,hx⟩
     case measure=>simp[intOf]<;>omega
    ·have hb:=Xo hz
     clear hz;go_wp2;obtain⟨wq,rfl⟩:∃ wq:World,wq=wr:=⟨_,rfl⟩
     go_loopw [59] (fun jv wx=>∃ (j:Nat),j≤pl G∧jv = .int .i64 j∧Cx wx w.heap.size 28 (Dy (pl F) (Eg k j c0 Rm G))∧Cx wx w1.heap.size 28 (la.set k (some c0))∧Ext w wx) (fun jv _=>pl G - (intOf jv).toNat)
     case atStart=>exact⟨0,Nat.zero_le _,rfl,by rw[Lc];exact er,eq,hx⟩
     case round =>
      clear er eq hx;obtain⟨j,hj,rfl,er,eq,hx⟩:=hrel;by_cases hjm:j < pl G
      ·have hjl:j < lg.length:=by have:=HL.out.2.2.1;omega
       obtain⟨g',o',bb,B1,nn,cc1,bb',B1',nn',cc1',hE',_,q0,q1,q2,q3,hq⟩:=HE.out.at_ (j:=j) hjl;cases hE';replace q0:=hx.cell q0;replace q1:=hx.cell q1;replace q2:=hx.cell q2;replace q3:=hx.cell q3;have Hq':=Ad hq;clear hq;have hkj:k+j < pl F:=by have:=HN.out;omega
       have hne8:=er.lt;have hne9:=eq.lt
       go_wp2_with fail
       obtain⟨W10,eW10,e10,x10⟩:=Bj.made wr 28 #[.bool bb,.slice B1 nn cc1,.bool bb',.slice B1' nn' cc1'] (by simp[Ag]);rw[←eW10];clear eW10 q0 q1 q2 q3;replace er:=er.ext x10;replace eq:=eq.ext x10;replace hx:=hx.trans x10;clear x10;obtain⟨z1,Z1,zn,zc,z2,Z2,zn',zc',ca0,ca1,ca2,ca3,hza⟩:=er.full_at hkj;obtain⟨y1,Y1,yn,yc,y2,Y2,yn',yc',cb0,cb1,cb2,cb3,hy⟩:=eq.at_ (j:=k) (by rw[List.length_set];exact Hkla.out)
       rw[List.getElem_set_self]at hy;have Hy:Hid (BD W10 _ c0):=Ad hy;have Hza:=Ad hza;clear hza hy;obtain⟨ce100,ce101,ce102,ce103⟩:=e10.cells4;have fe10:=e10.frozen;refine Ae 17 [64,65,66,67,68,69,70,71,72,73,74,75,76,77,78,79,80] [[],[],[],[1,2],[],[],[],[5,6],[4,5,6,7],[4,5,6,7,8],[],[],[10,11],[10,11,12],[],[10,11,12,13,14],[4,5,6,7,8,9,10,11,12,13,14,15],[0,1,2,3,4,5,6,7,8,9,10,11,12,13,14,15,16],[0,1,2,3,4,5,6,7,8,9,10,11,12,13,14,15,16,17]] [5,6,7,4,8] [_,_,_,_,_] [(kv ?_),(kv ?_),(kv ?_),(kv ?_),(kv ?_),(kv ?_),(kv ?_),(kv ?_),(kv ?_),(kv ?_),(kv ?_),(kv ?_),(kv ?_),(kv ?_),(kv ?_),(fun γ=>γ 15),(fun γ=>γ 16)] (fun γ w'=>[True,True,True,True,True,True,True,True,True,True,True,True,True,True,True,BD w' (γ 15) (c0*lg[j]),BD w' (γ 16) (Eg k j c0 Rm G (k+j) - c0*lg[j])]) Bn Aj Aj Bo Aj Bl Br ?hstep2 ?_
       case hstep2 =>
        iterate 17 refine⟨?_,?_⟩
        trivial
        iterate 15 focus
         intro γ w' he hf;clear hf;refine⟨by trivial,?_⟩;intro R hR;have hc:=he.cells;have cq0:=he.cell ca0;have cq1:=he.cell ca1;have cq2:=he.cell ca2;have cq3:=he.cell ca3;have cq4:=he.cell cb0;have cq5:=he.cell cb1;have cq6:=he.cell cb2;have cq7:=he.cell cb3;have cq8:=he.cell ce100;have cq9:=he.cell ce101;have cq10:=he.cell ce102;have cq11:=he.cell ce103;go_simp;(try go_ints);(try(rw[if_neg Aa]));(try(rw[if_pos Aa]));(try go_simp);(try go_ints)
         refine hR _ _ (Ext.refl _) ?_ trivial;rfl
        ·intro γ w' he hf;clear hf;refine⟨trivial,?_⟩;intro R hR
         go_simp;exact Bd (Yx _ _ _ _ w' ((Hy.out.ext he).has HB2.out.1) ((Hq'.out.ext (hx.trans he)).has (HB2.out.2.2 j hjl).1)) hR
        ·intro γ w' he hf;have f15:BD w' (γ 15) (c0*lg[j]):=hf 15 Ab;clear hf;refine⟨trivial,?_⟩;intro R hR
         go_simp;exact Bd (ZY _ _ _ _ w' ((Hza.out.ext he).has (HB2.out.2.1 _ _)) (f15.has (HB2.out.2.2 j hjl).2)) hR
       intro γ w6 hx6 hF;have p15:BD w6 (γ 15) (c0*lg[j]):=AA.get hF 15 Ab;have p16:BD w6 (γ 16) (Eg k j c0 Rm G (k+j) - c0*lg[j]):=AA.get hF 16 Ab;clear hF;simp only[Bf,Nat.reduceAdd];generalize γ 15=g15 at *;generalize γ 16=g16 at *;clear γ;clear ca0 ca1 ca2 ca3 cb0 cb1 cb2 cb3 ce100 ce101 ce102 ce103 fe10 e10 p15 Hza Hy;replace er:=er.ext hx6;replace eq:=eq.ext hx6;replace hx:=hx.trans hx6;clear hx6
       obtain⟨b5,A5,n5,c5,b6,A6,n6,c6,rfl⟩:=p16.cells;have hkf:k+j < (Dy (pl F) (Eg k j c0 Rm G)).length:=by rw[NM];exact hkj
       have Hkf:=Ad hkf;obtain⟨_,_,_,_,_,_,_,_,ca0,ca1,ca2,ca3,-⟩:=er.at_ (j:=k+j) (by first | omega | (simp;omega));have fa0:=er.frozen ((k+j)*4);have fa1:=er.frozen ((k+j)*4+1);have fa2:=er.frozen ((k+j)*4+2);have fa3:=er.frozen ((k+j)*4+3);clear hkf;go_wp2;have hkf:=Hkf.out;obtain⟨W7,eW,er',U⟩:=er.put (k:=k+j) (by first | omega | (simp;omega)) p16;rw[←eW];clear eW er;replace eq:=eq.upd U Ai;replace hx:=U.from_ hx Ai
       have er:=er';clear U er'
       go_roundw
       case rel=>exact⟨j+1,Aa,by go_num,by
        rw[R5 (G:=Eg k (j+1) c0 Rm G) (fun n=>by
         have e:lg[j]=G j:=by rw[←DW hjl,HL.out.2.2.2.1]
         rw[La,e];split<;>simp_all)]at er
        exact er,eq,hx⟩
       case measure=>simp[intOf];omega
      ·obtain rfl:j=pl G:=by omega
       rw[J8 (AU HX.out.2.1)]at er;have Hkn:=Ad HST.out;go_wp2
       go_roundw
       case rel=>exact⟨k,_,_,_,Aa,⟨(k:Int) - 1,Aa,by go_num⟩,er,eq,Hkn.out,hx⟩
       case measure=>simp[intOf]<;>omega
  ·obtain rfl:i=0:=by omega
   have hz1:z < 0:=by omega
   have HE2:=Ad (HR.out.end_ HX.out.1 HX.out.2.1 HX.out.2.2.1);have hla:=HE2.out.1;rw[hla,HE2.out.2.1]at eq;rw[HE2.out.2.2.1]at er;have Hz:=Ad hz;clear hz hla HR;have hrq:=eq.row (KA n _) (base:=w.heap.size) Aa;have hrr:=er.row (KA (pl F) _) (Nat.le_refl _);have hTq:=fun W (e:wr=W)=>GY w.heap.size (some ⟨w1.heap.size,0,none⟩) n ((List.range n).map (pq F G)) W (by rw[DN];omega) Aa (e▸hrq);have hTr:=fun W (e:wr=W)=>GY w.heap.size (some ⟨w.heap.size,0,none⟩) (pl F) ((List.range (pl F)).map (pr F G)) W (by rw[DN];omega) Aa (e▸hrr)
   rw[DN]at hTq hTr;have HT:=Ad (Ak hTq hTr);have HS2:=Ad (show BB (pl F) (pr F G)from(Ea HX.out.1 HX.out.2.1 HX.out.2.2.1).mono (by have:=HN.out;omega));have HP:=Ad (Ak (eq.isP (base:=w.heap.size) (HE2.out.2.1▸HE2.out.2.2.2) Aa (Nat.le_refl _) Aa) (er.isP (base:=w.heap.size) (N:=pl F) HS2.out (Nat.le_refl _) (Nat.le_refl _) Aa));clear hTq hTr hrq hrr er eq
   go_wp2_with fail
   refine Calls.mono (HT.out.1 _ rfl) ?_;rintro e w4 ⟨rfl,rfl⟩
   go_wp2_with fail
   refine Calls.mono (HT.out.2 _ rfl) ?_;rintro e w5 ⟨rfl,rfl⟩;go_wp2
   go_ret2
   rw[IR,IR,Jp (HE2.out.2.1▸HE2.out.2.2.2),Jp HS2.out];exact Ah.mk ⟨_,_,rfl,HP.out.1,HP.out.2⟩ hx
end Go.Proofs.YtmhgnigpmompmaaGreat
namespace Go.Hp
theorem Rw(x:Rat)(a b:Nat):x^(a+b)=x^a*x^b:=by
 induction b with
 | zero=>rw[Nat.add_zero,Rat.pow_zero,Rat.mul_one]
 | succ b ih=>rw[←Nat.add_assoc,Rat.pow_succ,ih,Rat.pow_succ,Rat.mul_assoc]
def Fr(D k Y:Nat)(q:Rat):Prop:=∃ m:Int,q=(m:Rat) / ((D:Rat)^k)∧m.natAbs≤Y
theorem Fr.mono{D k Y Y':Nat}{q:Rat}(h:Fr D k Y q)(l:Y≤Y'):Fr D k Y' q:=by obtain⟨m,h1,h2⟩:=h;exact⟨m,h1,Aa⟩
theorem Fr.zero(D k Y:Nat):Fr D k Y 0:=⟨0,by rw[show((0:Int):Rat)=0 from rfl,Rat.div_def,Rat.zero_mul],Ac⟩
theorem Fr.sub{D k Y Z:Nat}{p q:Rat}(h:Fr D k Y p)(g:Fr D k Z q):Fr D k (Y+Z) (p - q):=by
 obtain⟨m,h1,h2⟩:=h;obtain⟨n,g1,g2⟩:=g;refine⟨m - n,?_,?_⟩
 ·rw[h1,g1,Rat.intCast_sub,Rat.div_def,Rat.div_def,Rat.div_def];grind
 ·have:=Int.natAbs_sub_le m n;omega
theorem Fr.mul{D a b Y Z:Nat}{p q:Rat}(h:Fr D a Y p)(g:Fr D b Z q):Fr D (a+b) (Y*Z) (p*q):=by
 obtain⟨m,h1,h2⟩:=h;obtain⟨n,g1,g2⟩:=g;refine⟨m*n,?_,?_⟩
 ·rw[h1,g1,Rat.intCast_mul,Rat.div_def,Rat.div_def,Rat.div_def,Rw,Rat.inv_mul_rev];grind
 ·rw[Int.natAbs_mul];exact Nat.mul_le_mul h2 g2
theorem Fr.up{D k Y:Nat}{q:Rat}(hD:0 < D)(h:Fr D k Y q)(j:Nat):Fr D (k+j) (Y*D^j) q:=by
 have h0:=Ju hD;have h1:Fr D j (D^j) 1:=by
  refine⟨((D^j:Nat):Int),?_,Ac⟩;have h2:(D:Rat)^j≠0:=by
   induction j with
   | zero=>rw[Rat.pow_zero];decide
   | succ j ih=>rw[Rat.pow_succ];intro e;rcases Rat.mul_eq_zero.1 e with e | e<;>contradiction
  rw[Rat.intCast_natCast,Rat.natCast_pow];grind
 have:=h.mul h1;rwa[Rat.mul_one]at this
theorem Fr.qsz{D k Y:Nat}{q:Rat}(hD:0 < D)(h:Fr D k Y q){t:Nat}(h1:sz Y≤t)(h2:sz (D^k)≤t)(h3:1≤t):qsz q≤t:=by
 obtain⟨m,e,hm⟩:=h;rw[←Rat.natCast_pow,Jn]at e;rw[e];exact Dl (Nat.le_trans (Bp hm) h1) (by simpa using h2) h3
section
variable{C S:Nat→Rat}{D X:Nat}
end
theorem Uz{n:Nat}(h:n≤9223372036854775807):qsz (n:Rat)≤2:=by
 have h3:=Jj (n:=n) Aa;have h4:sz 1=1:=by decide
 show max (sz ((n:Int)).natAbs) (sz 1)≤2;rw[Int.natAbs_natCast];omega
theorem CD.rv{s:Nat}{F:Nat→Rat}(h:CD s F)(d:Nat):CD s (rv d F):=by
 obtain⟨D,X,⟨hD,hF⟩,h1,h2⟩:=h;refine⟨D,X,⟨hD,fun i=>?_⟩,h1,h2⟩;unfold Hp.rv
 split
 ·exact hF _
 ·exact⟨0,by show(0:Rat)=_;grind,Ac⟩
theorem CD.pd{s d:Nat}{F:Nat→Rat}(hC:CD s F)(hs:BB (d+1) F)(hd:d≤9223372036854775807):CD (1+d*(s+3)) (pd F):=by
 refine CD.of (k:=s+2) (n:=d) (fun i hi=>by unfold Hp.pd;rw[hs (i+1) Aa];exact Rat.mul_zero _) fun i hi=>?_;have h1:=BR ((i+1:Nat):Rat) (F (i+1));have h2:=Uz (n:=i+1) Aa;have h3:=hC.elem (i+1);show Hp.qsz (((i+1:Nat):Rat)*F (i+1))≤s+2;omega
theorem bW{f:Nat→Rat}{t:Nat}(n:Nat)(h:∀ i,i < n→qsz (f i)≤t):qsz (sm n f)≤1+n*(t+1):=by
 induction n with
 | zero=>rw[EY,GJ];omega
 | succ n ih =>
  have h1:=EB (sm n f) (f n);have h2:=ih fun i hi=>h i Aa;have h3:=h n Aa;rw[BF,Nat.succ_mul];omega
open Go.RowKit
def bL(base:Nat)(w:World)(v:Value)(t:TypeId)(l:List Rat):Prop:=l=[]∨∃ g cap,v = .slice (some ⟨g,0,none⟩) l.length cap∧base≤g∧l.length≤cap∧cap≤9223372036854775807∧Cx w g t (l.map some)
def iB(base:Nat)(w:World)(v:Value)(t:TypeId)(F:Nat→Rat):Prop:=pl F=0∨∃ g cap,v = .slice (some ⟨g,0,none⟩) (pl F) cap∧base≤g∧pl F≤cap∧cap≤9223372036854775807∧Cx w g t (Dy (pl F) F)
theorem Ej.arr{base:Nat}{e:TypeId}{w:World}{v:Value}{l:List Rat}(h:Ej base e w v l):bL base w v e l:=by
 obtain⟨ess,h1,h2,⟨h3,h4⟩,h5⟩:=h;rcases h4 with⟨_,h0⟩ | ⟨g,cap,cur,rfl,hbg,hb,hnc,hcm,hcs,htake⟩
 ·exact .inl (List.eq_nil_of_length_eq_zero h0)
 ·refine .inr ⟨g,cap,rfl,hbg,hnc,GG hcm,cur,hb,by rw[hcs,List.length_map];omega,fun j hj=>?_⟩
  have hj':j < l.length:=by simpa using hj
  have hje:j < ess.length:=by omega
  have hq:=h5 j hj' hje;obtain⟨b,A,n,c,b',A',n',c',e⟩:=BD.cells_ hq;have ec:=Tx e;have key:∀ i,i < 4→cur[j*4+i]? = ess[j][i]? := fun i hi=>by
   have hlt:j*4+i < l.length*4:=by omega
   rw[←NE h2 hje hi,←htake,List.getElem?_take_of_lt hlt];simp
  refine⟨b,A,n,c,b',A',n',c',by have:=key 0 Aa;rw[ec]at this;simpa using this,by have:=key 1 Aa;rw[ec]at this;simpa using this,by have:=key 2 Aa;rw[ec]at this;simpa using this,by have:=key 3 Aa;rw[ec]at this;simpa using this,?_⟩;rw[List.getElem_map,←e];exact hq
theorem Cx.pre{w:World}{g:Nat}{t:TypeId}{l:List (Option Rat)}(h:Cx w g t l)(n:Nat):Cx w g t (l.take n):=by
 obtain⟨cs,h1,h2,h3⟩:=h;have hl:(l.take n).length≤l.length:=List.length_take_le' _ _;refine⟨cs,h1,Aa,fun j hj=>?_⟩;have:=h3 j Aa;rw[List.getElem_take];exact this
theorem UK(N n:Nat)(F:Nat→Rat)(h:n≤N):(Dy N F).take n=Dy n F:=by
 unfold Dy;rw[←List.map_take,List.take_range,Nat.min_eq_left h]
theorem bL.fin{base n c:Nat}{w w':World}{A:Option Addr}{t:TypeId}{l:List Rat}(h:bL base w (.slice A n c) t l)(e:Ext w w'):iB base w' (.slice A (BU l).length c) t (co l):=by
 have hp:pl (co l)≤l.length:=Bq (FM l);rcases h with rfl | ⟨g,cap,e1,h1,h2,h3,h4⟩
 ·exact .inl (by rw[P9,Ca])
 ·refine .inr ⟨g,cap,?_,h1,Aa,h3,?_⟩
  ·rw[IR]
   injection e1 with e1 e2 e3;rw[e1,e3]
  ·have:=(h4.ext e).pre (pl (co l))
   rw[Qf,UK _ _ _ hp]at this;exact this
end Go.Hp
namespace Go.Proofs.YtmhgnigpmompmaaGreat
open Go.RowKit Go.Hp
theorem Ol(W:World)(base ty g:Nat)(v:Value)(l:List Rat)(q:Rat){b b':Bool}{A A':Option Addr}{n c n' c':Nat}(h:Ej base 28 W v l)(hq:BD W (.agg #[.bool b,.slice A n c,.bool b',.slice A' n' c']) q)(hn:l.length≤1099511627776)(hb:base≤W.heap.size)(hg:g=W.heap.size) :
  ∃ v' w',(Builtin.append_ #[43,43] ty #[v,.slice (some ⟨g,0,none⟩) 1 1]).run Tryz.prog (W.alloc (.cells #[.bool b,.slice A n c,.bool b',.slice A' n' c'] 28)) = .ok v' w'∧(Ej base 28 w' v' (l ++ [q])∧Cs (blk v) (W.alloc (.cells #[.bool b,.slice A n c,.bool b',.slice A' n' c'] 28)) w'):=by
 subst hg;obtain⟨g,cs,e1,h1,h2,h3,h4⟩:=Rh.mk hq (base:=W.heap.size) (Nat.le_refl _) 28;cases e1;obtain⟨i0,hi,hz0,hz1,hz2⟩:=info_parts Ny;have ho:=BD.one h4;have hx:=(Ext.refl W).alloc (.cells #[.bool b,.slice A n c,.bool b',.slice A' n' c'] 28);obtain⟨v',w',a,b,c⟩:=BI.append (P:=Tryz.prog) (h.ext hx) 43 ty i0 _ 64 Tryz.underlying43 hi hz0 hz1 hz2 rfl (by simp[nodig,Ag,Value.cells]) Ab ⟨W.heap.size,0,none⟩ 1 cs h3 h4 h2.news ho.1 ho.2.1 (Ve hn) Aa (Nat.le_trans hb hx.size) (fun _ _ _ k hq=>BD.kd hq k)
 exact⟨v',w',a,b,c⟩
theorem KV(v:Value)(l:List Rat)(w:World)(hv:KU 0 w v l)(hn:l.length≤1099511627776):Bh 127 #[v] w (fun r w'=>Da w.heap.size w' r (co l)∧iB w.heap.size w' r 28 (co l)):=by
 have hqs:=hv.qsz;obtain⟨A,c,rfl,hl,hc,hA⟩:=hv;have HA:Hid (Qj 0 w A l):=Ad hA;clear hA;have HQ:=Ad hqs;clear hqs
 go_enter Tryz.func127,Tryz.ntmps127
 go_wp2
 go_loopw [3,4] (fun ov iv wr=>∃ (k:Nat),k≤l.length∧iv = .int .i64 k∧Ej w.heap.size 28 wr ov ((List.range k).map (co l))∧Ext w wr) (fun _ iv _=>l.length - (intOf iv).toNat)
 case atStart=>exact⟨0,Nat.zero_le _,rfl,BI.nil _ _ _ _ _,Ext.refl _⟩
 case round =>
  obtain⟨k,hk,rfl,hown,hx⟩:=hrel;by_cases hkl:k < l.length
  ·obtain⟨g,o,b,A1,n,c1,b',A1',n',c1',rfl,_,q0,q1,q2,q3,hq⟩:=HA.out.at_ (j:=k) hkl
   replace q0:=hx.cell q0;replace q1:=hx.cell q1;replace q2:=hx.cell q2;replace q3:=hx.cell q3;rw[←DW hkl]at hq;have Hq:=Ad hq;clear hq
   go_wp2_with fail
   refine AL (Fx _ _ _ (Hq.out.ext hx)) ?_;rintro r w2 hr hx2;obtain⟨b5,A5,n5,c5,b6,A6,n6,c6,rfl⟩:=hr.cells;have Hr:=Ad hr;clear hr;replace hown:=hown.ext hx2;replace hx:=hx.trans hx2;have Hown:=Ad hown;clear hown;have hsz:=hx.size;clear hx2 q0 q1 q2 q3
   go_wp2_with (at_builtin;refine AB rfl _ _ 43 rfl u3 (.slice (some ⟨w2.heap.size,0,none⟩) 1 1) rfl rfl (Ol w2 w.heap.size _ _ _ _ _ Hown.out Hr.out (by first | (rw[List.length_map,List.length_range];omega) | omega) hsz rfl) ?_)
   first | intro v' w5 hown U | rintro v' w5 ⟨hown,U⟩
   replace hx:=(Hown.out.ext ((Ext.refl w2).alloc _)).from_ U (hx.alloc _) (Nat.le_refl _);have Hown':=Ad hown;clear hown U;go_wp2
   go_roundw
   case rel=>exact⟨k+1,Aa,by go_num,by rw[IE];exact Hown'.out,hx⟩
   case measure=>simp[intOf]<;>omega
  ·obtain rfl:k=l.length:=by omega
   have hlen:((List.range l.length).map (co l)).length=l.length:=by simp
   have hco:(List.range l.length).map (co l)=l:=by
    apply List.ext_getElem
    ·simp
    ·intro i h1 h2;simp[DW h2]
   rw[hco]at hown;have harr:=Ej.arr hown;obtain⟨A2,c2,rfl,h2,h3,h4⟩:=Ej.row hown;have Harr:=Ad harr;clear harr;have Hrow:Hid (Lr w.heap.size wr A2 l):=Ad h4;clear h4 hco hlen hown;have hx0:=hx;go_wp2;clear hx
   go_loopw [5] (fun nv wx=>∃ m:Nat,m≤l.length∧nv = .int .i64 m∧(∀ j,m≤j→(h:j < l.length)→l[j]=0)∧Ext wr wx) (fun nv _=>(intOf nv).toNat)
   case atStart=>exact⟨l.length,Nat.le_refl _,rfl,fun j h1 h2=>Aa,Ext.refl _⟩
   case round =>
    obtain⟨m,hm,rfl,hz,hx⟩:=hrel;have Hz:=Ad hz;clear hz;by_cases h0:0 < m
    ·obtain⟨m,rfl⟩:∃ k,m=k+1:=⟨m - 1,Aa⟩
     have hml:m < l.length:=by omega
     have Hrow':Hid (Lr w.heap.size _ A2 l):=Ad Hrow.out;obtain⟨g,o,b,A1,n,c1,b',A1',n',c1',rfl,hb,q0,q1,q2,q3,hq⟩:=Hrow'.out.at_ (j:=m) hml;replace q0:=hx.cell q0;replace q1:=hx.cell q1;replace q2:=hx.cell q2;replace q3:=hx.cell q3;have Hq:=Ad hq;clear hq
     go_wp2_with fail
     refine AL (M8 _ l[m] _ ((Hq.out.ext hx).has (HQ.out _ (List.getElem_mem hml)))) ?_;rintro r w2 rfl hx2;by_cases hd0:l[m]'(Aa)=0
     ·have hb:=XR hd0
      have Hd:=Ad hd0;clear hd0;go_wp2
      go_roundw
      case rel=>exact⟨m,Aa,by go_num,fun j h1 h2=>by
       rcases Nat.eq_or_lt_of_le h1 with e | e
       ·subst e;exact Hd.out
       ·exact Hz.out j Aa h2,hx.trans hx2⟩
      case measure=>simp[intOf]<;>omega
     ·have hb:=Xo hd0
      have Hd:=Ad hd0;clear hd0;go_wp2
      go_ret
      have ht:=G5 hm Hz.out (fun h _=>by simpa using Hd.out);have hlen:(BU l).length=m+1:=by rw[ht,List.length_take];omega
      have hR:=(Pt.trim (Hrow.out.ext (hx.trans hx2)) h2 h3)
      rw[hlen]at hR;exact Ah.mk ⟨Da.of_trim hR rfl,hlen▸Harr.out.fin (hx.trans hx2)⟩ ((hx0.trans hx).trans hx2)
    ·obtain rfl:m=0:=by omega
     have ht:=G5 hm Hz.out (fun h hh=>Aa);have hlen:(BU l).length=0:=by rw[ht];rfl
     have hR:=(Pt.trim (Hrow.out.ext hx) h2 h3)
     rw[hlen]at hR;have HR:=Ad (Ak hR hlen);clear hR hlen ht;go_wp2
     go_ret
     exact Ah.mk ⟨Da.of_trim HR.out.1 rfl,HR.out.2▸Harr.out.fin hx⟩ (hx0.trans hx)
theorem Fy(v:Value)(l:List Rat)(w:World)(hv:KU 0 w v l)(hn:l.length≤1099511627776):Bh 127 #[v] w (fun r w'=>Da w.heap.size w' r (co l)):=
 Ah.imp (KV v l w hv hn) fun _ _ h=>h.1
theorem Vr(v:Value)(l:List Rat)(w:World)(hv:KU 0 w v l)(hn:l.length≤1099511627776):Bh 166 #[v] w (fun r _=>r = .int .i64 ((pl (co l):Int) - 1)):=by
 have HV:=Ad hv;obtain⟨A,c,rfl⟩:=hv.len;clear hv;have hpl:pl (co l)≤l.length:=Bq (FM l)
 go_enter Tryz.func166,Tryz.ntmps166
 go_wp2_with fail
 refine AL (Fy _ l _ HV.out hn) ?_;rintro r w1 hr hx1;obtain⟨A2,c2,l2,rfl,-⟩:=hr.form;clear hr;go_wp2
 go_ret
 exact Ah.mk rfl hx1
theorem iA(v:Value)(l:List Rat)(k:Nat)(w:World)(hv:KU 0 w v l)(hk:k≤9223372036854775807):Bh 165 #[v,.int .i64 (k:Nat)] w (fun r w'=>BD w' r (co l k)):=by
 obtain⟨A,c,rfl,hl,hc,hA⟩:=hv;by_cases hkl:k < l.length
 ·obtain⟨g,o,b,A1,n,c1,b',A1',n',c1',rfl,_,q0,q1,q2,q3,hq⟩:=Qj.at_ hA (j:=k) hkl
  rw[←DW hkl]at hq;have Hq:=Ad hq;clear hq hA;have hkc:(k:Int) < l.length:=by omega
  replace q0:=((Ext.refl w).alloc (.cells #[.bool false,.slice none 0 0,.bool false,.slice none 0 0] 28)).cell q0;replace q1:=((Ext.refl w).alloc (.cells #[.bool false,.slice none 0 0,.bool false,.slice none 0 0] 28)).cell q1;replace q2:=((Ext.refl w).alloc (.cells #[.bool false,.slice none 0 0,.bool false,.slice none 0 0] 28)).cell q2;replace q3:=((Ext.refl w).alloc (.cells #[.bool false,.slice none 0 0,.bool false,.slice none 0 0] 28)).cell q3
  go_enter Tryz.func165,Tryz.ntmps165
  go_wp2_with fail
  refine AL (Fx _ _ _ (Hq.out.ext ((Ext.refl w).alloc _))) ?_;rintro r w1 hr hx1;clear q0 q1 q2 q3;obtain⟨b5,A5,n5,c5,b6,A6,n6,c6,rfl⟩:=hr.cells;have hc1:=hx1.cells;have hf1:=hx1.frozens;have Hfin:=Ad (Cy hr hx1.a1 (AX.at_ hx1 (g:=w.heap.size+0) Ac (by simp[Ag])) Aa);clear hr;go_wp2;refine bodyPost_ret (v := .agg #[.bool b5,.slice A5 n5 c5,.bool b6,.slice A6 n6 c6]) (by simp[results,Tryz.results165,go_sem,hc1]) rfl ?_
  exact Hfin.out
 ·have hz:co l k=((0:Int):Rat):=QO Aa
  have hkc:¬ (k:Int) < l.length:=by omega
  have Hz:=Ad hz;clear hz hA
  go_enter Tryz.func165,Tryz.ntmps165
  go_wp2_with fail
  refine AL (MI 0 _ Aa Aa) ?_;rintro r w1 hr hx1;rw[←Hz.out]at hr;obtain⟨b5,A5,n5,c5,b6,A6,n6,c6,rfl⟩:=hr.cells;have hc1:=hx1.cells;have hf1:=hx1.frozens;have Hfin:=Ad (Cy hr hx1.a1 (AX.at_ hx1 (g:=w.heap.size+0) Ac (by simp[Ag])) Aa);clear hr;go_wp2;refine bodyPost_ret (v := .agg #[.bool b5,.slice A5 n5 c5,.bool b6,.slice A6 n6 c6]) (by simp[results,Tryz.results165,go_sem,hc1]) rfl ?_;exact Hfin.out
theorem cK(v:Value)(l:List Rat)(w:World)(hv:KU 0 w v l):Bh 165 #[v,.int .i64 (-1)] w (fun r w'=>BD w' r 0):=by
 obtain⟨A,c,rfl,hl,hc,hA⟩:=hv;clear hA
 go_enter Tryz.func165,Tryz.ntmps165
 go_wp2_with fail
 refine AL (MI 0 _ Aa Aa) ?_;rintro r w1 hr hx1;obtain⟨b5,A5,n5,c5,b6,A6,n6,c6,rfl⟩:=hr.cells;have hc1:=hx1.cells;have hf1:=hx1.frozens;have Hfin:=Ad (Cy hr hx1.a1 (AX.at_ hx1 (g:=w.heap.size+0) Ac (by simp[Ag])) Aa);clear hr;go_wp2;refine bodyPost_ret (v := .agg #[.bool b5,.slice A5 n5 c5,.bool b6,.slice A6 n6 c6]) (by simp[results,Tryz.results165,go_sem,hc1]) rfl ?_;exact Hfin.out
end Go.Proofs.YtmhgnigpmompmaaGreat
namespace Go.Hp
open Go.RowKit
def CK(w:World)(g:Nat)(t:TypeId)(q:Rat):Prop:=∃ b A n c b' A' n' c',Bj w g t #[.bool b,.slice A n c,.bool b',.slice A' n' c']∧BD w (.agg #[.bool b,.slice A n c,.bool b',.slice A' n' c']) q
theorem CK.ext{w w':World}{g:Nat}{t:TypeId}{q:Rat}(h:CK w g t q)(e:Ext w w'):CK w' g t q:=by
 obtain⟨b,A,n,c,b',A',n',c',h1,h2⟩:=h;exact⟨b,A,n,c,b',A',n',c',h1.ext e,h2.ext e⟩
theorem CK.lt{w:World}{g:Nat}{t:TypeId}{q:Rat}(h:CK w g t q):g < w.heap.size:=by
 obtain⟨b,A,n,c,b',A',n',c',h1,h2⟩:=h;exact h1.lt
theorem CK.upd{w w':World}{g:Nat}{t:TypeId}{q:Rat}{G:List Nat}(h:CK w g t q)(U:Cs G w w')(hg:g∉G):CK w' g t q:=by
 obtain⟨b,A,n,c,b',A',n',c',h1,h2⟩:=h;exact⟨b,A,n,c,b',A',n',c',h1.upd U hg,h2.kd U.kd⟩
theorem CK.mk{w:World}{g:Nat}{t:TypeId}{q:Rat}{b b':Bool}{A A':Option Addr}{n c n' c':Nat}(h:Bj w g t #[.bool b,.slice A n c,.bool b',.slice A' n' c'])(k:BD w (.agg #[.bool b,.slice A n c,.bool b',.slice A' n' c']) q):CK w g t q:=⟨_,_,_,_,_,_,_,_,h,k⟩
theorem Ej.off{base:Nat}{e:TypeId}{w w':World}{v:Value}{l:List Rat}{g:Nat}(h:Ej base e w v l)(U:Cs [g] w w')(hg:∀ k∈blk v,k < g):Ej base e w' v l:=
 BI.upd h U (fun k hk hG=>by have:=hg k hk;simp at hG;omega) fun _ _ q=>q.kd U.kd
theorem Ue{F G:Nat→Rat}{s t:Nat}(hF:∀ i,qsz (F i)≤s)(hG:∀ i,qsz (G i)≤t)(n i:Nat):qsz (sm i (fun j=>F j*G (n - j)))≤1+i*(s+t+1):=
 bW i fun j _=>by have h1:=BR (F j) (G (n - j));have h2:=hF j;have h3:=hG (n - j);omega
theorem L9{i k c d:Nat}(h:i≤k)(e:1+k*c≤d):1+i*c≤d:=by
 have:i*c≤k*c:=Nat.mul_le_mul_right _ h;omega
end Go.Hp
namespace Go.Proofs.YtmhgnigpmompmaaGreat
open Go.RowKit Go.Hp
end Go.Proofs.YtmhgnigpmompmaaGreat
namespace Go.Hp
open Go.RowKit
theorem Cx.hs{w:World}{g:Nat}{t:TypeId}{N c:Nat}{F:Nat→Rat}(h:Cx w g t (Dy N F))(hs:∀ i,i < N→qsz (F i)≤274877906944)(hc:N≤c)(hm:c≤9223372036854775807):KU 0 w (.slice (some ⟨g,0,none⟩) N c) ((List.range N).map F):=by
 have hrow:=h.row (KA N F) (Nat.zero_le g);refine Pt.has (base:=0) ⟨_,c,by rw[DN],by rw[DN];exact hc,hm,hrow⟩ fun q hq=>?_;obtain⟨i,hi,rfl⟩:=List.mem_map.1 hq;exact hs i (List.mem_range.1 hi)
end Go.Hp
namespace Go.Proofs.YtmhgnigpmompmaaGreat
open Go.RowKit Go.Hp
theorem Sy(n:Nat)(x:Int)(hx:x=n)(hn:n≤1099511627776)(w:World):∃ W,(Instr.makeSlice 43 (.int .i64 x) (.int .i64 x)).run Tryz.prog w = .ok (.slice (some ⟨w.heap.size,0,none⟩) n n) W∧Cx W w.heap.size 28 (List.replicate n none)∧Ext w W:=by
 subst hx;obtain⟨i0,hi,hz0,hz1,hz2⟩:=info_parts Ny;have h:=run_make (P:=Tryz.prog) w 43 28 i0 (.agg #[.bool false,.slice none 0 0,.bool false,.slice none 0 0]) Tryz.underlying43 hi hz0 .i64 .i64 (n:Int) (n:Int) Aa Aa (by rw[hz2];omega) Aa;rw[h,hz1,Int.toNat_natCast];exact⟨_,rfl,Cx.new w _ n,(Ext.refl w).alloc _⟩
set_option maxRecDepth 20000 in
theorem V3(v u:Value)(l m:List Rat)(s t:Nat)(w:World)(hv:KU 0 w v l)(hu:KU 0 w u m)(h0:co m≠pz)(hF:CD s (co l))(hG:CD t (co m))(hn:l.length≤274877906944)(hm:m.length≤274877906944)(hK:s+(pl (co l)+2)*(t+1)+2*t+2≤274877906944) :
  Bh 70 #[v,u] w (fun r w'=>∃ a b,r = .tuple #[a,b]∧Da w.heap.size w' a (pq (co l) (co m))∧Da w.heap.size w' b (pr (co l) (co m))):=by
 have HV:=Ad hv;have HU:=Ad hu;obtain⟨A,c,rfl⟩:=hv.len;obtain⟨E,d,rfl⟩:=hu.len;clear hv hu;have hp0:=Bq (FM l);have hq0:=Bq (FM m);have hFf:=Af.co l;have hGf:=Af.co m;have hN1:=KV _ l w HV.out Aa;have hN2:=fun w' (e:Ext w w')=>KV _ m w' (HU.out.ext e) Aa;obtain⟨F,hFe⟩:∃ F,F=co l:=⟨_,rfl⟩
 obtain⟨G,hGe⟩:∃ G,G=co m:=⟨_,rfl⟩
 rw[←hFe]at hF hp0 hK hFf hN1;rw[←hGe]at hG hq0 h0 hGf hN2;rw[←hFe,←hGe];have hpG:=Be hGf h0;have HN0:=Ad (Ak hN1 hN2);clear hN1 hN2;have HX:=Ad (Ak hFf (Ak hGf (Ak h0 (Ak hF (Ak hG hK)))));clear HV HU hFe hGe h0 hF hG hK hFf hGf
 go_enter Tryz.func70,Tryz.ntmps70
 go_wp2_with fail
 refine AL HN0.out.1 ?_;rintro r1 w1 ⟨hr1,ha1⟩ hx1;have H1:=Ad (Ak hr1 ha1);clear hr1 ha1
 go_wp2_with fail
 refine AL (HN0.out.2 w1 hx1) ?_;rintro r2 w2 ⟨hr2,ha2⟩ hx2;obtain⟨g2,cap2,rfl,hg2,hc2,hm2,eg⟩:=ha2.resolve_left Aa;clear HN0 hr2;by_cases hlt:pl F < pl G
 ·obtain⟨A1,c1,la,rfl,k1,k2,-⟩:=H1.out.1.form
  have Hx:=Ad (hx1.trans hx2);clear hx1;have Hx2:=Ad hx2;clear hx2 ha2 eg;go_wp2
  go_ret2
  have hdl:=Ke (F:=F) (G:=G) ((AU HX.out.1).mono Aa) HX.out.2.1 HX.out.2.2.1;rw[hdl.1,hdl.2];exact Ah.mk ⟨_,_,rfl,Da.nil _ _,H1.out.1.ext Hx2.out⟩ Hx.out
 obtain⟨g1,cap1,rfl,hg1,hc1,hm1,er⟩:=H1.out.2.resolve_left Aa;have hg1w:=er.lt;replace er:=er.ext hx2;replace hx1:=hx1.trans hx2;have hsz2:=hx2.size;have hg2w:=eg.lt;clear H1 hx2 ha2;obtain⟨n,hn'⟩:∃ n,n=pl F - pl G+1:=⟨_,rfl⟩
 have hnF:n+pl G=pl F+1:=by omega
 have hn1:1≤n:=by omega
 have hn40:n≤274877906944:=by omega
 have hpF:pl F≤274877906944:=by omega
 have hpG2:pl G≤274877906944:=by omega
 obtain⟨W0,hmk,eq,hxq⟩:=Sy n ((pl F:Int) - pl G+1) Aa Aa w2;have HN:=Ad hnF;clear hnF hn';replace er:=er.ext hxq;replace eg:=eg.ext hxq;replace hx1:=hx1.trans hxq;have hne1:g1 < g2:=by omega
 have hne2:g2 < w2.heap.size:=by omega
 clear hxq hp0 hq0 hg1w hg2w hsz2 hg2;go_wp2
 go_loopw [9] (fun iv wr=>∃ (i:Nat) (Q Rm:Nat→Rat) (la:List (Option Rat)),i≤n∧(∃ z:Int,z+1=i∧iv = .int .i64 z)∧Cx wr g1 28 (Dy (pl F) Rm)∧Cx wr g2 28 (Dy (pl G) G)∧Cx wr w2.heap.size 28 la∧IY F G n s t i la Q Rm∧Ext w wr) (fun iv _=>(intOf iv+1).toNat)
 case atStart=>exact⟨n,pz,F,_,Nat.le_refl _,⟨_,by have:=HN.out;omega,rfl⟩,er,eg,eq,IY.start ((AU HX.out.1).mono (by have:=HN.out;omega)) HX.out.2.2.2.1,hx1⟩
 case round =>
  clear er eq eg hx1;obtain⟨i,Q,Rm,la,hi,⟨z,hz,rfl⟩,er,eg,eq,hst,hx⟩:=hrel;have HR:=Ad hst;clear hst;by_cases hi0:0 < i
  ·obtain⟨k,rfl⟩:∃ k,i=k+1:=⟨i - 1,Aa⟩
   obtain rfl:z=(k:Int):=by omega
   clear hz hi0;have hkn:k < n:=by omega
   have hkp:k+pl G - 1 < pl F:=by have:=HN.out;omega
   obtain⟨z1,Z1,zn,zc,z2,Z2,zn',zc',ca0,ca1,ca2,ca3,hza⟩:=er.full_at (j:=k+pl G - 1) hkp;obtain⟨y1,Y1,yn,yc,y2,Y2,yn',yc',cb0,cb1,cb2,cb3,hzb⟩:=eg.full_at (j:=pl G - 1) Aa;have Hq:=Ad (Ak hza hzb);clear hza hzb;have HB:=Ad (show qsz (Rm (k+pl G - 1))≤274877906944∧qsz (G (pl G - 1))≤274877906944 by
    have h0:=HN.out;have h1:=HR.out.2.2.2.2.2.2.elem (k+pl G - 1);have h2:qsz (G (pl G - 1))≤t:=HX.out.2.2.2.2.1.elem _;have h3:=HX.out.2.2.2.2.2;have h4:(n - (k+1))*(t+1)≤(pl F+2)*(t+1):=Nat.mul_le_mul_right _ Aa;exact⟨Aa,Aa⟩)
   obtain⟨c0,hc0⟩:∃ c0,c0=Rm (k+pl G - 1) / G (pl G - 1):=⟨_,rfl⟩
   have Hc0:=Ad hc0;clear hc0;have hkla:k < la.length:=by have:=HR.out.1;omega
   have Hkla:=Ad hkla;clear hkla
   go_wp2_with fail
   refine Ae 16 [38,39,40,41,42,43,44,45,46,47,48,49,50,51,52,10] [[],[],[],[2],[1,2,3],[1,2,3,4],[0,1,2,3,4,5],[0,1,2,3,4,5,6],[],[],[9],[9,10],[8,9,10,11],[8,9,10,11,12],[0,1,2,3,4,5,6,7,8,9,10,11,12,13],[],[0,1,2,3,4,5,6,7,8,9,10,11,12,13,14,15]] [6,9,7] [_,_,_] [(kv ?_),(kv ?_),(kv ?_),(kv ?_),(kv ?_),(kv ?_),(kv ?_),(kv ?_),(kv ?_),(kv ?_),(kv ?_),(kv ?_),(kv ?_),(kv ?_),(fun γ=>γ 14),(fun γ=>γ 15)] (fun γ w'=>[True,True,True,True,True,True,True,True,True,True,True,True,True,True,BD w' (γ 14) c0,AZ w' (γ 15) wr.heap.size #[.bool false,.slice none 0 0,.bool false,.slice none 0 0] 28]) Bn Aj Aj Bo Aj Bl Br ?hstep1 ?_
   case hstep1 =>
    iterate 16 refine⟨?_,?_⟩
    trivial
    iterate 14 focus
     intro γ w' he hf;clear hf;refine⟨by trivial,?_⟩;intro R hR;have hc:=he.cells;have cq0:=he.cell ca0;have cq1:=he.cell ca1;have cq2:=he.cell ca2;have cq3:=he.cell ca3;have cq4:=he.cell cb0;have cq5:=he.cell cb1;have cq6:=he.cell cb2;have cq7:=he.cell cb3;go_simp;(try go_ints);(try(rw[if_neg Aa]));(try(rw[if_pos Aa]));(try go_simp);(try go_ints)
     refine hR _ _ (Ext.refl _) ?_ trivial;rfl
    ·intro γ w' he hf;clear hf;refine⟨trivial,?_⟩;intro R hR
     go_simp;exact Bd (Hc0.out▸QV _ _ _ _ w' ((Hq.out.1.ext he).has HB.out.1) ((Hq.out.2.ext he).has HB.out.2)) hR
    ·intro γ w' he hf;clear hf;refine⟨trivial,?_⟩;intro R hR
     go_simp;exact hR _ _ ((Ext.refl _).alloc _) rfl (AZ.mk (Nat.le_trans Ac he.size) (by simp[Ag]))
   intro γ w3 hx3 hF;have p14:BD w3 (γ 14) c0:=AA.get hF 14 Ab;have p15:AZ w3 (γ 15) wr.heap.size #[.bool false,.slice none 0 0,.bool false,.slice none 0 0] 28:=AA.get hF 15 Ab;clear hF;simp only[Bf,Nat.reduceAdd];generalize γ 14=g14 at *;generalize γ 15=g15 at *;clear γ;obtain⟨gc,rfl,hgc,ec⟩:=p15;obtain⟨b5,A5,n5,c5,b6,A6,n6,c6,rfl⟩:=p14.cells;have hlt2:=eq.lt;have hszw:=hx.size;clear ca0 ca1 ca2 ca3 cb0 cb1 cb2 cb3 Hq HB
   replace er:=er.ext hx3;replace eg:=eg.ext hx3;replace eq:=eq.ext hx3;replace hx:=hx.trans hx3;clear hx3;obtain⟨cec0,cec1,cec2,cec3⟩:=ec.cells4;have fec:=ec.frozen
   go_upto_region 9 with(fail)
   have hge:w.heap.size≤gc:=by omega
   obtain⟨W4,eW,ec',U⟩:=ec.put4 (.bool b5) (.slice A5 n5 c5) (.bool b6) (.slice A6 n6 c6) rfl rfl rfl rfl;rw[←eW];clear eW ec;replace p14:=p14.kd U.kd;replace er:=er.upd U Ai;replace eg:=eg.upd U Ai;replace eq:=eq.upd U Ai;replace hx:=U.from_ hx Ai;have ec:=ec';clear U ec';clear cec0 cec1 cec2 cec3 fec;obtain⟨cec0,cec1,cec2,cec3⟩:=ec.cells4;have fec:=ec.frozen;have hkla:=Hkla.out;obtain⟨_,_,_,_,_,_,_,_,ca0,ca1,ca2,ca3,-⟩:=eq.at_ (j:=k) (by first | omega | (simp;omega))
   have fa0:=eq.frozen (k*4);have fa1:=eq.frozen (k*4+1);have fa2:=eq.frozen (k*4+2);have fa3:=eq.frozen (k*4+3);clear hkla;go_wp2;have hkla:=Hkla.out;obtain⟨W5,eW,eq',U⟩:=eq.put (k:=k) (by first | omega | (simp;omega)) p14;rw[←eW];clear eW eq;replace p14:=p14.kd U.kd;replace er:=er.upd U Ai;replace eg:=eg.upd U Ai;replace ec:=ec.upd U Ai;replace hx:=U.from_ hx Ai;have eq:=eq';clear U eq';have eb:=CK.mk ec p14
   have hlt3:gc≠w2.heap.size:=by omega
   clear cec0 cec1 cec2 cec3 fec p14 ec hkla;have HB2:=Ad (show qsz c0≤274877906944∧(∀ j m,qsz (Eg k j c0 Rm G m)≤274877906944)∧∀ j,qsz (G j)≤274877906944∧qsz (c0*G j) < 274877906944 by
    have h0:=HN.out;have h1:=fun m=>HR.out.2.2.2.2.2.2.elem m;have h1':=h1 (k+pl G - 1);have h2:qsz (G (pl G - 1))≤t:=HX.out.2.2.2.2.1.elem _;have h3:=HX.out.2.2.2.2.2;have h4:(n - (k+1))*(t+1)+(t+1)≤(pl F+2)*(t+1):=by rw[←Nat.succ_mul];exact Nat.mul_le_mul_right _ Aa
    have h5:=fun m=>(HR.out.2.2.2.2.2.2.step (n:=k) HX.out.2.1 HX.out.2.2.1 HX.out.2.2.2.2.1).elem m;have h5':∀ m,qsz (psb Rm (cv (mono k c0) G) m)≤s+(n - (k+1))*(t+1)+t+1:=fun m=>by have:=h5 m;rw[Hc0.out];exact this
    have h6:qsz c0≤s+(n - (k+1))*(t+1)+t:=by rw[Hc0.out];have:=Fu (Rm (k+pl G - 1)) (G (pl G - 1));omega
    refine⟨Aa,fun j m=>QR (AU HX.out.2.1) (fun m=>by have:=h1 m;omega) (fun m=>by have:=h5' m;omega) m,fun j=>?_⟩;have h7:qsz (G j)≤t:=HX.out.2.2.2.2.1.elem _;have:=BR c0 (G j);exact⟨Aa,Aa⟩)
   have HST:=Ad (HR.out.step HX.out.2.1 HX.out.2.2.1 HX.out.2.2.2.2.1 hkn Hc0.out);clear HR;obtain⟨wq,rfl⟩:∃ wq:World,wq=wr:=⟨_,rfl⟩
   go_loopw [11] (fun jv wx=>∃ (j:Nat),j≤pl G∧jv = .int .i64 j∧Cx wx g1 28 (Dy (pl F) (Eg k j c0 Rm G))∧Cx wx g2 28 (Dy (pl G) G)∧Cx wx w2.heap.size 28 (la.set k (some c0))∧CK wx gc 28 c0∧Ext w wx) (fun jv _=>pl G - (intOf jv).toNat)
   case atStart=>exact⟨0,Nat.zero_le _,rfl,by rw[Lc];exact er,eg,eq,eb,hx⟩
   case round =>
    clear er eq eg eb hx;obtain⟨j,hj,rfl,er,eg,eq,eb,hx⟩:=hrel;by_cases hjm:j < pl G
    ·have hkj:k+j < pl F:=by have:=HN.out;omega
     obtain⟨x1,X1,xn,xc,x2,X2,xn',xc',ec,hc⟩:=eb;obtain⟨z1,Z1,zn,zc,z2,Z2,zn',zc',ca0,ca1,ca2,ca3,hza⟩:=er.full_at hkj;obtain⟨y1,Y1,yn,yc,y2,Y2,yn',yc',cb0,cb1,cb2,cb3,hzb⟩:=eg.full_at hjm;have Hc:=Ad hc;have Hza:=Ad hza;have Hzb:=Ad hzb;clear hc hza hzb;obtain⟨cec0,cec1,cec2,cec3⟩:=ec.cells4;have fec:=ec.frozen
     go_wp2_with fail
     refine Ae 17 [63,64,65,66,67,68,69,70,71,72,73,74,75,76,77,78,79] [[],[],[],[1,2],[],[],[],[5,6],[4,5,6,7],[4,5,6,7,8],[],[],[],[11,12],[11,12,13],[10,11,12,13,14],[4,5,6,7,8,9,10,11,12,13,14,15],[0,1,2,3,4,5,6,7,8,9,10,11,12,13,14,15,16],[0,1,2,3,4,5,6,7,8,9,10,11,12,13,14,15,16,17]] [6,9,11,10,7] [_,_,_,_,_] [(kv ?_),(kv ?_),(kv ?_),(kv ?_),(kv ?_),(kv ?_),(kv ?_),(kv ?_),(kv ?_),(kv ?_),(kv ?_),(kv ?_),(kv ?_),(kv ?_),(kv ?_),(fun γ=>γ 15),(fun γ=>γ 16)] (fun γ w'=>[True,True,True,True,True,True,True,True,True,True,True,True,True,True,True,BD w' (γ 15) (c0*G j),BD w' (γ 16) (Eg k j c0 Rm G (k+j) - c0*G j)]) Bn Aj Aj Bo Aj Bl Br ?hstep2 ?_
     case hstep2 =>
      iterate 17 refine⟨?_,?_⟩
      trivial
      iterate 15 focus
       intro γ w' he hf;clear hf;refine⟨by trivial,?_⟩;intro R hR;have hc:=he.cells;have cq0:=he.cell ca0;have cq1:=he.cell ca1;have cq2:=he.cell ca2;have cq3:=he.cell ca3;have cq4:=he.cell cb0;have cq5:=he.cell cb1;have cq6:=he.cell cb2;have cq7:=he.cell cb3;have cq8:=he.cell cec0;have cq9:=he.cell cec1;have cq10:=he.cell cec2;have cq11:=he.cell cec3;go_simp;(try go_ints);(try(rw[if_neg Aa]));(try(rw[if_pos Aa]));(try go_simp);(try go_ints)
       refine hR _ _ (Ext.refl _) ?_ trivial;rfl
      ·intro γ w' he hf;clear hf;refine⟨trivial,?_⟩;intro R hR
       go_simp;exact Bd (WG _ _ _ _ w' ((Hc.out.ext he).has HB2.out.1) ((Hzb.out.ext he).has (HB2.out.2.2 j).1)) hR
      ·intro γ w' he hf;have f15:BD w' (γ 15) (c0*G j):=hf 15 Ab;clear hf;refine⟨trivial,?_⟩;intro R hR
       go_simp;exact Bd (XT _ _ _ _ w' ((Hza.out.ext he).has (HB2.out.2.1 _ _)) (f15.has (Nat.le_of_lt (HB2.out.2.2 j).2)) (by have h1:=HB2.out.2.1 j (k+j);have h2:=(HB2.out.2.2 j).2;omega)) hR
     intro γ w6 hx6 hF;have p15:BD w6 (γ 15) (c0*G j):=AA.get hF 15 Ab;have p16:BD w6 (γ 16) (Eg k j c0 Rm G (k+j) - c0*G j):=AA.get hF 16 Ab;clear hF;simp only[Bf,Nat.reduceAdd];generalize γ 15=g15 at *;generalize γ 16=g16 at *;clear γ;clear ca0 ca1 ca2 ca3 cb0 cb1 cb2 cb3 cec0 cec1 cec2 cec3 fec p15 Hza Hzb;have hk:=Hc.out.ext hx6;clear Hc;replace er:=er.ext hx6;replace eg:=eg.ext hx6;replace eq:=eq.ext hx6
     replace ec:=ec.ext hx6;replace hx:=hx.trans hx6;clear hx6;obtain⟨b5,A5,n5,c5,b6,A6,n6,c6,rfl⟩:=p16.cells;have Hk:=Ad hk;have hkf:k+j < (Dy (pl F) (Eg k j c0 Rm G)).length:=by rw[NM];exact hkj
     have Hkf:=Ad hkf;obtain⟨_,_,_,_,_,_,_,_,ca0,ca1,ca2,ca3,-⟩:=er.at_ (j:=k+j) (by first | omega | (simp;omega));have fa0:=er.frozen ((k+j)*4);have fa1:=er.frozen ((k+j)*4+1);have fa2:=er.frozen ((k+j)*4+2);have fa3:=er.frozen ((k+j)*4+3);clear hkf hk;go_wp2;have hkf:=Hkf.out;have hk:=Hk.out;obtain⟨W7,eW,er',U⟩:=er.put (k:=k+j) (by first | omega | (simp;omega)) p16;rw[←eW];clear eW er;replace hk:=hk.kd U.kd
     replace eg:=eg.upd U Ai;replace eq:=eq.upd U Ai;replace ec:=ec.upd U Ai;replace hx:=U.from_ hx Ai;have er:=er';clear U er';have eb:=CK.mk ec hk;clear ec hk Hk
     go_roundw
     case rel=>exact⟨j+1,Aa,by go_num,by
      rw[R5 (G:=Eg k (j+1) c0 Rm G) (fun n=>by
       rw[La];split<;>simp_all)]at er
      exact er,eg,eq,eb,hx⟩
     case measure=>simp[intOf]<;>omega
    ·obtain rfl:j=pl G:=by omega
     rw[J8 (AU HX.out.2.1)]at er;clear eb;go_wp2
     go_roundw
     case rel=>exact⟨k,_,_,_,Aa,⟨(k:Int) - 1,Aa,by go_num⟩,er,eg,eq,HST.out,hx⟩
     case measure=>simp[intOf]<;>omega
  ·obtain rfl:i=0:=by omega
   have hz1:z < 0:=by omega
   have HE2:=Ad (HR.out.end_ HX.out.1 HX.out.2.1 HX.out.2.2.1);rw[HE2.out.1,HE2.out.2.1]at eq;rw[HE2.out.2.2.1]at er;have Hz:=Ad hz;clear hz HR eg;have hsq:BB n (pq F G):=HE2.out.2.1▸HE2.out.2.2.2;have hsr:BB (pl F) (pr F G):=(Ea HX.out.1 HX.out.2.1 HX.out.2.2.1).mono (by have:=HN.out;omega);have hFs:BB (n+pl G - 1) F:=(AU HX.out.1).mono (by have:=HN.out;omega);have hnt:n*(t+1)≤(pl F+2)*(t+1):=Nat.mul_le_mul_right _ (by have:=HN.out;omega)
   have hvq:=eq.hs (c:=n) (fun i _=>by have:=MV hFs HX.out.2.1 HX.out.2.2.1 HX.out.2.2.2.1 HX.out.2.2.2.2.1 i;have:=HX.out.2.2.2.2.2;omega) (Nat.le_refl _) Aa;have hvr:=er.hs (c:=cap1) (fun i _=>by have:=(CD.pr hFs HX.out.2.1 HX.out.2.2.1 HX.out.2.2.2.1 HX.out.2.2.2.2.1).elem i;have:=HX.out.2.2.2.2.2;omega) hc1 hm1;have HT:=Ad (Ak (Fy _ _ wr hvq (by rw[DN];omega)) (fun w' (e:Ext wr w')=>Fy _ _ w' (hvr.ext e) (by rw[DN];omega)))
   rw[Jp hsq,Jp hsr]at HT;clear hvq hvr hsq hsr hFs er eq;have Hx:=Ad hx;clear hx
   go_wp2_with fail
   refine AL HT.out.1 ?_;rintro r4 w4 h4 hx4;have H4:=Ad h4;clear h4
   go_wp2_with fail
   refine AL (HT.out.2 _ hx4) ?_;rintro r5 w5 h5 hx5;have H5:=Ad h5;clear h5;go_wp2
   go_ret2
   have s1:=Hx.out.size;have s2:=hx4.size;exact Ah.mk ⟨_,_,rfl,(H4.out.ext hx5).base_le Aa,H5.out.base_le Aa⟩ ((Hx.out.trans hx4).trans hx5)
end Go.Proofs.YtmhgnigpmompmaaGreat
namespace Go.Hp
theorem CD.mn{s:Nat}{F:Nat→Rat}(h:CD s F):CD (2*s) (mn F):=by
 have h1:=h.elem (pl F - 1);have h2:Hp.qsz (1 / ld F)≤s:=by
  have e:1 / ld F=(ld F)⁻¹ := by rw[Rat.div_def,Rat.one_mul]
  rw[e];exact Nat.le_trans (PI _) h1
 exact(h.psc (1 / ld F)).mono Aa
def Rz(s:Nat):Nat→Nat
 | 0=>s
 | j+1=>18*Rz s j+16
theorem Qz{s i j:Nat}(h:i≤j):Rz s i≤Rz s j:=by
 induction j with
 | zero=>obtain rfl:i=0:=Aa;exact Nat.le_refl _
 | succ j ih =>
  rcases Nat.eq_or_lt_of_le h with e | e
  ·rw[e];exact Nat.le_refl _
  ·have:=ih Aa
   show _≤18*Rz s j+16;omega
def Pb(F0 G0:Nat→Rat)(j:Nat)(F G:Nat→Rat):Prop:=
 Af F∧Af G∧(∀ E,Af E→(Dv E F∧Dv E G↔Dv E F0∧Dv E G0))∧CD (Rz 44 j) F∧CD (Rz 44 j) G∧pl F≤7∧pl G+j≤7
theorem Pb.start{F G:Nat→Rat}(hF:Af F)(hG:Af G)(cF:CD 22 F)(cG:CD 22 G)(lF:pl F≤7)(lG:pl G≤7):Pb F G 0 F G:=
 ⟨hF,hG,fun _ _=>Iff.rfl,cF.mono (by show 22≤44;omega),cG.mono (by show 22≤44;omega),lF,lG⟩
theorem Pb.step{F0 G0 F G:Nat→Rat}{j:Nat}(h:Pb F0 G0 j F G)(h0:G≠pz):Pb F0 G0 (j+1) G (mn (pr F G)):=by
 obtain⟨hF,hG,hd,cF,cG,lF,lG⟩:=h;have hp:=Be hG h0;have hr:=EQ hF hG;have hs:=Bq (Ea hF hG h0);have c1:=CD.pr (n:=8) ((AU hF).mono Aa) hG h0 cF cG;refine⟨hG,Lb hr,fun E hE=>?_,cG.mono (Qz Aa),c1.mn.mono ?_,Aa,by rw[QK hr];omega⟩
 ·rw[OC hr,LX];exact hd E hE
 ·show _≤18*Rz 44 j+16
  omega
theorem Pb.end_{F0 G0 F G:Nat→Rat}{j:Nat}(h:Pb F0 G0 j F G)(h0:G=pz):LK F0 G0 (mn F):=by
 obtain⟨hF,hG,hd,_⟩:=h;subst h0;exact(LK.zero hF).of hd
theorem Pb.room{F0 G0 F G:Nat→Rat}{j:Nat}(h:Pb F0 G0 j F G)(h0:G≠pz):j≤6∧Rz 44 j+(pl F+2)*(Rz 44 j+1)+2*Rz 44 j+2≤68719476736∧pl (pr F G)≤6∧CD (9*Rz 44 j+8) (pr F G):=by
 obtain⟨hF,hG,hd,cF,cG,lF,lG⟩:=h;have hp:=Be hG h0;have hs:=Bq (Ea hF hG h0);have c1:=CD.pr (n:=8) ((AU hF).mono Aa) hG h0 cF cG;have h6:Rz 44 j≤Rz 44 6:=Qz Aa;have h7:Rz 44 6=1528549360:=rfl;have h8:(pl F+2)*(Rz 44 j+1)≤9*(Rz 44 j+1):=Nat.mul_le_mul_right _ Aa;exact⟨Aa,Aa,Aa,c1.mono Aa⟩
def lin(a:Rat):Nat→Rat:=cs (-a) pone
theorem Ey:BB 1 pone:=(BB.pz 0).cs 1
theorem Dx:Af pone:=⟨1,Ey⟩
theorem OT(x:Rat):ev pone x=1:=by unfold pone;rw[O8 _ Af.pz,Qa];grind
theorem Ph(a:Rat):BB 2 (lin a):=Ey.cs _
theorem PU(a:Rat):Af (lin a):=⟨2,Ph a⟩
theorem Yi(a x:Rat):ev (lin a) x=x - a:=by unfold lin;rw[O8 _ Dx,OT];grind
theorem CD.pone:CD 3 pone:=by
 have:=CD.pz.cs 1;have e:qsz (1:Rat)=1:=by decide
 rw[e]at this;exact this
theorem CD.lin{a:Rat}(h:qsz a≤2):CD 6 (lin a):=by
 have:=CD.pone.cs (-a);rw[G6]at this;exact this.mono Aa
def lgp(X:Nat→Rat)(i:Nat):Nat→Nat→Rat
 | 0=>pone
 | n+1=>if n=i then lgp X i n else cv (lgp X i n) (lin (X n))
theorem FH(X:Nat→Rat)(i n:Nat):lgp X i (n+1)=if n=i then lgp X i n else cv (lgp X i n) (lin (X n)):=by rw[lgp]
theorem OM(X:Nat→Rat)(i n:Nat):Af (lgp X i n):=by
  induction n with
  | zero=>exact Dx
  | succ n ih => rw [FH]; split
                 · exact ih
                 · exact ih.cv (PU _)
theorem Px(X:Nat→Rat)(i n:Nat):BB (n+1) (lgp X i n)∧(i < n→BB n (lgp X i n)):=by
 induction n with
 | zero=>exact⟨Ey,fun h=>Aa⟩
 | succ n ih =>
  rw[FH];split
  ·exact⟨ih.1.mono Aa,fun _=>ih.1⟩
  ·have h1:=ih.1.cv (Ph (X n))
   refine⟨h1.mono Aa,fun h=>?_⟩;exact((ih.2 Aa).cv (Ph (X n))).mono Aa
theorem Wt(X:Nat→Rat){i n k:Nat}(hk:k < n)(hi:k≠i):ev (lgp X i n) (X k)=0:=by
 induction n with
 | zero=>omega
 | succ n ih =>
  rw[FH];split
  ·rcases Nat.lt_or_ge k n with h | h
   ·exact ih h
   ·omega
  ·rw[Gm (OM _ _ _) (PU _),Yi]
   rcases Nat.lt_or_ge k n with h | h
   ·rw[ih h];grind
   ·obtain rfl:k=n:=by omega
    grind
theorem WE(X:Nat→Rat){i n:Nat}{x:Rat}(h:∀ k,k < n→k≠i→x≠X k):ev (lgp X i n) x≠0:=by
 induction n with
 | zero=>show ev pone x≠0;rw[OT];decide
 | succ n ih =>
  have h1:=ih fun k hk=>h k Aa;rw[FH];split
  ·exact h1
  ·rename_i hne
   rw[Gm (OM _ _ _) (PU _),Yi];intro e;rcases Rat.mul_eq_zero.1 e with e | e
   ·exact h1 e
   ·exact h n Aa hne Au
theorem fJ{X:Nat→Rat}(i n:Nat)(hX:∀ k,k < n→qsz (X k)≤2)(hn:n≤4294967290):CD (3+7*n) (lgp X i n):=by
 induction n with
 | zero=>exact CD.pone
 | succ n ih =>
  have h1:=ih (fun k hk=>hX k Aa) Aa;rw[FH];split
  ·exact h1.mono Aa
  ·exact(CD.cv (Px X i n).1 Aa h1 (CD.lin (hX n Aa))).mono Aa
def hor(F:Nat→Rat)(x:Rat)(n i:Nat):Rat:=CV (n - i) (fun j=>F (i+j)) x
theorem Pi(F:Nat→Rat)(x:Rat)(n:Nat):hor F x n n=0:=by unfold hor;rw[Nat.sub_self];rfl
theorem KJ(F:Nat→Rat)(x:Rat){n i:Nat}(h:i < n):hor F x n i=hor F x n (i+1)*x+F i:=by
 unfold hor;obtain⟨m,hm⟩:∃ m,n - i=m+1:=⟨n - i - 1,Aa⟩
 rw[hm,DZ,show n - (i+1)=m from by omega];have:tl (fun j=>F (i+j))=fun j=>F (i+1+j):=by funext j;show F (i+(j+1))=_;rw[show i+(j+1)=i+1+j from by omega]
 rw[this];show F (i+0)+_=_;rw[Nat.add_zero];grind
theorem N9(F:Nat→Rat)(x:Rat)(n:Nat):hor F x n 0=CV n F x:=by unfold hor;simp
theorem Ud{F:Nat→Rat}{x:Rat}{s t:Nat}(hF:∀ i,qsz (F i)≤s)(hx:qsz x≤t)(n:Nat):qsz (CV n F x)≤1+n*(s+t+1):=by
 induction n generalizing F with
 | zero=>show qsz 0≤_;rw[GJ];omega
 | succ n ih =>
  rw[DZ];have h1:=EB (F 0) (x*CV n (tl F) x);have h2:=BR x (CV n (tl F) x);have h3:=ih (F:=tl F) fun i=>hF (i+1);have h4:=hF 0;rw[Nat.succ_mul];omega
theorem Zk{F:Nat→Rat}{x:Rat}{s t:Nat}(hF:∀ i,qsz (F i)≤s)(hx:qsz x≤t)(n i:Nat):qsz (hor F x n i)≤1+n*(s+t+1):=by
 have h1:=Ud (F:=fun j=>F (i+j)) (fun j=>hF (i+j)) hx (n - i);have h2:(n - i)*(s+t+1)≤n*(s+t+1):=Nat.mul_le_mul_right _ Aa;unfold hor;omega
theorem PG{F:Nat→Rat}{x:Rat}{s t n:Nat}(hs:BB n F)(hF:∀ i,qsz (F i)≤s)(hx:qsz x≤t):qsz (ev F x)≤1+n*(s+t+1):=by
 rw[F6 hs];exact Ud hF hx n
noncomputable def dY(X Y:Nat→Rat)(n i:Nat):Nat→Rat:=psc (Y i / ev (lgp X i n) (X i)) (lgp X i n)
noncomputable def Z4(X Y:Nat→Rat)(n:Nat):Nat→Nat→Rat
 | 0=>pz
 | m+1=>pad (Z4 X Y n m) (dY X Y n m)
def LF(X:Nat→Rat)(n:Nat):Prop:=∀ i k,i < n→k < i→X i≠X k
theorem LF.ne{X:Nat→Rat}{n:Nat}(h:LF X n){i k:Nat}(hi:i < n)(hk:k < n)(e:k≠i):X i≠X k:=by
 rcases Nat.lt_or_ge k i with l | l
 ·exact h i k hi l
 ·exact fun e2=>h k i hk Aa e2.symm
theorem TA(X Y:Nat→Rat){n i:Nat}(h:i < n):BB n (dY X Y n i):=((Px X i n).2 h).psc _
theorem Ps(X Y:Nat→Rat)(n:Nat):∀ m,m≤n→BB n (Z4 X Y n m):=by
 intro m;induction m with
 | zero=>intro _;exact BB.pz n
 | succ m ih=>intro h;exact(ih Aa).pad (TA X Y h)
theorem Yl{X Y:Nat→Rat}{n:Nat}(h:LF X n){k:Nat}(hk:k < n):∀ m,m≤n→ev (Z4 X Y n m) (X k)=if k < m then Y k else 0:=by
 intro m;induction m with
 | zero=>intro _;show ev pz _=_;rw[Qa,if_neg Aa]
 | succ m ih =>
  intro hm;show ev (pad (Z4 X Y n m) (dY X Y n m)) (X k)=_;rw[JR ⟨n,Ps X Y n m Aa⟩ ⟨n,TA X Y hm⟩,ih Aa];unfold dY;rw[Gu _ (OM _ _ _)];by_cases e:k=m
  ·subst e
   have:=WE X (i:=k) (n:=n) (x:=X k) fun j hj hne=>h.ne hk hj hne;rw[if_neg Aa,if_pos Aa];grind
  ·rw[Wt X hk e]
   by_cases l:k < m
   ·rw[if_pos l,if_pos Aa];grind
   ·rw[if_neg l,if_neg Aa];grind
theorem Kl{X:Nat→Rat}{n:Nat}(h:LF X n){F G:Nat→Rat}(hF:BB n F)(hG:BB n G)(e:∀ k,k < n→ev F (X k)=ev G (X k)):F=G:=by
 have hz:psb F G=pz:=by
  refine Ip (l:=(List.range n).map X) (by simpa using hF.psb hG) ?_ ?_
  ·rw[List.nodup_iff_pairwise_ne,List.pairwise_map]
   refine List.Pairwise.imp_of_mem (R:=fun a b=>a < b) ?_ List.pairwise_lt_range;intro a b ha hb hab;exact fun e=>h b a (List.mem_range.1 hb) hab e.symm
  ·intro x hx
   obtain⟨k,hk,rfl⟩:=List.mem_map.1 hx;rw[bD ⟨n,hF⟩ ⟨n,hG⟩,e k (List.mem_range.1 hk)];grind
 funext i
 have:=congrFun hz i;simp only[psb,pz]at this;grind
def NW:Nat→Nat
 | 0=>22
 | 1=>22
 | j+2=>NW j+8*(NW (j+1)+1)
def jO(j:Nat):Nat:=1+8*(NW j+8*(NW (j+1)+1)+NW (j+1)+1)
def VA:Nat→Nat
 | 0=>3
 | 1=>3
 | j+2=>VA j+(jO j+VA (j+1)+1)+1
theorem Td:∀ j,NW j≤NW (j+1)
 | 0=>Nat.le_refl _
 | j+1=>by show _≤NW j+8*(NW (j+1)+1);omega
theorem SS:∀ j,VA j≤VA (j+1)
 | 0=>Nat.le_refl _
 | j+1=>by show _≤VA j+(jO j+VA (j+1)+1)+1;omega
theorem Je{f:Nat→Nat}(h:∀ j,f j≤f (j+1)){i j:Nat}(k:i≤j):f i≤f j:=by
 induction j with
 | zero=>obtain rfl:i=0:=Aa;exact Nat.le_refl _
 | succ j ih =>
  rcases Nat.eq_or_lt_of_le k with e | e
  ·rw[e];exact Nat.le_refl _
  ·exact Nat.le_trans (ih Aa) (h j)
theorem bC:NW 7=7310526:=rfl
theorem dO:VA 7=76218651:=rfl
def Pj(F0 G0:Nat→Rat)(j:Nat)(R S U N:Nat→Rat):Prop:=
 (Af R∧Af S∧Af U∧Af N)∧(∀ E,Af E→(Dv E R∧Dv E S↔Dv E F0∧Dv E G0)) ∧
 (∃ V W,Af V∧Af W∧pad (cv U F0) (cv V G0)=R∧pad (cv N F0) (cv W G0)=S) ∧
 (CD (NW j) R∧CD (NW (j+1)) S∧CD (VA j) U∧CD (VA (j+1)) N)∧pl R≤7∧pl S+j≤7∧pl G0≤7 ∧
 ((j=0∧U=pone∧N=pz∧S=G0)∨(1≤j∧pl N+pl R≤pl G0+1∧pl U+pl R≤pl G0+1∧pl S≤pl R∧R≠pz))
theorem Pj.start{F G:Nat→Rat}(hF:Af F)(hG:Af G)(cF:CD 22 F)(cG:CD 22 G)(lF:pl F≤7)(lG:pl G≤7):Pj F G 0 F G pone pz:=
 ⟨⟨hF,hG,Dx,Af.pz⟩,fun _ _=>Iff.rfl,⟨pz,pone,Af.pz,Dx,by rw[Db,CG];funext n;simp only[pad,pz];grind,by rw[Db,CG];funext n;simp only[pad,pz];grind⟩,
  ⟨cF,cG,CD.pone,CD.pz.mono (by show 1≤3;omega)⟩,lF,lG,lG,.inl ⟨rfl,rfl,rfl,rfl⟩⟩
theorem Pj.step{F0 G0 R S U N:Nat→Rat}{j:Nat}(h:Pj F0 G0 j R S U N)(h0:S≠pz):Pj F0 G0 (j+1) S (pr R S) N (psb U (cv (pq R S) N)):=by
 obtain⟨⟨hR,hS,hU,hN⟩,hd,⟨V,W,hV,hW,e1,e2⟩,⟨cR,cS,cU,cN⟩,lR,lS,lG,hj⟩:=h;have hp:=Be hS h0;have hs:=Bq (Ea hR hS h0);have hR8:BB (8+pl S - 1) R:=(AU hR).mono Aa;have q8:=Lm hR8 hS h0;have hq:=DJ R S;have c1:=CD.pr hR8 hS h0 cR cS;have c2:=CD.pq hR8 hS h0 cR cS;refine⟨⟨hS,EQ hR hS,hN,hU.psb (hq.cv hN)⟩,fun E hE=>by rw[LX];exact hd E hE,⟨W,psb V (cv (pq R S) W),hW,hV.psb (hq.cv hW),e2,?_⟩,
  ⟨cS,c1,cN,cU.psb (CD.cv q8 Aa c2 cN)⟩,Aa,Aa,lG,.inr ?_⟩
 ·show _=psb R (cv (pq R S) S)
  rw[FE,FE,AJ,AJ,←e2,FW]
  conv=>rhs;rw[←e1]
  funext n;simp only[pad,psb];grind
 ·rcases hj with⟨rfl,rfl,rfl,rfl⟩ | ⟨hj,d1,d2,d3,d4⟩
  ·have e:psb pone (cv (pq R S) pz)=pone:=by rw[Kk];funext n;simp only[psb,pz];grind
   have l1:=Bq Ey;rw[e,Ca];exact⟨Aa,Aa,Aa,Aa,h0⟩
  ·have q1:=Lm (n:=pl R - pl S+1) ((AU hR).mono Aa) hS h0
   have l1:pl (psb U (cv (pq R S) N))≤pl G0+1 - pl S:=Bq (((AU hU).mono Aa).psb ((q1.cv (AU hN)).mono Aa));exact⟨Aa,Aa,Aa,Aa,h0⟩
theorem Pj.room{F0 G0 R S U N:Nat→Rat}{j:Nat}(h:Pj F0 G0 j R S U N)(h0:S≠pz):j≤6∧NW j≤7310526∧NW (j+1)≤7310526∧VA j≤76218651∧VA (j+1)≤76218651∧BB 8 (pq R S)∧pl N≤8∧(∀ i,qsz (pq R S i)≤73105268) ∧
  NW j+(pl R+2)*(NW (j+1)+1)+2*NW (j+1)+2≤68719476736∧(∀ i,qsz (cv (pq R S) N i)≤661060805)∧pl U≤8:=by
 obtain⟨⟨hR,hS,hU,hN⟩,hd,-,⟨cR,cS,cU,cN⟩,lR,lS,lG,hj⟩:=h;have hp:=Be hS h0;have hR8:BB (8+pl S - 1) R:=(AU hR).mono Aa;have q8:=Lm hR8 hS h0;have b1:NW j≤7310526:=by rw[←bC];exact Je Td Aa
 have b2:NW (j+1)≤7310526:=by rw[←bC];exact Je Td Aa
 have a1:VA j≤76218651:=by rw[←dO];exact Je SS Aa
 have a2:VA (j+1)≤76218651:=by rw[←dO];exact Je SS Aa
 have c2:=CD.pq hR8 hS h0 cR cS;have c3:=CD.cv q8 Aa c2 cN;have h8:(pl R+2)*(NW (j+1)+1)≤9*(NW (j+1)+1):=Nat.mul_le_mul_right _ Aa;have lN:pl N≤8∧pl U≤8:=by
  rcases hj with⟨rfl,rfl,rfl,rfl⟩ | ⟨hj,d1,d2,d3,d4⟩
  ·have:=Bq Ey
   rw[Ca];omega
  ·omega
 refine⟨Aa,b1,b2,a1,a2,q8,lN.1,fun i=>?_,Aa,fun i=>?_,lN.2⟩
 ·have:=MV hR8 hS h0 cR cS i;omega
 ·have:=c3.elem i;omega
theorem Pj.end_{F0 G0 R S U N:Nat→Rat}{j:Nat}(h:Pj F0 G0 j R S U N)(h0:S=pz)(hF:Af F0)(hG:Af G0)(hg:G0≠pz)(cF:CD 22 F0)(cG:CD 22 G0)(lF:pl F0≤7) :
  R≠pz∧CD 7310526 R∧CD 14621052 (mn R)∧CD 76218651 U∧CD 83529177 (psc (1 / ld R) U)∧pl U≤7∧1≤pl R∧pl R≤7 ∧
  pq G0 (mn R)≠pz∧CD 1052715993 (pq G0 (mn R))∧pl (pq G0 (mn R))≤7 ∧
  CD 8505257129 (pr (psc (1 / ld R) U) (pq G0 (mn R)))∧pl (pr (psc (1 / ld R) U) (pq G0 (mn R)))≤7 ∧
  CD 8519878205 (psb (mn R) (cv (pr (psc (1 / ld R) U) (pq G0 (mn R))) F0))∧pl (psb (mn R) (cv (pr (psc (1 / ld R) U) (pq G0 (mn R))) F0))≤14 ∧
  (∀ i,qsz (pq (psb (mn R) (cv (pr (psc (1 / ld R) U) (pq G0 (mn R))) F0)) G0 i)≤8519878572) ∧
  iZ F0 G0 (mn R) (pr (psc (1 / ld R) U) (pq G0 (mn R))) (pq (psb (mn R) (cv (pr (psc (1 / ld R) U) (pq G0 (mn R))) F0)) G0):=by
 subst h0;obtain⟨⟨hR,hS,hU,hN⟩,hd,⟨V,W,hV,hW,e1,e2⟩,⟨cR,cS,cU,cN⟩,lR,lS,lG,hj⟩:=h;rcases hj with⟨rfl,rfl,rfl,e⟩ | ⟨hj,d1,d2,d3,d4⟩
 ·exact absurd e.symm hg
 have pR:=Be hR d4;have cR':CD 7310526 R:=cR.mono (by rw[←bC];exact Je Td Aa);have cU':CD 76218651 U:=cU.mono (by rw[←dO];exact Je SS Aa);have hD:=Lb hR;have cD:CD 14621052 (mn R):=cR'.mn.mono Aa;have hI:LK F0 G0 (mn R):=(LK.zero hR).of hd;have hD0:=iU hR d4;have lD:=QK hR;obtain⟨A,hA,eA⟩:=hI.2.2.1;obtain⟨Q,hQ,eQ⟩:=hI.2.2.2.1;have hper:pq G0 (mn R)=Q:=by
  have:=(Nc hQ hD hD0).1;rw[←eQ]at this;exact this
 have hQ0:Q≠pz:=fun e=>hg (by rw[eQ,e,CG]);have lQ:pl G0=pl Q+pl (mn R) - 1:=by rw[eQ];exact GK hQ hD hQ0 hD0
 have pQ:=Be hQ hQ0;have cQ:CD 1052715993 Q:=by
  rw[←hper];exact(CD.pq (n:=8) ((AU hG).mono Aa) hD hD0 cG cD).mono Aa
 have c1:qsz (1 / ld R)≤7310526:=by
  have e:1 / ld R=(ld R)⁻¹ := by rw[Rat.div_def,Rat.one_mul]
  rw[e];exact Nat.le_trans (PI _) (cR'.elem _)
 have cU1:CD 83529177 (psc (1 / ld R) U):=(cU'.psc _).mono Aa;have hU1:Af (psc (1 / ld R) U):=hU.psc _;have lU1:pl (psc (1 / ld R) U)≤7:=Nat.le_trans (Bq ((AU hU).psc _)) Aa;rw[hper];obtain⟨U1,hU1e⟩:∃ U1,U1=psc (1 / ld R) U:=⟨_,rfl⟩
 rw[←hU1e]at cU1 hU1 lU1 ⊢;have hU2:=EQ hU1 hQ;have cU2:CD 8505257129 (pr U1 Q):=(CD.pr (n:=8) ((AU hU1).mono Aa) hQ hQ0 cU1 cQ).mono Aa;have sU2:=Ea hU1 hQ hQ0;have lU2:=Bq sU2;have cX:CD 8519878205 (psb (mn R) (cv (pr U1 Q) F0)):=(cD.psb (CD.cv sU2 Aa cU2 cF)).mono Aa;have hX:Af (psb (mn R) (cv (pr U1 Q) F0)):=hD.psb (hU2.cv hF);have lX:pl (psb (mn R) (cv (pr U1 Q) F0))≤14:=Bq (((AU hD).mono Aa).psb (((AU hU2).cv (AU hF)).mono Aa))
 have key:psb (mn R) (cv (pr U1 Q) F0)=cv (pad (psc (1 / ld R) V) (cv (pq U1 Q) A)) G0:=by
  have k1:cv (pr U1 Q) F0=psb (cv U1 F0) (cv (cv (pq U1 Q) Q) F0):=by
   unfold pr;rw[FE]
  have k2:cv (cv (pq U1 Q) Q) F0=cv (cv (pq U1 Q) A) G0:=by
   rw[AJ,AJ];congr 1
   conv=>lhs;rw[eA]
   conv=>rhs;rw[eQ]
   rw[←AJ,←AJ,Bw Q A]
  have k3:mn R=pad (cv U1 F0) (cv (psc (1 / ld R) V) G0):=by
   rw[hU1e,D6,D6];show psc (1 / ld R) R=_
   conv=>lhs;rw[←e1]
   funext n;simp only[pad,psc];grind
  rw[k1,k2,Dk]
  conv=>lhs;rw[k3]
  funext n;simp only[pad,psb];grind
 have hB:Af (pad (psc (1 / ld R) V) (cv (pq U1 Q) A)):=(hV.psc _).pad ((DJ _ _).cv hA);have hV2:pq (psb (mn R) (cv (pr U1 Q) F0)) G0=pad (psc (1 / ld R) V) (cv (pq U1 Q) A):=by
  rw[key];exact(Nc hB hG hg).1
 refine⟨d4,cR',cD,cU',cU1,Aa,pR,lR,hQ0,cQ,Aa,cU2,Aa,cX,lX,fun i=>?_,hI,hU2,DJ _ _,?_,sU2.mono Aa⟩
 ·have:=MV (n:=15) ((AU hX).mono Aa) hG hg cX cG i
  omega
 ·rw[hV2,←key]
  funext n;simp only[pad,psb];grind
open Go.RowKit
end Go.Hp
namespace Go.Proofs.YtmhgnigpmompmaaGreat
open Go.RowKit Go.Hp
theorem Z8(v:Value)(l:List Rat)(w:World)(hv:KU 0 w v l)(hn:l.length≤1099511627776):Bh 130 #[v] w (fun r w'=>BD w' r (ld (co l))):=by
 have HV:=Ad hv;obtain⟨A,c,rfl⟩:=hv.len;have hple:=Bq (FM l);have H:=Ad (show ∀ w1,Ext w w1→Bh 165 #[.slice A l.length c,.int .i64 ((pl (co l):Int) - 1)] w1 (fun r w'=>BD w' r (ld (co l))) by
  intro w1 e;by_cases h0:pl (co l)=0
  ·have:co l=pz:=(BG (Af.co l)).1 h0
   have e2:ld (co l)=0:=by rw[this];rfl
   rw[h0,e2];exact cK _ l w1 (HV.out.ext e)
  ·have e2:((pl (co l):Int) - 1)=((pl (co l) - 1:Nat):Int):=by omega
   rw[e2];exact iA _ l (pl (co l) - 1) w1 (HV.out.ext e) Aa)
 clear hv
 go_enter Tryz.func130,Tryz.ntmps130
 go_wp2_with fail
 refine AL (Vr _ l _ (HV.out.ext ((Ext.refl w).alloc _)) hn) ?_;rintro r w1 rfl hx1
 go_wp2_with fail
 refine AL (H.out _ hx1.a1) ?_;rintro r w2 hr hx2;replace hx1:=hx1.trans hx2;clear hx2;obtain⟨b5,A5,n5,c5,b6,A6,n6,c6,rfl⟩:=hr.cells;have hc1:=hx1.cells;have hf1:=hx1.frozens;have Hfin:=Ad (Cy hr hx1.a1 (AX.at_ hx1 (g:=w.heap.size+0) Ac (by simp[Ag])) Aa);clear hr;go_wp2;refine bodyPost_ret (v := .agg #[.bool b5,.slice A5 n5 c5,.bool b6,.slice A6 n6 c6]) (by simp[results,Tryz.results130,go_sem,hc1]) rfl ?_
 exact Hfin.out
/-! ### over polynomials -/
theorem VJ(v u:Value)(F G:Nat→Rat)(s t:Nat)(w:World)(hv:Da 0 w v F)(hu:Da 0 w u G)(h0:G≠pz)(hF:CD s F)(hG:CD t G)(hn:pl F≤274877906944)(hm:pl G≤274877906944)(hK:s+(pl F+2)*(t+1)+2*t+2≤274877906944) :
  Bh 70 #[v,u] w (fun r w'=>∃ a b,r = .tuple #[a,b]∧Da w.heap.size w' a (pq F G)∧Da w.heap.size w' b (pr F G)):=by
 obtain⟨l,h1,h2,h3,rfl⟩:=hv.hs (fun i=>by have:=hF.elem i;have h:0 < (pl F+2)*(t+1):=Nat.mul_pos Aa Aa;omega);obtain⟨m,k1,k2,k3,rfl⟩:=hu.hs (fun i=>by have:=hG.elem i;omega);exact V3 v u l m s t w h1 k1 h0 hF hG Aa Aa hK
theorem Km(v:Value)(l:List Rat)(w:World)(hv:KU 0 w v l)(hn:l.length≤1099511627776):Bh 156 #[v] w (fun r w'=>Da w.heap.size w' r (co l)):=
 Ah.imp (Va v l w hv hn) fun _ _ h=>Da.of_trim h rfl
theorem Xa(v u:Value)(l m:List Rat)(s t:Nat)(w:World)(hv:KU 0 w v l)(hu:KU 0 w u m)(h0:co m≠pz)(hF:CD s (co l))(hG:CD t (co m))(hn:l.length≤274877906944)(hm:m.length≤274877906944)(hK:s+(pl (co l)+2)*(t+1)+2*t+2≤274877906944) :
  Bh 114 #[v,u] w (fun r w'=>∃ a b,r = .tuple #[a,b,.int .i64 0]∧Da w.heap.size w' a (pq (co l) (co m))∧Da w.heap.size w' b (pr (co l) (co m))):=by
 have HV:=Ad hv;have HU:=Ad hu;obtain⟨A,c,rfl⟩:=hv.len;obtain⟨E,d,rfl⟩:=hu.len;clear hv hu;have hp0:=Bq (FM l);have HX:=Ad (Ak h0 (Ak hF (Ak hG (Ak hK (Be (Af.co m) h0)))));clear h0 hF hG hK
 go_enter Tryz.func114,Tryz.ntmps114
 go_wp2_with fail
 refine AL (Km _ m _ HU.out Aa) ?_;rintro r1 w1 hr1 hx1;have Hr1:=Ad hr1;obtain⟨A1,c1,l1,rfl,k1,k2,-⟩:=hr1.form;have b0:((pl (co m):Int)==0)=false:=by have:=HX.out.2.2.2.2;simp;omega
 clear hr1
 go_wp2_with fail
 refine AL (Km _ l _ (HV.out.ext hx1) Aa) ?_;rintro r2 w2 hr2 hx2;have Hr2:=Ad hr2;clear hr2
 go_wp2_with fail
 refine AL (Wq _ _ (co l) (co m) s t _ (Hr2.out.base_le (Nat.zero_le _)) ((Hr1.out.ext hx2).base_le (Nat.zero_le _)) HX.out.1 HX.out.2.1 HX.out.2.2.1 Aa HX.out.2.2.2.1) ?_;rintro r3 w3 ⟨a,b,rfl,ha,hb⟩ hx3;have Hab:=Ad (Ak ha hb);clear ha hb;have s1:=hx1.size;have s2:=hx2.size;go_wp2
 go_ret3
 exact Ah.mk ⟨_,_,rfl,Hab.out.1.base_le Aa,Hab.out.2.base_le Aa⟩ ((hx1.trans hx2).trans hx3)
end Go.Proofs.YtmhgnigpmompmaaGreat
namespace Go.Hp
open Go.RowKit
theorem Ej.at_{base n c:Nat}{e:TypeId}{w:World}{A:Option Addr}{l:List Rat}(h:Ej base e w (.slice A n c) l){j:Nat}(hj:j < l.length) :
  ∃ g o b A1 n c b' A1' n' c',A=some ⟨g,o,none⟩∧base≤g∧w.cell? ⟨g,o+j*4,none⟩=some (.bool b)∧w.cell? ⟨g,o+j*4+1,none⟩=some (.slice A1 n c)∧w.cell? ⟨g,o+j*4+2,none⟩=some (.bool b')∧w.cell? ⟨g,o+j*4+3,none⟩=some (.slice A1' n' c')∧BD w (.agg #[.bool b,.slice A1 n c,.bool b',.slice A1' n' c']) l[j]:=by
 obtain⟨A',c',e1,h2,h3,h4⟩:=Ej.row h;cases e1;exact Lr.at_ h4 hj
theorem Ej.shape{base:Nat}{e:TypeId}{w:World}{v:Value}{l:List Rat}(h:Ej base e w v l):∃ A c,v = .slice A l.length c∧l.length≤c∧c≤9223372036854775807:=by
 obtain⟨A',c',e1,h2,h3,h4⟩:=Ej.row h;exact⟨A',c',e1,h2,h3⟩
end Go.Hp
namespace Go.Proofs.YtmhgnigpmompmaaGreat
open Go.RowKit Go.Hp
end Go.Proofs.YtmhgnigpmompmaaGreat
namespace Go.Hp
open Go.RowKit
theorem Da.upd{base:Nat}{G:List Nat}{w w':World}{v:Value}{F:Nat→Rat}(h:Da base w v F)(U:Cs G w w')(hG:∀ g∈G,g < base):Da base w' v F:=by
 obtain⟨l,h1,h2,h3⟩:=h;exact⟨l,CZ.upd h1 U hG fun _ _ q=>q.kd U.kd,h2,h3⟩
end Go.Hp
namespace Go.Proofs.YtmhgnigpmompmaaGreat
open Go.RowKit Go.Hp
end Go.Proofs.YtmhgnigpmompmaaGreat
namespace Go.Hp
open Go.RowKit
end Go.Hp
namespace Go.Proofs.YtmhgnigpmompmaaGreat
open Go.RowKit Go.Hp
end Go.Proofs.YtmhgnigpmompmaaGreat
namespace Go.Hp
open Go.RowKit
theorem Rh.own{w:World}{v:Value}{base:Nat}{q:Rat}{t:TypeId}(h:Rh w v base q t):Ej base t w v [q]:=by
 obtain⟨g,cs,rfl,h1,h2,h3,h4⟩:=h;refine⟨[cs],rfl,fun c hc=>by simp at hc;subst hc;exact h3,⟨by simp[h3],.inr ⟨g,1,cs,rfl,h1,h2,Ac,by simp[maxLen],by simp[h3],?_⟩⟩,fun j h h'=>?_⟩
 ·simp only[List.flatMap_cons,List.flatMap_nil,List.append_nil]
  exact List.take_of_length_le (by simp[h3])
 ·have:j=0:=by simp at h;omega
  subst this;exact h4
end Go.Hp
namespace Go.Proofs.YtmhgnigpmompmaaGreat
open Go.RowKit Go.Hp
end Go.Proofs.YtmhgnigpmompmaaGreat
namespace Go.Hp
open Go.RowKit
theorem AO.of_one{w:World}{A:Option Addr}{c N:Nat}{b:Bool}{n:Int}(h:BJ w (.slice A 1 c) [N])(h0:N≠0)(hn:n=if b then -(N:Int)else N):AO w (.agg #[.bool b,.slice A 1 c]) n:=by
 refine⟨b,[N],⟨_,rfl,h⟩,?_,fun _=>by simpa using h0,fun _=>Ac⟩;rw[hn];unfold iv;simp[nv]
theorem AO.of_nil{w:World}:AO w (.agg #[.bool false,.slice none 0 0]) 0:=AO.zero w
end Go.Hp
namespace Go.Proofs.YtmhgnigpmompmaaGreat
open Go.RowKit Go.Hp
theorem jD(n:Int)(w:World)(h1 : -4294967296 < n)(h2:n < 4294967296):Bh 58 #[.int .i64 n] w (fun r w'=>AO w' r n):=by
 go_enter Tryz.func58,Tryz.ntmps58
 by_cases hneg:n < 0
 ·have hb:decide (n < 0)=true:=by simpa using hneg
  have Hw:=Ad (Mr (x:=n) Aa hneg);obtain⟨N,hN⟩:∃ N,N=n.natAbs:=⟨_,rfl⟩
  have HN:=Ad hN;have hNb:N < 4294967296:=by omega
  clear hN;go_wp2;obtain⟨W9,eW9,e9,x9⟩:=Bj.made (w.alloc (.cells #[.bool false,.slice none 0 0] 26)) 26 #[.bool true,.slice none 0 0] (by simp[Ag]);rw[←eW9];clear eW9;rw[World.size_alloc]at e9
  go_loopw [3] (fun uv wx=>∃ m:Nat,uv = .int .u64 m∧m < 4294967296∧((m=N∧Bj wx (w.heap.size+1) 26 #[.bool true,.slice none 0 0])∨(m=0∧N≠0∧∃ A c,Bj wx (w.heap.size+1) 26 #[.bool true,.slice A 1 c]∧BJ wx (.slice A 1 c) [N]))∧Ext (w.alloc (.cells #[.bool false,.slice none 0 0] 26)) wx) (fun uv _=>(intOf uv).toNat)
  case atStart=>exact⟨N,by rw[Hw.out,HN.out],hNb,.inl ⟨rfl,e9⟩,x9⟩
  case round =>
   clear e9 x9;obtain⟨m,rfl,hm,hst,hx⟩:=hrel;by_cases h0:m=0
   ·have hr:∃ A k c,Bj wr (w.heap.size+1) 26 #[.bool true,.slice A k c]∧AO wr (.agg #[.bool true,.slice A k c]) n:=by
     rcases hst with⟨e,hb⟩ | ⟨_,hne,A,c,hb,hd⟩
     ·exact⟨_,_,_,hb,by have h3:=HN.out;omega⟩
     ·exact⟨_,_,_,hb,AO.of_one hd hne (by have h3:=HN.out;(simp;omega))⟩
    obtain⟨A5,n5,c5,ez,hr⟩:=hr;have H0:=Ad h0;clear h0;have Hr:=Ad hr;clear hr hst;have hm0:¬ (0 < (m:Int)):=by have:=H0.out;omega
    obtain⟨cez0,cez1⟩:=ez.cells2;have fez:=ez.frozen;have hx1:=hx;clear hx;have hc1:=hx1.cells;have hf1:=hx1.frozens;have Hfin:=Ad (Ci Hr.out hx1.a1 (AX.at_ hx1 (g:=w.heap.size+0) Ac (by simp[Ag])) Aa);go_wp2;refine bodyPost_ret (v := .agg #[.bool true,.slice A5 n5 c5]) (by simp[results,Tryz.results58,go_sem,hc1]) rfl ?_;exact Hfin.out
   ·obtain⟨rfl,ez⟩:m=N∧Bj wr (w.heap.size+1) 26 #[.bool true,.slice none 0 0]:=by
     rcases hst with⟨e,hb⟩ | ⟨e,_⟩
     ·exact⟨e,hb⟩
     ·exact absurd e h0
    have hm0:0 < m:=by omega
    have hsz:w.heap.size≤wr.heap.size:=hx.a1.size;clear hst;obtain⟨cez0,cez1⟩:=ez.cells2;have fez:=ez.frozen
    go_wp2_with (at_builtin;refine AB rfl _ _ 24 rfl (.slice none 0 0) (.slice (some ⟨wr.heap.size,0,none⟩) 1 1) rfl rfl (Dp wr w.heap.size _ _ [] m _ _ (FD.nil _ _) (by first | rfl | omega) Ac hsz rfl) ?_)
    rintro v' w5 hown hg;have xa:Ext wr w5:=((Ext.refl wr).alloc _).grown hg (fun k hk=>by simp[Value.ownBlock]at hk);have hd:=hown.digv (Bc.cons hm Bc.nil);have hd2:=hd;obtain⟨A5,c5,rfl,-,-,-⟩:=hd2;clear hown hg;have ez5:=ez.ext xa;replace hx:=hx.trans xa;clear ez xa cez0 cez1 fez;obtain⟨cez50,cez51⟩:=ez5.cells2;have fez5:=ez5.frozen;have Hd:=Ad hd;clear hd;have H0:=Ad h0;clear h0;go_wp2;have eb:=ez5.set_ 1 (u := .slice A5 1 c5) rfl
    have U:=Cs.set_ ez5.nodig 1 (.slice A5 1 c5);replace hx:=U.from_ hx Ac;have Hdd:=Ad (show BJ _ _ _ from BJ.kd Hd.out U.kd)
    go_roundw
    case rel=>exact⟨0,by go_num,Aa,.inr ⟨rfl,H0.out,A5,c5,eb,Hdd.out⟩,hx⟩
    case measure=>simp[intOf]<;>omega
 ·have hb:decide (n < 0)=false:=by simpa using hneg
  have Hw:=Ad (Y4 (x:=n) Aa Aa);obtain⟨N,hN⟩:∃ N,N=n.natAbs:=⟨_,rfl⟩
  have HN:=Ad hN;have hNb:N < 4294967296:=by omega
  clear hN;go_wp2;obtain⟨W9,eW9,e9,x9⟩:=Bj.made (w.alloc (.cells #[.bool false,.slice none 0 0] 26)) 26 #[.bool false,.slice none 0 0] (by simp[Ag]);rw[←eW9];clear eW9;rw[World.size_alloc]at e9
  go_loopw [3] (fun uv wx=>∃ m:Nat,uv = .int .u64 m∧m < 4294967296∧((m=N∧Bj wx (w.heap.size+1) 26 #[.bool false,.slice none 0 0])∨(m=0∧N≠0∧∃ A c,Bj wx (w.heap.size+1) 26 #[.bool false,.slice A 1 c]∧BJ wx (.slice A 1 c) [N]))∧Ext (w.alloc (.cells #[.bool false,.slice none 0 0] 26)) wx) (fun uv _=>(intOf uv).toNat)
  case atStart=>exact⟨N,by(congr 1;have h3:=HN.out;omega),hNb,.inl ⟨rfl,e9⟩,x9⟩
  case round =>
   clear e9 x9;obtain⟨m,rfl,hm,hst,hx⟩:=hrel;by_cases h0:m=0
   ·have hr:∃ A k c,Bj wr (w.heap.size+1) 26 #[.bool false,.slice A k c]∧AO wr (.agg #[.bool false,.slice A k c]) n:=by
     rcases hst with⟨e,hb⟩ | ⟨_,hne,A,c,hb,hd⟩
     ·exact⟨_,_,_,hb,by have h3:=HN.out;(have e5:n=0:=by omega) ; rw[e5];exact AO.of_nil⟩
     ·exact⟨_,_,_,hb,AO.of_one hd hne (by have h3:=HN.out;(simp;omega))⟩
    obtain⟨A5,n5,c5,ez,hr⟩:=hr;have H0:=Ad h0;clear h0;have Hr:=Ad hr;clear hr hst;have hm0:¬ (0 < (m:Int)):=by have:=H0.out;omega
    obtain⟨cez0,cez1⟩:=ez.cells2;have fez:=ez.frozen;have hx1:=hx;clear hx;have hc1:=hx1.cells;have hf1:=hx1.frozens;have Hfin:=Ad (Ci Hr.out hx1.a1 (AX.at_ hx1 (g:=w.heap.size+0) Ac (by simp[Ag])) Aa);go_wp2;refine bodyPost_ret (v := .agg #[.bool false,.slice A5 n5 c5]) (by simp[results,Tryz.results58,go_sem,hc1]) rfl ?_;exact Hfin.out
   ·obtain⟨rfl,ez⟩:m=N∧Bj wr (w.heap.size+1) 26 #[.bool false,.slice none 0 0]:=by
     rcases hst with⟨e,hb⟩ | ⟨e,_⟩
     ·exact⟨e,hb⟩
     ·exact absurd e h0
    have hm0:0 < m:=by omega
    have hsz:w.heap.size≤wr.heap.size:=hx.a1.size;clear hst;obtain⟨cez0,cez1⟩:=ez.cells2;have fez:=ez.frozen
    go_wp2_with (at_builtin;refine AB rfl _ _ 24 rfl (.slice none 0 0) (.slice (some ⟨wr.heap.size,0,none⟩) 1 1) rfl rfl (Dp wr w.heap.size _ _ [] m _ _ (FD.nil _ _) (by first | rfl | omega) Ac hsz rfl) ?_)
    rintro v' w5 hown hg;have xa:Ext wr w5:=((Ext.refl wr).alloc _).grown hg (fun k hk=>by simp[Value.ownBlock]at hk);have hd:=hown.digv (Bc.cons hm Bc.nil);have hd2:=hd;obtain⟨A5,c5,rfl,-,-,-⟩:=hd2;clear hown hg;have ez5:=ez.ext xa;replace hx:=hx.trans xa;clear ez xa cez0 cez1 fez;obtain⟨cez50,cez51⟩:=ez5.cells2;have fez5:=ez5.frozen;have Hd:=Ad hd;clear hd;have H0:=Ad h0;clear h0;go_wp2;have eb:=ez5.set_ 1 (u := .slice A5 1 c5) rfl
    have U:=Cs.set_ ez5.nodig 1 (.slice A5 1 c5);replace hx:=U.from_ hx Ac;have Hdd:=Ad (show BJ _ _ _ from BJ.kd Hd.out U.kd)
    go_roundw
    case rel=>exact⟨0,by go_num,Aa,.inr ⟨rfl,H0.out,A5,c5,eb,Hdd.out⟩,hx⟩
    case measure=>simp[intOf]<;>omega
theorem jP(n:Int)(w:World)(h1 : -4294967296 < n)(h2:n < 4294967296):Bh 38 #[.int .i64 n] w (fun r w'=>BD w' r (n:Rat)):=by
 go_enter Tryz.func38,Tryz.ntmps38
 go_wp2_with fail
 refine AL (jD n _ h1 h2) ?_;rintro r w1 hn hx1
 go_wp2_with fail
 refine AL (jD 1 _ Aa Aa) ?_;rintro r w2 h1' hx2;replace hn:=hn.ext hx2;replace hx1:=hx1.trans hx2;clear hx2;obtain⟨b5,A5,n5,c5,rfl⟩:=hn.cells;obtain⟨b6,A6,n6,c6,rfl⟩:=h1'.cells;have hr:=BD.mk_ hn h1' (q:=(n:Rat)) rfl rfl;clear hn h1';have hc1:=hx1.cells;have hf1:=hx1.frozens;have Hfin:=Ad (Cy hr hx1.a1 (AX.at_ hx1 (g:=w.heap.size+0) Ac (by simp[Ag])) Aa);clear hr;go_wp2;refine bodyPost_ret (v := .agg #[.bool b5,.slice A5 n5 c5,.bool b6,.slice A6 n6 c6]) (by simp[results,Tryz.results38,go_sem,hc1]) rfl ?_
 exact Hfin.out
end Go.Proofs.YtmhgnigpmompmaaGreat
namespace Go.Hp
open Go.RowKit
def TG(w:World)(v:Value)(ns:List Int):Prop:=∃ g c,v = .slice (some ⟨g,0,none⟩) ns.length c∧ns.length≤c∧c≤9223372036854775807∧∀ j (h:j < ns.length),w.cell? ⟨g,j,none⟩=some (.int .i64 ns[j])
theorem TG.new(w:World)(t:TypeId)(ns:List Int)(h:ns.length≤1000):TG (w.alloc (.cells (ns.map fun n=>Value.int .i64 n).toArray t)) (.slice (some ⟨w.heap.size,0,none⟩) ns.length ns.length) ns:=
 ⟨_,_,rfl,Nat.le_refl _,Aa,fun j hj=>by
  rw[cell_of_row _ w.heap.size j _ t (0,0) (heap_alloc_new w _)];simp[hj]⟩
theorem Pt.at_{base n c:Nat}{w:World}{A:Option Addr}{l:List Rat}(h:Pt base w (.slice A n c) l){j:Nat}(hj:j < l.length) :
  ∃ g o b A1 n c b' A1' n' c',A=some ⟨g,o,none⟩∧base≤g∧w.cell? ⟨g,o+j*4,none⟩=some (.bool b)∧w.cell? ⟨g,o+j*4+1,none⟩=some (.slice A1 n c)∧w.cell? ⟨g,o+j*4+2,none⟩=some (.bool b')∧w.cell? ⟨g,o+j*4+3,none⟩=some (.slice A1' n' c')∧BD w (.agg #[.bool b,.slice A1 n c,.bool b',.slice A1' n' c']) l[j]:=by
 obtain⟨A',c',e1,h2,h3,h4⟩:=h;have e5:A'=A:=by injection e1 with h1;exact h1.symm
 subst e5;exact Lr.at_ h4 hj
end Go.Hp
namespace Go.Proofs.YtmhgnigpmompmaaGreat
open Go.RowKit Go.Hp
end Go.Proofs.YtmhgnigpmompmaaGreat
namespace Go.Hp
open Go.RowKit
theorem Xh{d:Nat}(h0:d≠0)(h1:d < 4294967296)(hb:d < 2^Lib.bitLen d)(hb2:2^Lib.bitLen d≤2*d):0 < Lib.bitLen d∧2^(Lib.bitLen d - 1)≤d:=by
 generalize Lib.bitLen d=b at *;rcases b with _ | b
 ·simp at hb;omega
 ·rw[Nat.pow_succ]at hb2
  exact⟨Aa,by rw[Nat.add_sub_cancel];omega⟩
theorem BL.uniq{n b c:Nat}(h:BL n b)(k:BL n c):b=c:=Nat.le_antisymm (h.le k.1) (k.le h.1)
theorem BL.sz{n b:Nat}(h:BL n b):b≤32*sz n:=h.le (by rw[←Cw];exact CF n)
theorem Qd{x y:Int}(h:x.sign=y.sign):x.sign*((x.natAbs:Int) - y.natAbs).sign=(x - y).sign:=by
 rcases Int.lt_trichotomy x 0 with h1 | h1 | h1
 ·rw[Int.sign_eq_neg_one_of_neg h1]at h ⊢
  have h2:y < 0:=by
   rcases Int.lt_trichotomy y 0 with k | k | k
   ·exact k
   ·rw[k]at h;cases h
   ·rw[Int.sign_eq_one_of_pos k]at h;cases h
  rw[show(x.natAbs:Int) - y.natAbs = -(x - y) by omega,Int.sign_neg];omega
 ·subst h1
  have:y=0:=by
   rcases Int.lt_trichotomy y 0 with k | k | k
   ·rw[Int.sign_eq_neg_one_of_neg k]at h;cases h
   ·exact k
   ·rw[Int.sign_eq_one_of_pos k]at h;cases h
  subst this;rfl
 ·rw[Int.sign_eq_one_of_pos h1]at h ⊢
  have h2:0 < y:=by
   rcases Int.lt_trichotomy y 0 with k | k | k
   ·rw[Int.sign_eq_neg_one_of_neg k]at h;cases h
   ·rw[k]at h;cases h
   ·exact k
  rw[show(x.natAbs:Int) - y.natAbs=x - y by omega];omega
theorem Sw{x y:Int}(h:x.sign≠y.sign):(x.sign - y.sign).sign=(x - y).sign:=by
 rcases Int.lt_trichotomy x 0 with h1 | h1 | h1<;>rcases Int.lt_trichotomy y 0 with h2 | h2 | h2
 all_goals first
  | (rw[Int.sign_eq_neg_one_of_neg h1,Int.sign_eq_neg_one_of_neg h2]at h;exact absurd rfl h)
  | (rw[Int.sign_eq_one_of_pos h1,Int.sign_eq_one_of_pos h2]at h;exact absurd rfl h)
  | (subst h1;subst h2;exact absurd rfl h)
  | (rw[Int.sign_eq_neg_one_of_neg h1,Int.sign_eq_one_of_pos h2,Int.sign_eq_neg_one_of_neg (show x - y < 0 by omega)];rfl)
  | (rw[Int.sign_eq_one_of_pos h1,Int.sign_eq_neg_one_of_neg h2,Int.sign_eq_one_of_pos (show 0 < x - y by omega)];rfl)
  | (subst h1;simp[Int.sign_neg])
  | (subst h2;simp)
theorem JO(x:Int) : -1≤x.sign∧x.sign≤1:=by
 rcases Int.lt_trichotomy x 0 with h | h | h
 ·rw[Int.sign_eq_neg_one_of_neg h];omega
 ·subst h;simp
 ·rw[Int.sign_eq_one_of_pos h];omega
end Go.Hp
namespace Go.Proofs.YtmhgnigpmompmaaGreat
open Go.RowKit Go.Hp
theorem Ta(v:Value)(x:Int)(w:World)(hv:Bu w v x):Bh 174 #[v] w (fun r _=>∃ b:Nat,r = .int .i64 b∧BL x.natAbs b):=by
 obtain⟨neg,A,n,c,N,rfl,h1,h2,h3,hN,hx⟩:=hv.form;have HN:=Ad hN;clear hN hv;have Hx:=Ad (show x.natAbs=N by rw[hx];cases neg<;>simp);clear hx
 go_enter Tryz.func174,Tryz.ntmps174
 go_wp2_with fail
 refine AL (BN _ N n _ (HN.out.ext ((Ext.refl w).alloc _))) ?_;rintro r w1 hr hx1;obtain⟨ds,hd,hnv,ht,hl⟩:=hr.len;obtain⟨E,p1,rfl,hl1,hc1,hE⟩:=hd;have HX:=Ad (show x.natAbs=nv ds by rw[Hx.out,←hnv]);have hx:=hx1.a1;have hm:ds.length≤1099511627776:=by rw[hl];exact Nat.le_trans HN.out.sz h3
 clear hx1 hr hl HN Hx hnv h1 h2 h3;rcases Nat.eq_zero_or_pos ds.length with h0 | h0
 ·have hb:(((ds.length:Nat):Int)==0)=true:=by rw[h0];rfl
  have:ds=[]:=List.eq_nil_of_length_eq_zero h0;clear h0;have Hd:=Ad this;clear this;go_wp2
  go_ret
  exact Ah.mk ⟨0,rfl,by rw[HX.out,Hd.out];exact BL.zero⟩ hx
 ·have hb:(((ds.length:Nat):Int)==0)=false:=beq_eq_false_iff_ne.2 Aa
  obtain⟨a,ha,hca⟩:=BS hE (k:=ds.length - 1) Aa;have x1:=Ba hE.1 (ds.length - 1);have hd0:dg ds (ds.length - 1)≠0:=by
   rw[Dn Aa];have:=ht (List.ne_nil_of_length_pos h0);rwa[List.getLast_eq_getElem]at this
  obtain⟨d,hdd⟩:∃ d,d=dg ds (ds.length - 1):=⟨_,rfl⟩
  rw[←hdd]at hca x1 hd0;obtain⟨q1,q2⟩:=Gq d d (Nat.le_refl _) Aa;have q3:=Xh hd0 x1 q1 (q2 hd0);have Hd:=Ad (Ak hdd (Ak ht (Ak q1 q3)));clear hdd ht q1 q2 q3;have hbl:=Lib.bitLen_le d 32 Ab Aa;obtain⟨m,hmm⟩:∃ m,ds.length=m+1:=⟨ds.length - 1,Aa⟩
  rw[hmm]at hca hb hl1 hm ⊢;clear h0;have Hm:=Ad hmm;clear hmm;subst ha;rw[Nat.add_sub_cancel]at hca;clear hd0
  go_wp2_with (go_at_call 188;refine(Ox _ _ Aa Aa).mono ?_;rintro e w' ⟨rfl,rfl⟩;rw[Int.toNat_natCast])
  go_ret
  refine Ah.mk ⟨32*m+Lib.bitLen d,by congr 1,?_⟩ hx;have:=BL.top (ds:=ds) (j:=Lib.bitLen d) hE.1 (by have:=Hm.out;omega) (by rw[←Hd.out.1];exact Hd.out.2.2.1) Hd.out.2.2.2.1 (by rw[←Hd.out.1];exact Hd.out.2.2.2.2);rw[Hm.out,Nat.add_sub_cancel]at this;rw[HX.out];exact this
theorem aI(v u:Value)(x y:Int)(w:World)(hv:Bu w v x)(hu:Bu w u y):Bh 189 #[v,u] w (fun r _=>r = .int .i64 (x - y).sign):=by
 have HV:=Ad hv;have HU:=Ad hu;obtain⟨neg,A,n,c,N,rfl,h1,h2,h3,hN,hx⟩:=hv.form;obtain⟨neg',A',n',c',M,rfl,k1,k2,k3,kN,hy⟩:=hu.form;have HN:=Ad hN;have HM:=Ad kN;clear hN hv hu kN;have Hx:=Ad (show x.natAbs=N∧y.natAbs=M by rw[hx,hy];cases neg<;>cases neg'<;>simp);clear hx hy;have r1:=JO x;have r2:=JO y
 go_enter Tryz.func189,Tryz.ntmps189
 go_wp2;refine Ae 4 [7,8,9,10] [[],[0],[],[0,1,2],[0,1,2,3],[0,1,2,3,4]] [2,3] [_,_] [(kv ?_),(kv (.int .i64 x.sign)),(kv ?_),(kv (.int .i64 y.sign))] (fun γ w'=>[True,True,True,True]) Bn Aj Aj Bo Aj Bl Br ?hstep1 ?_
 case hstep1 =>
  iterate 4 refine⟨?_,?_⟩
  trivial
  iterate 1 focus
   intro γ w' he hf;clear hf;refine⟨by trivial,?_⟩;intro R hR;have hc:=he.cells;go_simp;refine hR _ _ (Ext.refl _) ?_ trivial;rfl
  ·intro γ w' he hf;clear hf;refine⟨trivial,?_⟩;intro R hR
   go_simp;exact NJ (IL _ x w' (HV.out.ext he.a2)) hR
  iterate 1 focus
   intro γ w' he hf;clear hf;refine⟨by trivial,?_⟩;intro R hR;have hc:=he.cells;go_simp;refine hR _ _ (Ext.refl _) ?_ trivial;rfl
  ·intro γ w' he hf;clear hf;refine⟨trivial,?_⟩;intro R hR
   go_simp;exact NJ (IL _ y w' (HU.out.ext he.a2)) hR
 intro γ w1 hx1 hF;clear hF;simp only[Bf,Nat.reduceAdd];clear γ;by_cases hs:x.sign=y.sign
 ·have hb:(x.sign != y.sign)=false:=by simp[hs]
  have Hs:=Ad (Qd hs);clear hs;have ea:=((Bj.new w 26 #[.bool neg,.slice A n c] (by simp[Ag])).alloc (.cells #[.bool neg',.slice A' n' c'] 26)).ext hx1;have eb:=(Bj.new (w.alloc (.cells #[.bool neg,.slice A n c] 26)) 26 #[.bool neg',.slice A' n' c'] (by simp[Ag])).ext hx1;rw[World.size_alloc]at eb;obtain⟨cea0,cea1⟩:=ea.cells2;have fea:=ea.frozen;obtain⟨ceb0,ceb1⟩:=eb.cells2;have feb:=eb.frozen
  go_wp2_with fail
  refine Ae 8 [18,19,20,21,22,23,24,25] [[],[],[1],[1,2],[],[4],[1,2,3,4,5],[1,2,3,4,5,6],[0,1,2,3,4,5,6,7],[0,1,2,3,4,5,6,7,8]] [5,2,3] [_,_,_] [(kv ?_),(kv ?_),(kv ?_),(fun γ=>γ 3),(kv ?_),(kv ?_),(fun γ=>γ 6),(kv (.int .i64 (cmp N M)))] (fun γ w'=>[True,True,True,BA w' (γ 3) N,True,True,BA w' (γ 6) M,True]) Bn Aj Aj Bo Aj Bl Br ?hstep2 ?_
  case hstep2 =>
   iterate 8 refine⟨?_,?_⟩
   trivial
   iterate 3 focus
    intro γ w' he hf;clear hf;refine⟨by trivial,?_⟩;intro R hR;have hc:=he.cells;have cq0:=he.cell cea0;have cq1:=he.cell cea1;have cq2:=he.cell ceb0;have cq3:=he.cell ceb1;go_simp;refine hR _ _ (Ext.refl _) ?_ trivial;rfl
   ·intro γ w' he hf;clear hf;refine⟨trivial,?_⟩;intro R hR
    go_simp;exact Bd (BN _ N n w' (HN.out.ext (hx1.a2.trans he))) hR
   iterate 2 focus
    intro γ w' he hf;clear hf;refine⟨by trivial,?_⟩;intro R hR;have hc:=he.cells;have cq0:=he.cell cea0;have cq1:=he.cell cea1;have cq2:=he.cell ceb0;have cq3:=he.cell ceb1;go_simp;refine hR _ _ (Ext.refl _) ?_ trivial;rfl
   ·intro γ w' he hf;clear hf;refine⟨trivial,?_⟩;intro R hR
    go_simp;exact Bd (BN _ M n' w' (HM.out.ext (hx1.a2.trans he))) hR
   ·intro γ w' he hf;have f3:BA w' (γ 3) N:=hf 3 Ab;have f6:BA w' (γ 6) M:=hf 6 Ab;clear hf;refine⟨trivial,?_⟩;intro R hR
    go_simp;exact NJ (Lx _ _ N M w' f3 f6 (Nat.le_trans HN.out.sz Aa) (Nat.le_trans HM.out.sz Aa)) hR
  intro γ w2 hx2 hF;have p3:BA w2 (γ 3) N:=AA.get hF 3 Ab;have p6:BA w2 (γ 6) M:=AA.get hF 6 Ab;clear hF;simp only[Bf,Nat.reduceAdd];generalize γ 3=g3 at *;generalize γ 6=g6 at *;clear γ;have:=Hs.out;rw[Hx.out.1,Hx.out.2]at this;go_wp2
  go_ret
  have hr:=JO (x - y);have hw:wrap64 (x.sign*cmp N M)=(x - y).sign:=by
   rw[show x.sign*cmp N M=(x - y).sign from this];exact IntWalk.wrap64_in _ ⟨Aa,Aa⟩
  exact Ah.mk (by show Value.int .i64 (wrap64 (x.sign*cmp N M))=_;rw[hw]) (hx1.a2.trans hx2)
 ·have hb:(x.sign != y.sign)=true:=by simp[hs]
  have Hs:=Ad (Sw hs);clear hs
  go_wp2_with fail
  refine Calls.mono (QE _ _ Aa Aa) ?_;rintro e w' ⟨rfl,rfl⟩;go_wp2
  go_ret
  exact Ah.mk (by rw[Hs.out];rfl) hx1.a2
set_option maxRecDepth 100000 in
theorem V4(x:Int)(w:World)(h0:0≤x)(h1:x < 65536) :
  Calls Tryz.prog 194 #[.int .u64 x] w fun e w'=>e = .returned (.int .i64 (Lib.bitLen x.toNat))∧w'=w:=by
 have ts:=Tryz.underlying9;by_cases c2:x < 256
 ·have c3:x≤255:=by omega
  go_enter Tryz.func194,Tryz.ntmps194
  go_wp2
  go_ret
  refine⟨Ew ?_,rfl⟩;have e:=Ep x h0 c3;show wrap64 (wrap64 (Lib.len8 x))=_;rw[e];have:=Lib.bitLen_le8' x h0 c3;exact IntWalk.wrap64_in _ ⟨Aa,Aa⟩
 ·have c3:x / 256≤255:=by omega
  have c4:0≤x / 256:=by omega
  go_enter Tryz.func194,Tryz.ntmps194
  go_wp2
  go_ret
  refine⟨Ew ?_,rfl⟩;show wrap64 (8+wrap64 (Lib.len8 (x / 256)))=_;have l:=Lib.bitLen_le8' (x / 256) c4 c3;have s:=Lib.bitLen_shift8 x.toNat Aa Aa;rw[Ep _ c4 c3,IntWalk.wrap64_in _ ⟨Aa,Aa⟩,s,show(x / 256).toNat=x.toNat / 256 from by omega];omega
theorem VW(x:Nat)(w:World)(h:x < 65536) :
  Calls Tryz.prog 190 #[.int .u64 (x:Nat)] w fun e w'=>e = .returned (.int .i64 (Lib.bitLen x:Nat))∧w'=w:=by
 have hb:=Lib.bitLen_le x 16 Ab Aa
 go_enter Tryz.func190,Tryz.ntmps190
 go_wp2_with (go_at_call 194;refine(V4 _ _ Aa Aa).mono ?_;rintro e w' ⟨rfl,rfl⟩;rw[Int.toNat_natCast])
 go_ret
 exact⟨rfl,rfl⟩
end Go.Proofs.YtmhgnigpmompmaaGreat
namespace Go.Hp
open Go.RowKit
theorem LG.trim{base:Nat}{w:World}{A:Option Addr}{l:List Int}(h:LU base w A l){c:Nat}(hl:l.length≤c)(hc:c≤9223372036854775807:=by omega):LG base w (.slice A (BU (zq l)).length c) (Qs l):=by
 refine⟨A,c,by rw[Oq],by rw[Oq];have:=WI l;omega,hc,DK.take h _⟩
theorem Ie{l:List Int}{m:Nat}(hm:m≤l.length)(hz:∀ j,m≤j→(h:j < l.length)→l[j]=0)(hlast:∀ h:m - 1 < l.length,0 < m→l[m - 1]≠0):(BU (zq l)).length=m:=by
 have:=G5 (l:=zq l) (m:=m) (by rw[Ei];exact hm) (fun j h1 h2=>by rw[Ei]at h2;rw[ND h2,hz j h1 h2];rfl) (fun h h0=>by
  rw[Ei]at h;rw[ND h];intro e;exact hlast h h0 (by exact_mod_cast e))
 rw[this,List.length_take,Ei];omega
theorem Cv.isZP{base:Nat}{w:World}{g:Nat}{t:TypeId}{l:List Int}{F:Nat→Rat}(h:Cv w g t l)(hF:cz l=F)(hb:base≤g){c:Nat}(hc:l.length≤c)(hm:c≤9223372036854775807):AP base w (.slice (some ⟨g,0,none⟩) (BU (zq l)).length c) F:=
 AP.of_trim (LG.trim (h.row hb) hc hm) hF
theorem GQ(l:List Int):(BU (zq l)).length=pl (cz l):=by unfold cz;rw[←(Fv (zq l)).pl,Gw]
end Go.Hp
namespace Go.Proofs.YtmhgnigpmompmaaGreat
open Go.RowKit Go.Hp
/-- zpoly.trimmed: without the zeros at the end,in place. -/
theorem El(base:Nat)(A:Option Addr)(c:Nat)(l:List Int)(w:World)(hl:l.length≤c)(hc:c≤9223372036854775807)(hA:LU base w A l) :
  Calls Tryz.prog 119 #[.slice A l.length c] w fun e w'=>e = .returned (.slice A (BU (zq l)).length c)∧w=w':=by
 go_enter Tryz.func119,Tryz.ntmps119
 go_wp2
 go_loop [0] (fun v=>∃ m:Nat,m≤l.length∧v = .slice A m c∧∀ j,m≤j→(h:j < l.length)→l[j]=0) (fun v=>match v with | .slice _ m _=>m | _=>0)
 case atStart=>exact⟨l.length,Nat.le_refl _,rfl,fun j h1 h2=>Aa⟩
 case round =>
  obtain⟨m,hm,rfl,hz⟩:=hrel;by_cases h0:0 < m
  ·obtain⟨m,rfl⟩:∃ k,m=k+1:=⟨m - 1,Aa⟩
   obtain⟨g,o,b,A1,n,c1,rfl,hb,q0,q1,hq⟩:=hA.at_ (j:=m) Aa;have hn:=hq.two.1;by_cases hd0:l[m]'(Aa)=0
   ·have hb:(((n:Nat):Int)==0)=true:=by rw[hn,hd0];rfl
    clear hA hn;go_wp2
    go_round
    case rel=>exact⟨m,Aa,rfl,fun j h1 h2=>by
     rcases Nat.eq_or_lt_of_le h1 with e | e
     ·subst e;exact hd0
     ·exact hz j Aa h2⟩
    case measure=>simp
   ·have hb:(((n:Nat):Int)==0)=false:=by
     have:=DY (n:=l[m].natAbs) Aa;rw[←hn]at this;simp;omega
    clear hA hn;go_wp2
    go_ret
    have hlen:=Ie hm hz (fun h _=>by simpa using hd0);exact⟨by rw[hlen];rfl,rfl⟩
  ·obtain rfl:m=0:=by omega
   go_wp2
   go_ret
   have hlen:=Ie hm hz (fun h hh=>Aa);exact⟨by rw[hlen];rfl,rfl⟩
theorem GA:(Tryz.prog.info? 26).map (fun i=>(i.zero,i.size,i.bytes))=some (some (.agg #[.bool false,.slice none 0 0]),2,32):=by kernel_rfl
theorem Jc(n:Nat)(x:Int)(hx:x=n)(hn:n≤1099511627776)(w:World):∃ W,(Instr.makeSlice 23 (.int .i64 x) (.int .i64 x)).run Tryz.prog w = .ok (.slice (some ⟨w.heap.size,0,none⟩) n n) W∧Cv W w.heap.size 26 (List.replicate n 0)∧Ext w W:=by
 subst hx;obtain⟨i0,hi,hz0,hz1,hz2⟩:=info_parts GA;have h:=run_make (P:=Tryz.prog) w 23 26 i0 (.agg #[.bool false,.slice none 0 0]) Tryz.underlying23 hi hz0 .i64 .i64 (n:Int) (n:Int) Aa Aa (by rw[hz2];omega) Aa;rw[h,hz1,Int.toNat_natCast];exact⟨_,rfl,Cv.new w _ n,(Ext.refl w).alloc _⟩
theorem WS{la m:List Int}{k n:Nat}(h:la=m.take k ++ List.replicate (n - k) 0)(hk:k < n)(hm:m.length=n){q:Int}(hq:q=m[k]'(by omega)):la.set k q=m.take (k+1) ++ List.replicate (n - (k+1)) 0:=by
 subst h;have h1:(m.take k).length=k:=by simp;omega
 rw[List.set_append,if_neg (by rw[h1];omega),h1,Nat.sub_self,show n - k=(n - (k+1))+1 from Aa,List.replicate_succ,List.set_cons_zero,List.take_succ_eq_append_getElem Aa,hq,List.append_assoc];rfl
theorem F7(v:Value)(l:List Int)(w:World)(hv:Dt 0 w v l)(hn:l.length≤1099511627776):Bh 84 #[v] w (fun r w'=>r = .slice (some ⟨w.heap.size,0,none⟩) (BU (zq l)).length l.length∧Cv w' w.heap.size 26 l):=by
 obtain⟨A,c,rfl,hl,hc,hA⟩:=hv;obtain⟨W0,hmk,ea,hx⟩:=Jc l.length (l.length:Int) rfl hn w;have HA:Hid (GI 0 w A l):=Ad hA;clear hA
 go_enter Tryz.func84,Tryz.ntmps84
 go_wp2
 go_loopw [11] (fun iv wr=>∃ (k:Nat) (la:List Int),k≤l.length∧iv = .int .i64 k∧Cv wr w.heap.size 26 la∧la.length=l.length∧la=l.take k ++ List.replicate (l.length - k) 0∧Ext w wr) (fun iv _=>l.length - (intOf iv).toNat)
 case atStart=>exact⟨0,_,Nat.zero_le _,rfl,ea,Ac,Ac,hx⟩
 case round =>
  obtain⟨k,la,hk,rfl,ea,hlen,hla,hx⟩:=hrel;have Hla:=Ad hla;clear hla;have Hlen:=Ad hlen;clear hlen;by_cases hkl:k < l.length
  ·obtain⟨g,o,b,A1,n,c1,rfl,_,q0,q1,hq⟩:=HA.out.at_ (j:=k) hkl
   replace q0:=hx.cell q0;replace q1:=hx.cell q1;have Hq:=Ad hq;clear hq
   go_wp2_with fail
   refine AL (IM _ _ _ (Hq.out.kd (hx.alloc _).kd)) ?_;rintro r w2 hr hx2;replace ea:=ea.ext hx2.a1;replace hx:=hx.trans hx2.a1;clear hx2 q0 q1;obtain⟨b5,A5,n5,c5,rfl⟩:=hr.cells;have hkla:k < la.length:=by have:=Hlen.out;omega
   obtain⟨_,_,_,_,ca0,ca1,-⟩:=ea.at_ (j:=k) (by first | omega | (simp;omega));have fa0:=ea.frozen (k*2);have fa1:=ea.frozen (k*2+1);go_wp2;obtain⟨W3,eW,ea',U⟩:=ea.put (k:=k) (by first | omega | (simp;omega)) hr;rw[←eW];clear eW ea;replace hx:=U.from_ hx Ai;have ea:=ea';clear U ea'
   go_roundw
   case rel=>exact⟨k+1,_,Aa,by go_num,ea,by simpa using Hlen.out,WS Hla.out hkl rfl rfl,hx⟩
   case measure=>simp[intOf];omega
  ·obtain rfl:k=l.length:=by omega
   replace ea:Cv wr w.heap.size 26 l:=by
    have:=Hla.out;rw[Nat.sub_self,List.replicate_zero,List.append_nil,List.take_of_length_le (Nat.le_refl _)]at this;rw[←this];exact ea
   have hrow:=ea.row (Nat.le_refl _)
   go_wp2_with fail
   refine Calls.mono (El w.heap.size _ _ l _ (Nat.le_refl _) Aa hrow) ?_;rintro e w2 ⟨rfl,rfl⟩;go_wp2
   go_ret
   exact Ah.mk ⟨rfl,ea⟩ hx
theorem L6(v:Value)(l:List Int)(w:World)(hv:Dt 0 w v l)(hn:l.length≤1099511627776):Bh 84 #[v] w (fun r w'=>AP w.heap.size w' r (cz l)):=
 Ah.imp (F7 v l w hv hn) fun _ _ ⟨e,h⟩=>by subst e;exact h.isZP rfl (Nat.le_refl _) (Nat.le_refl _) Aa
theorem aK(v u:Value)(x y:Int)(w:World)(hv:Bu w v x)(hu:Bu w u y):Bh 137 #[v,u] w (fun r w'=>AO w' r (x - y)):=by
 have Hv:=Ad hv;obtain⟨neg,A,n,c,N,rfl,h1,h2,h3,hN,hx⟩:=hv.form;obtain⟨neg',A',n',c',M,rfl,k1,k2,k3,kN,hy⟩:=hu.form;have HN:=Ad kN;clear hN hv hu kN hx;have hs:sz M≤n':=HN.out.sz;have Hy:=Ad (show x+(if (!neg')=true then -(M:Int)else M)=x - y by rw[hy];cases neg'<;>simp<;>omega);clear hy
 go_enter Tryz.func137,Tryz.ntmps137
 go_wp2_with fail
 refine Ae 7 [5,6,7,8,9,10,11] [[],[],[1],[1,2],[],[4],[4,5],[0,1,2,3,4,5,6],[0,1,2,3,4,5,6,7]] [2,3] [_,_] [(kv ?_),(kv ?_),(kv ?_),(kv ?_),(kv ?_),(kv ?_),(fun γ=>γ 6)] (fun γ w'=>[True,True,True,True,True,True,BA w' (γ 6) M]) Bn Aj Aj Bo Aj Bl Br ?hstep1 ?_
 case hstep1 =>
  iterate 7 refine⟨?_,?_⟩
  trivial
  iterate 6 focus
   intro γ w' he hf;clear hf;refine⟨by trivial,?_⟩;intro R hR;have hc:=he.cells;go_simp;(try go_ints);(try(rw[if_neg Aa]));(try(rw[if_pos Aa]));(try go_simp);(try go_ints)
   refine hR _ _ (Ext.refl _) ?_ trivial;rfl
  ·intro γ w' he hf;clear hf;refine⟨trivial,?_⟩;intro R hR
   go_simp;exact Bd (BN _ M n' w' (HN.out.ext he.a3)) hR
 intro γ w1 hx1 hF;have p6:BA w1 (γ 6) M:=AA.get hF 6 Ab;clear hF;simp only[Bf,Nat.reduceAdd];generalize γ 6=g6 at *;clear γ
 go_wp2_with fail
 refine AL (Yw _ _ (!neg') x M w1 (Hv.out.ext hx1.a3) p6 Aa) ?_;rintro r w2 hr hx2;rw[Hy.out]at hr;obtain⟨b,A2,n2,c2,rfl⟩:=hr.cells;replace hx1:=hx1.trans hx2;have hc1:=hx1.cells;have hf1:=hx1.frozens;have Hfin:=Ad (Ci hr hx1.a3 (AX.at_ hx1 (g:=w.heap.size+2) Ac (by simp[Ag])) Aa);clear hr p6;go_wp2;refine bodyPost_ret (v := .agg #[.bool b,.slice A2 n2 c2]) (by simp[results,Tryz.results137,go_sem,hc1]) rfl ?_
 exact Hfin.out
end Go.Proofs.YtmhgnigpmompmaaGreat
namespace Go.Hp
theorem Bu.zero(w:World):Bu w (.agg #[.bool false,.slice none 0 0]) 0:=(KN w).has Ab
end Go.Hp
namespace Go.Proofs.YtmhgnigpmompmaaGreat
open Go.RowKit Go.Hp
theorem XF(v u:Value)(x a:Int)(gb:Nat)(b:Bool)(A:Option Addr)(n c:Nat)(w:World)(hv:Bu w v x)(hu:Bu w u 0)(h0:w.cell? ⟨gb,0,none⟩=some (.bool b))(h1:w.cell? ⟨gb,1,none⟩=some (.slice A n c))(ha:Bu w (.agg #[.bool b,.slice A n c]) a) :
  Bh 146 #[v,u,.pointer (some ⟨gb,0,none⟩)] w (fun r w'=>AO w' r (x*a)):=by
 have HV:=Ad hv;have HA:=Ad ha;obtain⟨b1,A1,n1,c1,rfl⟩:=hv.cells;obtain⟨b2,A2,n2,c2,rfl⟩:=hu.cells;clear hv hu ha;have k0:=fun o o' o''=>((((Ext.refl w).alloc o).alloc o').alloc o'').cell h0;have k1:=fun o o' o''=>((((Ext.refl w).alloc o).alloc o').alloc o'').cell h1;clear h0 h1
 go_enter Tryz.func146,Tryz.ntmps146
 go_wp2_with fail
 refine AL (DF _ _ x a _ (HV.out.ext ((((Ext.refl w).alloc _).alloc _).alloc _)) (HA.out.ext ((((Ext.refl w).alloc _).alloc _).alloc _))) ?_;rintro r w1 hr hx1;obtain⟨b5,A5,n5,c5,rfl⟩:=hr.cells;have hc1:=hx1.cells;have hf1:=hx1.frozens;have Hfin:=Ad (Ci hr hx1.a3 (AX.at_ hx1 (g:=w.heap.size+2) Ac (by simp[Ag])) Aa);clear hr;go_wp2;refine bodyPost_ret (v := .agg #[.bool b5,.slice A5 n5 c5]) (by simp[results,Tryz.results146,go_sem,hc1]) rfl ?_
 exact Hfin.out
set_option maxRecDepth 20000 in
theorem Pk(v:Value)(l:List Int)(a:Int)(gb:Nat)(bb0:Bool)(B0:Option Addr)(m0 d0:Nat)(w:World)(hv:Dt 0 w v l)(k0:w.cell? ⟨gb,0,none⟩=some (.bool bb0))(k1:w.cell? ⟨gb,1,none⟩=some (.slice B0 m0 d0))(ha:Bu w (.agg #[.bool bb0,.slice B0 m0 d0]) a)(hn:l.length≤1099511627776) :
  Bh 145 #[v,.slice none 0 0,.func (.func 146) #[] #[.pointer (some ⟨gb,0,none⟩)]] w (fun r w'=>AP w.heap.size w' r (psc (a:Rat) (cz l))):=by
 obtain⟨A,c,rfl,hl,hc,hA⟩:=hv;obtain⟨N,hN⟩:∃ N,N=l.length:=⟨_,rfl⟩
 obtain⟨W0,hmk,ea,hx⟩:=Jc N (l.length:Int) Aa Aa w;have hlN:l.length≤N:=by omega
 have hN40:N≤1099511627776:=by omega
 have HN:=Ad hN;clear hN;have HA:Hid (GI 0 w A l):=Ad hA;clear hA;have HC:=Ad (Ak k0 (Ak k1 ha));clear k0 k1 ha;obtain⟨F,hF⟩:∃ F:Nat→Rat,F=psc (a:Rat) (cz l):=⟨_,rfl⟩
 rw[←hF];have HZ:=Ad (show ZI F∧BB N F from⟨by rw[hF];exact(ZI.cz l).psc a,by rw[hF];exact((BK l).mono hlN).psc _⟩);have HF:=Ad hF;clear hF;have HL:=Ad (AY N F)
 go_enter Tryz.func145,Tryz.ntmps145
 go_wp2
 go_loopw [19] (fun iv wr=>∃ (k:Nat) (la:List Int),k≤N∧iv = .int .i64 k∧Cv wr w.heap.size 26 la∧la.length=N∧la=(Dq N F).take k ++ List.replicate (N - k) 0∧Ext w wr) (fun iv _=>N - (intOf iv).toNat)
 case atStart=>exact⟨0,_,Nat.zero_le _,rfl,ea,Ac,Ac,hx⟩
 case round =>
  obtain⟨k,la,hk,rfl,ea,hlen,hla,hx⟩:=hrel;have Hla:=Ad hla;clear hla;have Hlen:=Ad hlen;clear hlen;have hbk:k < N∨k=N:=by omega
  rcases hbk with hkl | hkl
  ·have hk1:k < l.length:=by have:=HN.out;omega
   have hk2:¬ (k:Int) < 0:=by omega
   obtain⟨g,o,b,A1,n,c1,rfl,_,q0,q1,hq⟩:=HA.out.at_ (j:=k) hk1;replace q0:=fun o o'=>(((Ext.refl wr).alloc o).alloc o').cell (hx.cell q0);replace q1:=fun o o'=>(((Ext.refl wr).alloc o).alloc o').cell (hx.cell q1);have Hq:=Ad hq;clear hq
   go_wp2_with fail
   refine AL (XF _ _ l[k] a gb bb0 B0 m0 d0 _ (Hq.out.ext ((hx.alloc _).alloc _)) (Bu.zero _) (((hx.alloc _).alloc _).cell HC.out.1) (((hx.alloc _).alloc _).cell HC.out.2.1) (HC.out.2.2.ext ((hx.alloc _).alloc _))) ?_;rintro r w2 hr hx2;replace ea:=ea.ext hx2.a2;replace hx:=hx.trans hx2.a2;clear hx2;obtain⟨b5,A5,n5,c5,rfl⟩:=hr.cells;have hkla:k < la.length:=by have:=Hlen.out;omega
   obtain⟨_,_,_,_,ca0,ca1,-⟩:=ea.at_ (j:=k) (by first | omega | (simp;omega));have fa0:=ea.frozen (k*2);have fa1:=ea.frozen (k*2+1);go_wp2;obtain⟨W3,eW,ea',U⟩:=ea.put (k:=k) (by first | omega | (simp;omega)) hr;rw[←eW];clear eW ea;replace hx:=U.from_ hx Ai;have ea:=ea';clear U ea'
   go_roundw
   case rel=>exact⟨k+1,_,Aa,by go_num,ea,by simpa using Hlen.out,WS Hla.out hkl HL.out (by rw[Cf,HF.out];show _=((a:Rat)*cz l k).num;rw[Ch hk1,num_mul,Int.mul_comm]),hx⟩
   case measure=>simp[intOf];omega
  ·obtain rfl:N=k:=hkl.symm
   replace ea:Cv wr w.heap.size 26 (Dq N F):=by
    have:=Hla.out;rw[Nat.sub_self,List.replicate_zero,List.append_nil,List.take_of_length_le (by rw[HL.out];omega)]at this;rw[←this];exact ea
   have hrow:=ea.row (Nat.le_refl _);have hT:=El w.heap.size (some ⟨w.heap.size,0,none⟩) N (Dq N F) wr (by rw[HL.out];omega) Aa hrow;rw[HL.out]at hT;have Hrow:=Ad hrow;clear hrow
   go_wp2_with fail
   refine Calls.mono hT ?_;rintro e w2 ⟨rfl,rfl⟩;go_wp2
   go_ret
   exact Ah.mk (AP.of_trim (LG.trim Hrow.out (by rw[HL.out];omega)) (EC HZ.out.1 HZ.out.2)) hx
theorem QA(v u:Value)(l:List Int)(a:Int)(w:World)(hv:Dt 0 w v l)(hu:Bu w u a)(hn:l.length≤1099511627776) :
  Bh 96 #[v,u] w (fun r w'=>AP w.heap.size w' r (psc (a:Rat) (cz l))):=by
 have HV:=Ad hv;have HU:=Ad hu;obtain⟨A,c,rfl⟩:=hv.len;obtain⟨b1,A1,n1,c1,rfl⟩:=hu.cells;clear hv hu;have hb:=Bj.new w 26 #[.bool b1,.slice A1 n1 c1] (by simp[Ag]);have HB:=Ad hb.cells2;clear hb
 go_enter Tryz.func96,Tryz.ntmps96
 go_wp2_with fail
 refine AL (Pk _ l a w.heap.size b1 A1 n1 c1 _ (HV.out.ext ((Ext.refl w).alloc _)) HB.out.1 HB.out.2 (HU.out.ext ((Ext.refl w).alloc _)) hn) ?_;rintro r w1 hr hx1;go_wp2
 go_ret
 exact Ah.mk (hr.base_le Ac) hx1.a1
end Go.Proofs.YtmhgnigpmompmaaGreat
namespace Go.Hp
def dl:Nat→(Nat→Rat)→Nat
 | 0,_=>1
 | n+1,F=>Nat.lcm (dl n F) (F n).den
theorem Pq(n:Nat)(F:Nat→Rat):dl (n+1) F=Nat.lcm (dl n F) (F n).den:=rfl
theorem KZ(F:Nat→Rat):∀ n,0 < dl n F
 | 0=>by show 0 < 1;omega
 | n+1=>Nat.lcm_pos (KZ F n) (F n).den_pos
theorem PM(F:Nat→Rat):∀ n i,i < n→(F i).den∣dl n F
 | n+1,i,h=>by
  rw[Pq];rcases Nat.lt_or_ge i n with l | l
  ·exact Nat.dvd_trans (PM F n i l) (Nat.dvd_lcm_left _ _)
  ·obtain rfl:i=n:=by omega
   exact Nat.dvd_lcm_right _ _
theorem YF(n:Nat)(F:Nat→Rat):dl n F*((F n).den / Nat.gcd (dl n F) (F n).den)=dl (n+1) F:=by
 rw[Pq,Nat.lcm,Nat.mul_div_assoc _ (Nat.gcd_dvd_right _ _)]
theorem Xd(n:Nat)(F:Nat→Rat):dl n F*(F n).den / Nat.gcd (dl n F) (F n).den=dl (n+1) F:=rfl
theorem UD{F:Nat→Rat}{s:Nat}(h:∀ i,qsz (F i)≤s):∀ n,sz (dl n F)≤1+n*s
 | 0=>by show sz 1≤_;have:sz 1=1:=Ab;omega
 | n+1=>by
  have h1:=UD h n;have h2:=h n;have h3:sz (dl (n+1) F)≤sz (dl n F*(F n).den):=Bp (by rw[Pq];exact Nat.div_le_self _ _);have h4:=Cc (dl n F) (F n).den;unfold qsz at h2;rw[Nat.succ_mul];omega
def CO(n:Nat)(F:Nat→Rat):Nat→Rat:=psc ((dl n F:Nat):Rat) F
theorem Yt{n:Nat}{F:Nat→Rat}(h:BB n F)(i:Nat):CO n F i=(((F i).num*((dl n F:Int) / ((F i).den:Int)):Int):Rat):=by
 rcases Nat.lt_or_ge i n with hi | hi
 ·obtain⟨k,hk⟩:=PM F n i hi
  have hd:((F i).den:Int)≠0:=by have:=(F i).den_pos;omega
  have e:(dl n F:Int) / ((F i).den:Int)=k:=by rw[hk,Int.natCast_mul,Int.mul_ediv_cancel_left _ hd]
  rw[e];show((dl n F:Nat):Rat)*F i=_;rw[hk];have h1:F i=((F i).num:Rat) / ((F i).den:Rat):=K6 _;have hd':((F i).den:Rat)≠0:=Ju (F i).den_pos;have h2:(((F i).num*(k:Int):Int):Rat)=((F i).num:Rat)*(k:Rat):=by rw[Rat.intCast_mul];rfl
  have h3:(((F i).den*k:Nat):Rat)=((F i).den:Rat)*(k:Rat):=by rw[Rat.natCast_mul]
  rw[h2,h3];generalize ((F i).num:Rat)=a at *;generalize ((F i).den:Rat)=d at *;rw[h1];grind
 ·show((dl n F:Nat):Rat)*F i=_
  rw[h i hi];simp
theorem Eh{n:Nat}{F:Nat→Rat}(h:BB n F):ZI (CO n F):=fun i=>⟨_,Yt h i⟩
theorem U0{n:Nat}{F:Nat→Rat}(h:BB n F)(i:Nat):(CO n F i).num=(F i).num*((dl n F:Int) / ((F i).den:Int)):=by rw[Yt h];rfl
theorem Dr{n:Nat}{F:Nat→Rat}(h:Af F):Af (CO n F):=h.psc _
theorem Uh(n:Nat)(F:Nat→Rat):((dl n F:Nat):Rat)≠0:=Ju (KZ F n)
theorem Lt{n:Nat}{F:Nat→Rat}(h:Af F):pl (CO n F)=pl F:=DX (Uh n F) h
theorem Nf{n:Nat}{F:Nat→Rat}(h:Af F)(h0:F≠pz):CO n F≠pz:=fun e=>h0 ((BG h).1 (by rw[←Lt (n:=n) h,e,Ca]))
theorem KP{n:Nat}{F:Nat→Rat}{s:Nat}(h:∀ i,qsz (F i)≤s)(i:Nat):qsz (CO n F i)≤1+n*s+1+s:=by
 have h1:=UD h n;have h2:=h i;have h3:=BR ((dl n F:Nat):Rat) (F i);have h4:qsz ((dl n F:Nat):Rat)≤1+n*s+1:=by
  change qsz (((dl n F:Nat):Int):Rat)≤_
  rw[Bi,Int.natAbs_natCast];omega
 show qsz (((dl n F:Nat):Rat)*F i)≤_;omega
noncomputable def KL(n:Nat)(F:Nat→Rat):Rat:=ld F / ld (pp (CO n F))
theorem K7{a:Rat}(ha:a≠0){F:Nat→Rat}(h:Af F):ld (psc a F)=a*ld F:=by unfold ld;rw[DX ha h];rfl
theorem aQ{F:Nat→Rat}(hz:ZI F)(h:Af F)(h0:F≠pz):ld (pp F)=ld F / (pcn F:Rat):=by
 have hp':(pcn F:Rat)≠0:=fun e=>EI hz h h0 (by exact_mod_cast e);unfold pp;rw[K7 (Mv hp') h];grind
theorem Tm{n:Nat}{F:Nat→Rat}(hs:BB n F)(h0:F≠pz):KL n F=(pcn (CO n F):Rat) / ((dl n F:Nat):Rat)∧psc (KL n F) (pp (CO n F))=F:=by
 have h:Af F:=⟨n,hs⟩
 have hz:=Eh hs;have hf:=Dr (n:=n) h;have hne:=Nf (n:=n) h h0;have hp':(pcn (CO n F):Rat)≠0:=fun e=>EI hz hf hne (by exact_mod_cast e);have hl:=D8 h h0;have hd:=Uh n F;have e1:ld (CO n F)=((dl n F:Nat):Rat)*ld F:=K7 hd h;have e2:KL n F=(pcn (CO n F):Rat) / ((dl n F:Nat):Rat):=by
  unfold KL;rw[aQ hz hf hne,e1];grind
 refine⟨e2,?_⟩;rw[e2];unfold pp CO;rw[Cu,Cu];have e3:(pcn (psc ((dl n F:Nat):Rat) F):Rat) / ((dl n F:Nat):Rat)*(1 / (pcn (psc ((dl n F:Nat):Rat) F):Rat))*((dl n F:Nat):Rat)=1:=by
  change (pcn (psc ((dl n F:Nat):Rat) F):Rat)≠0 at hp'
  grind
 rw[e3,Cn]
theorem Ri{F:Nat→Rat}(hz:ZI F)(h:Af F)(h0:F≠pz):cn (pp F)=1:=by
 have hpf:=DI h;have hp:=EI hz h h0;have hc:=IW hz h h0;have key:(pcn F*(cn (pp F):Int))∣(cn F:Int):=WQ fun i=>by
  obtain⟨k,hk⟩:=J2 hpf i;obtain⟨j,hj⟩:=Ji h i;have e:=OB hz h h0 i;rw[hj,Int.mul_ediv_cancel_left _ hp]at e;have e2:(pp F i).num=j:=by rw[e];rfl
  rw[hj,←e2,hk];exact⟨k,by rw[Int.mul_assoc]⟩
 have h1:=Int.natAbs_dvd_natAbs.2 key;rw[Int.natAbs_mul,Fj]at h1;have h2:cn F*cn (pp F)∣cn F*1:=by simpa using h1
 exact Nat.eq_one_of_dvd_one (Nat.dvd_of_mul_dvd_mul_left (Nat.pos_of_ne_zero hc) h2)
theorem Ma{F:Nat→Rat}(hz:ZI F)(h:Af F)(h0:F≠pz):0 < ld (pp F):=by
 rw[aQ hz h h0];have hl:=D8 h h0;have hc:=IW hz h h0;have hc':(0:Rat) < (cn F:Rat):=by exact_mod_cast Nat.pos_of_ne_zero hc
 by_cases hn:ld F < 0
 ·have e:pcn F = -(cn F:Int):=by unfold pcn;rw[if_pos hn]
  rw[e];have e2:((-(cn F:Int):Int):Rat) = -(cn F:Rat):=by rw[Rat.intCast_neg];rfl
  rw[e2];have:ld F / -(cn F:Rat)=(-ld F) / (cn F:Rat):=by grind
  rw[this,Rat.div_def];exact Rat.mul_pos Au (Rat.inv_pos.2 hc')
 ·have e:pcn F=(cn F:Int):=by unfold pcn;rw[if_neg hn]
  rw[e];have e2:(((cn F:Nat):Int):Rat)=(cn F:Rat):=rfl;rw[e2,Rat.div_def];exact Rat.mul_pos Au (Rat.inv_pos.2 hc')
theorem XZ{F:Nat→Rat}(hz:ZI F)(h:Af F):pp (pp F)=pp F:=by
 by_cases h0:F=pz
 ·rw[h0,GH,GH]
 ·have h1:pcn (pp F)=1:=by
   unfold pcn;rw[if_neg (by have:=Ma hz h h0;grind),Ri hz h h0];rfl
  show psc (1 / ((pcn (pp F):Int):Rat)) (pp F)=pp F;rw[h1];have:1 / ((1:Int):Rat)=1:=by decide +kernel
  rw[this,Cn]
theorem Ms{P:Nat→Prop}(h:∃ i,P i):∃ i,P i∧∀ j,j < i→¬ P j:=Oo h
def jE(p:Nat):Prop:=1 < p∧∀ k,k∣p→k=1∨k=p
theorem cZ{d:Nat}(h:1 < d):∃ p,jE p∧p∣d:=by
 obtain⟨p,⟨h1,h2⟩,h3⟩:=Ms (P:=fun p=>1 < p∧p∣d) ⟨d,h,Nat.dvd_refl d⟩;refine⟨p,⟨h1,fun k hk=>?_⟩,h2⟩;have hkp:=Nat.le_of_dvd Aa hk;have hk0:k≠0:=fun e=>by subst e;have:=Nat.eq_zero_of_zero_dvd hk;omega
 by_cases e:k=p
 ·exact .inr e
 ·exact .inl (by
   by_cases e1:1 < k
   ·exact absurd ⟨e1,Nat.dvd_trans hk h2⟩ (h3 k Aa)
   ·omega)
theorem jE.mul{p:Nat}(h:jE p){a b:Int}(k:(p:Int)∣a*b):(p:Int)∣a∨(p:Int)∣b:=by
 rw[Int.ofNat_dvd_left,Int.natAbs_mul]at k;rw[Int.ofNat_dvd_left,Int.ofNat_dvd_left];rcases h.2 _ (Nat.gcd_dvd_left p a.natAbs)with e | e
 ·exact .inr (Nat.Coprime.dvd_of_dvd_mul_left e k)
 ·exact .inl (by rw[←e];exact Nat.gcd_dvd_right _ _)
def Dz(p:Nat)(x:Rat):Prop:=∃ z:Int,x=(p:Rat)*(z:Rat)
theorem Dz.add{p:Nat}{x y:Rat}(h:Dz p x)(k:Dz p y):Dz p (x+y):=by
 obtain⟨a,rfl⟩:=h;obtain⟨b,rfl⟩:=k;exact⟨a+b,by rw[Rat.intCast_add];grind⟩
theorem Dz.sub{p:Nat}{x y:Rat}(h:Dz p x)(k:Dz p y):Dz p (x - y):=by
 obtain⟨a,rfl⟩:=h;obtain⟨b,rfl⟩:=k;exact⟨a - b,by rw[Rat.intCast_sub];grind⟩
theorem Dz.zero(p:Nat):Dz p 0:=⟨0,Ac⟩
theorem Dz.mul{p:Nat}{x:Rat}(h:Dz p x)(y:Int):Dz p (x*(y:Rat)):=by
 obtain⟨a,rfl⟩:=h;exact⟨a*y,by rw[Rat.intCast_mul];grind⟩
theorem PQ{p:Nat}{n:Int}:Dz p (n:Rat)↔(p:Int)∣n:=by
 constructor
 ·rintro⟨z,h⟩
  refine⟨z,?_⟩;rw[show((p:Nat):Rat)=(((p:Nat):Int):Rat)from rfl,←Rat.intCast_mul]at h;exact Ia h
 ·rintro⟨z,rfl⟩
  exact⟨z,by rw[Rat.intCast_mul];rfl⟩
theorem gB{p n i:Nat}{f:Nat→Rat}(hi:i < n)(h:∀ k,k < n→k≠i→Dz p (f k)):Dz p (sm n f - f i):=by
 induction n with
 | zero=>omega
 | succ n ih =>
  rw[BF];by_cases e:i=n
  ·subst e
   rw[show sm i f+f i - f i=sm i f from by grind];clear ih hi;have:∀ m,m≤i→Dz p (sm m f):=fun m=>by
    induction m with
    | zero=>intro _;exact Dz.zero p
    | succ m ih=>intro hm;rw[BF];exact(ih Aa).add (h m Aa Aa)
   exact this i (Nat.le_refl _)
  ·have h1:=ih Aa fun k hk=>h k Aa
   rw[show sm n f+f n - f i=(sm n f - f i)+f n from by grind];exact h1.add (h n Aa fun q=>e q.symm)
theorem ZI.cv{F G:Nat→Rat}(h:ZI F)(k:ZI G):ZI (cv F G):=fun i=>by
 rw[R7];have:∀ n (f:Nat→Rat),(∀ j,∃ z:Int,f j=(z:Rat))→∃ z:Int,sm n f=(z:Rat):=fun n f hf=>by
  induction n with
  | zero=>exact⟨0,rfl⟩
  | succ n ih =>
   obtain⟨a,ha⟩:=ih;obtain⟨b,hb⟩:=hf n;exact⟨a+b,by rw[BF,ha,hb,Rat.intCast_add]⟩
 refine this _ _ fun j=>?_;obtain⟨a,ha⟩:=h j;obtain⟨b,hb⟩:=k (i - j);exact⟨a*b,by rw[ha,hb,Rat.intCast_mul]⟩
theorem NB{F:Nat→Rat}(h:Af F){d:Nat}:d∣cn F↔∀ i,(d:Int)∣(F i).num:=
 ⟨fun k i=>Int.dvd_trans (Int.natCast_dvd_natCast.2 k) (J2 h i),fun k=>Int.natCast_dvd_natCast.1 (WQ k)⟩
theorem fM{F G:Nat→Rat}(zF:ZI F)(zG:ZI G)(fF:Af F)(fG:Af G)(hF:cn F=1)(hG:cn G=1):cn (cv F G)=1:=by
 have nF:F≠pz:=fun e=>by rw[e,Nk]at hF;omega
 have nG:G≠pz:=fun e=>by rw[e,Nk]at hG;omega
 have h0:cn (cv F G)≠0:=IW (zF.cv zG) (fF.cv fG) fun e=>by
  have:=GK fF fG nF nG;have a:=Be fF nF;have b:=Be fG nG;rw[e,Ca]at this;omega
 by_cases h1:cn (cv F G)=1
 ·exact h1
 ·obtain⟨p,hp,hd⟩:=cZ (d:=cn (cv F G)) Aa
  have hall:=(NB (fF.cv fG)).1 hd;have ex:∀ {H:Nat→Rat},Af H→cn H=1→∃ i,¬ (p:Int)∣(H i).num:=fun {H} fH hH=>by
   by_cases k:∃ i,¬ (p:Int)∣(H i).num
   ·exact k
   ·have:=(NB fH (d:=p)).2 fun i=>by
     by_cases q:(p:Int)∣(H i).num
     ·exact q
     ·exact absurd ⟨i,q⟩ k
    rw[hH]at this;have:=Nat.le_of_dvd Aa this;have:=hp.1;omega
  obtain⟨i,hi,hi'⟩:=Ms (ex fF hF);obtain⟨j,hj,hj'⟩:=Ms (ex fG hG);have hs:=gB (p:=p) (n:=i+j+1) (i:=i) (f:=fun k=>F k*G (i+j - k)) Aa fun k hk hne=>by
   rcases Nat.lt_or_ge k i with a | a
   ·have:Dz p (F k):=by
     rw[zF.num k];refine PQ.2 ?_;by_cases q:(p:Int)∣(F k).num
     ·exact q
     ·exact absurd q (hi' k a)
    show Dz p (F k*G (i+j - k));rw[zG.num (i+j - k)];exact this.mul _
   ·have:Dz p (G (i+j - k)):=by
     rw[zG.num];refine PQ.2 ?_;by_cases q:(p:Int)∣(G (i+j - k)).num
     ·exact q
     ·exact absurd q (hj' _ Aa)
    show Dz p (F k*G (i+j - k));rw[Rat.mul_comm,zF.num k];exact this.mul _
  rw[←R7]at hs;simp only[show i+j - i=j from by omega]at hs;have ht:Dz p (cv F G (i+j)):=by rw[(zF.cv zG).num];exact PQ.2 (hall _)
  have hu:=ht.sub hs;rw[show cv F G (i+j) - (cv F G (i+j) - F i*G j)=F i*G j from Au,zF.num i,zG.num j,←Rat.intCast_mul]at hu;rcases hp.mul (PQ.1 hu)with q | q
  ·exact absurd q hi
  ·exact absurd q hj
theorem Yc(a:Int){F:Nat→Rat}(z:ZI F):∀ n,ct n (psc (a:Rat) F)=a.natAbs*ct n F
 | 0=>by show 0=_*0;omega
 | n+1=>by
  rw[Gd,Gd,Yc a z n];have:(psc (a:Rat) F n).num=a*(F n).num:=by show((a:Rat)*F n).num=_;rw[z.num n,num_mul];rfl
  rw[this];show Nat.gcd _ _=_*Nat.gcd _ _;rw[Int.natAbs_mul,Int.natAbs_natCast,Int.natAbs_natCast,Nat.gcd_mul_left]
theorem Ii{a:Int}(h:a≠0){F:Nat→Rat}(z:ZI F)(f:Af F):cn (psc (a:Rat) F)=a.natAbs*cn F:=by
 unfold cn;rw[DX (fun e=>h (by exact_mod_cast e)) f,Yc a z]
theorem Oc{F G:Nat→Rat}(zF:ZI F)(zG:ZI G)(fF:Af F)(fG:Af G):cn (cv F G)=cn F*cn G:=by
 by_cases hF:F=pz
 ·rw[hF,CG,Nk];omega
 by_cases hG:G=pz
 ·rw[hG,Kk,Nk];omega
 have nF:=EI zF fF hF;have nG:=EI zG fG hG;have e:cv F G=psc ((pcn F*pcn G:Int):Rat) (cv (pp F) (pp G)):=by
  have e1:=O6 zF fF hF;have e2:=O6 zG fG hG;have:cv F G=cv (psc (pcn F:Rat) (pp F)) (psc (pcn G:Rat) (pp G)):=by rw[←e1,←e2]
  rw[this,D6,OP,Cu,Rat.intCast_mul]
 rw[e,Ii (Int.mul_ne_zero nF nG) ((Iu zF fF).cv (Iu zG fG)) ((DI fF).cv (DI fG)),fM (Iu zF fF) (Iu zG fG) (DI fF) (DI fG) (Ri zF fF hF) (Ri zG fG hG),Int.natAbs_mul,Fj,Fj];omega
theorem PK{N:Nat}{F G:Nat→Rat}{p:Nat}{x:Int}(h:∀ n,(G n).num=if n=p then x else(F n).num):(Dq N F).set p x=Dq N G:=by
 apply List.ext_getElem
 ·simp[Dq]
 ·intro i h1 h2
  rw[List.getElem_set,Cf,Cf,h];by_cases e:p=i
  ·subst e;simp
  ·rw[if_neg e,if_neg (fun q=>e q.symm)]
theorem U6(N:Nat):Dq N pz=List.replicate N 0:=by
 apply List.ext_getElem
 ·simp[Dq]
 ·intro i h1 h2;rw[Cf];simp;rfl
end Go.Hp
namespace Go.Proofs.YtmhgnigpmompmaaGreat
open Go.RowKit Go.Hp
end Go.Proofs.YtmhgnigpmompmaaGreat
namespace Go.Hp
def ZU(b:Nat)(F G:Nat→Rat)(r:Value)(w:World):Prop:=∃ q m,r = .tuple #[q,m,.int .i64 0]∧AP b w q F∧AP b w m G
theorem RB{F:Nat→Rat}(h:ZI F):ld F=((ld F).num:Rat):=h.num _
end Go.Hp
namespace Go.Proofs.YtmhgnigpmompmaaGreat
open Go.RowKit Go.Hp
theorem OE(v:Value)(base:Nat)(F:Nat→Rat)(w:World)(hv:AP base w v F)(h0:F≠pz):Bh 87 #[v] w (fun r w'=>AO w' r (ld F).num):=by
 have hp:=Be hv.fin h0;obtain⟨A,c,l,rfl,k1,k2,hA,k3,k4,k5⟩:=hv.form;obtain⟨g,o,b,A1,n,c1,rfl,_,q0,q1,hq⟩:=hA.at_ (j:=pl F - 1) Aa;have hl:l[pl F - 1]'(by omega)=(ld F).num:=by
  have h1:=congrFun k5 (pl F - 1);rw[Ch (show pl F - 1 < l.length by omega)]at h1;show _=(F (pl F - 1)).num;rw[←h1];rfl
 rw[hl]at hq;have Hq:=Ad hq;clear hq hA hl k4 k5 hv;have x0:=(Ext.refl w).alloc (.cells #[.bool false,.slice none 0 0] 26);replace q0:=x0.cell q0;replace q1:=x0.cell q1
 go_enter Tryz.func87,Tryz.ntmps87
 go_wp2;have ez:=Bj.new w 26 #[.bool b,.slice A1 n c1] (by simp[Ag]);have x1:=(Ext.refl w).alloc (.cells #[.bool b,.slice A1 n c1] 26);have hz:=Hq.out.kd x1.kd;obtain⟨cez0,cez1⟩:=ez.cells2;have fez:=ez.frozen;refine bodyPost_ret (v := .agg #[.bool b,.slice A1 n c1]) (by simp[results,Tryz.results87,go_sem,cez0,cez1]) rfl ?_;exact Ah.mk hz x1
end Go.Proofs.YtmhgnigpmompmaaGreat
namespace Go.Hp
open Go.RowKit
theorem Ze{G:Nat→Rat}(hz:ZI G)(h:Af G):Il (zq (Dq (pl G) G)):=fun h0=>by
 rw[Ei,AY]at h0;have:=Ex h h0;have e:(zq (Dq (pl G) G)).length - 1=pl G - 1:=by rw[Ei,AY]
 simp only[e];rw[ND (by rw[AY];omega),Cf,←hz.num];exact this
theorem Cv.whole{base:Nat}{w:World}{g:Nat}{t:TypeId}{G:Nat→Rat}(h:Cv w g t (Dq (pl G) G))(hz:ZI G)(hf:Af G)(hb:base≤g){c:Nat}(hc:pl G≤c)(hm:c≤9223372036854775807):AP base w (.slice (some ⟨g,0,none⟩) (pl G) c) G:=
 ⟨_,⟨_,c,by rw[AY],by rw[AY];exact hc,hm,h.row hb⟩,Ze hz hf,EC hz (AU hf)⟩
end Go.Hp
namespace Go.Proofs.YtmhgnigpmompmaaGreat
open Go.RowKit Go.Hp
theorem JS(v:Value)(l:List Int)(w:World)(hv:Dt 0 w v l)(hn:l.length≤1099511627776):Bh 94 #[v] w (fun r w'=>AO w' r (cn (cz l):Nat)):=by
 have hsz:=fun i=>OX hv.sz Aa i;obtain⟨A,c,rfl,hl,hc,hA⟩:=hv;have HA:Hid (GI 0 w A l):=Ad hA;clear hA;have HS:=Ad hsz;clear hsz;rw[ZV (BK l)]
 go_enter Tryz.func94,Tryz.ntmps94
 go_wp2
 go_loopw [8] (fun iv wr=>∃ k:Nat,k≤l.length∧iv = .int .i64 k∧Bj wr w.heap.size 26 #[.bool false,.slice none 0 0]∧Bg wr (w.heap.size+1) 26 (ct k (cz l):Nat)∧Ext w wr) (fun iv _=>l.length - (intOf iv).toNat)
 case atStart=>exact⟨0,Nat.zero_le _,rfl,(Bj.new w _ _ (by simp[Ag])).alloc _,Bg.zero (by have:=Bj.new (w.alloc (.cells #[.bool false,.slice none 0 0] 26)) 26 #[.bool false,.slice none 0 0] (by simp[Ag]);rw[World.size_alloc]at this;exact this),((Ext.refl w).alloc _).alloc _⟩
 case round =>
  obtain⟨k,hk,rfl,ea,⟨b,B,bn,bc,eb,hb⟩,hx⟩:=hrel;have Hb:=Ad hb;clear hb;by_cases hkl:k < l.length
  ·obtain⟨g,o,b1,A1,n,c1,rfl,_,q0,q1,hq⟩:=HA.out.at_ (j:=k) hkl
   replace q0:=hx.cell q0;replace q1:=hx.cell q1;have Hq:=Ad (hq.kd hx.kd);clear hq;have hsk:=FV HS.out k;have HK:=Ad hsk;clear hsk;have xa:=fun o=>(Ext.refl wr).alloc o;have ceb:=eb.cells2;obtain⟨r0,r1⟩:=ceb;replace r0:=fun o=>(xa o).cell r0;replace r1:=fun o=>(xa o).cell r1;clear xa
   go_wp2_with fail
   refine AL (Ux _ _ (ct k (cz l):Nat) l[k] _ ((Hb.out.kd ((Ext.refl _).alloc _).kd).has (by have:=HK.out;simp;omega)) (Hq.out.kd ((Ext.refl _).alloc _).kd)) ?_;rintro r w2 hr hx2;have e1:Int.gcd (ct k (cz l):Nat) l[k]=ct (k+1) (cz l):=by rw[Gd,Ch hkl];rfl
   rw[e1]at hr;obtain⟨b5,A5,n5,c5,rfl⟩:=hr.cells;replace ea:=ea.ext hx2.a1;replace eb:=eb.ext hx2.a1;replace hx:=hx.trans hx2.a1;clear hx2 q0 q1 r0 r1 e1 HK Hb Hq;obtain⟨ceb0,ceb1⟩:=eb.cells2;have feb:=eb.frozen;go_wp2;obtain⟨W3,eW,eb',U⟩:=eb.put2 (.bool b5) (.slice A5 n5 c5) rfl rfl;rw[←eW];clear eW eb;replace hr:=hr.kd U.kd;replace ea:=ea.upd U Ai;replace hx:=U.from_ hx Ai;have eb:=eb';clear U eb'
   go_roundw
   case rel=>exact⟨k+1,Aa,by go_num,ea,Bg.mk eb hr,hx⟩
   case measure=>simp[intOf];omega
  ·obtain rfl:k=l.length:=by omega
   obtain⟨cea0,cea1⟩:=ea.cells2;have fea:=ea.frozen;obtain⟨ceb0,ceb1⟩:=eb.cells2;have feb:=eb.frozen;go_wp2;have hr:=Hb.out;obtain⟨W3,eW,ea',U⟩:=ea.put2 (.bool b) (.slice B bn bc) rfl rfl;rw[←eW];clear eW ea;replace hr:=hr.kd U.kd;replace hx:=U.from_ hx Ai;have ea:=ea';clear U ea';clear cea0 cea1;obtain⟨cea0,cea1⟩:=ea.cells2;have fea:=ea.frozen;refine bodyPost_ret (v := .agg #[.bool b,.slice B bn bc]) (by simp[results,Tryz.results94,go_sem,cea0,cea1]) rfl ?_
   exact Ah.mk hr hx
set_option maxRecDepth 20000 in
theorem Fp(v:Value)(l:List Int)(w:World)(hv:Dt 0 w v l)(hn:l.length≤1099511627776):Bh 85 #[v] w (fun r w'=>AP w.heap.size w' r (pp (cz l))):=by
 have hsz:=fun i=>OX hv.sz Aa i;have HV:=Ad hv;obtain⟨A0,c0,rfl⟩:=hv.len;have hfin:=Af.cz l;have hzi:=ZI.cz l;have hpl:=Bq (BK l);obtain⟨F,hF⟩:∃ F,F=cz l:=⟨_,rfl⟩
 have hNorm:=L6 _ l w HV.out hn;rw[←hF]at hsz hfin hzi hNorm hpl;rw[←hF];have HX:=Ad (Ak hsz (Ak hfin hzi));clear hsz hfin hzi HV hv hF;have HN:=Ad hNorm;clear hNorm
 go_enter Tryz.func85,Tryz.ntmps85
 go_wp2_with fail
 refine AL HN.out ?_;rintro r1 w1 hr1 hx1;have Hr1:=Ad hr1;obtain⟨A,c,l1,rfl,k1,k2,hA,k3,k4,k5⟩:=hr1.form;obtain⟨l2,h21,h22,-,h24⟩:=hr1.hz HX.out.1;have H2:=Ad (Ak h21 (Ak h22 h24));clear h21 h22 h24;have HA:=Ad (Ak hA (Ak k3 k5));clear hr1 hA k3 k4 k5 HN;have hpl40:pl F≤1099511627776:=by omega
 go_wp2_with fail
 refine AL (JS _ l2 _ H2.out.1 (by have:=H2.out.2.1;omega)) ?_;rintro r2 w2 hr2 hx2;rw[H2.out.2.2]at hr2;obtain⟨b5,A5,n5,c5,rfl⟩:=hr2.cells;have hs1:=hx1.size;have hs2:=hx2.size;obtain⟨W0,eW,eb,x0⟩:=Bj.made w2 26 #[.bool b5,.slice A5 n5 c5] (by simp[Ag]);replace hr2:=hr2.kd x0.kd;replace hx2:=hx2.trans x0;by_cases hp:0 < pl F
 ·obtain⟨g,o,b,A1,n,c1,rfl,_,q0,q1,hq⟩:=HA.out.1.at_ (j:=pl F - 1) (by have:=HA.out.2.1;omega)
  have hbb:=hq.two.2;have hld:ld F=(l1[pl F - 1]'(by have:=HA.out.2.1;omega):Rat):=by rw[←Ch,HA.out.2.2];rfl
  have hpc:pcn F=if b=true then -(cn F:Int)else cn F:=by
   unfold pcn;rw[hld,hbb];by_cases hneg:l1[pl F - 1]'(by have:=HA.out.2.1;omega) < 0
   ·rw[if_pos (by exact_mod_cast hneg),if_pos (by simpa using hneg)]
   ·rw[if_neg (fun h=>hneg (by exact_mod_cast h)),if_neg (by simpa using hneg)]
  have Hpc:=Ad hpc;clear hpc hld hbb hq q1;replace q0:=hx2.cell q0;subst eW;clear x0
  go_upto_if 22 with(fail)
  generalize w2.alloc (.cells #[.bool b5,.slice A5 n5 c5] 26)=W0 at *;generalize w2.heap.size=gb at *
  go_cut [] (fun wx=>Bg wx gb 26 (pcn F)∧Ext w1 wx)
  case first =>
   obtain⟨ceb0,ceb1⟩:=eb.cells2;have feb:=eb.frozen;cases b with
   | true =>
    have hcz:sz ((cn F:Nat):Int).natAbs≤1099511627776:=by have:=FV HX.out.1 (pl F);simpa[cn] using this
    have Hr2:=Ad (hr2.has hcz);clear hcz hr2
    go_wp2_with fail
    refine AL (Ur _ (cn F:Nat) _ Hr2.out) ?_;rintro r3 w3 hr3 hx3;obtain⟨b6,A6,n6,c6,rfl⟩:=hr3.cells;replace eb:=eb.ext hx3;replace hx2:=hx2.trans hx3;clear ceb0 ceb1 feb hx3 q0;obtain⟨ceb0,ceb1⟩:=eb.cells2;have feb:=eb.frozen;go_wp2;obtain⟨W3,eW,eb',U⟩:=eb.put2 (.bool b6) (.slice A6 n6 c6) rfl rfl;rw[←eW];clear eW eb;replace hr3:=hr3.kd U.kd;replace hx2:=U.from_ hx2 Ai;have eb:=eb';clear U eb'
    go_meet
    case rel=>exact⟨by have:=Hpc.out;simp at this;rw[this];exact Bg.mk eb hr3,hx2⟩
   | false =>
    have Hr2:=Ad hr2;clear hr2;go_wp2
    go_meet
    case rel=>exact⟨by have:=Hpc.out;simp at this;rw[this];exact Bg.mk eb Hr2.out,hx2⟩
  case rest =>
   clear q0 eb hr2 hx2;obtain⟨⟨b,B,bn,bc,eb,hb⟩,hx2⟩:=hcut;have hbc:=eb.lt;have hsc:=hx2.size;have hf0:F≠pz:=fun e=>by rw[e,Ca]at hp;omega
   have hppl:=EE HX.out.2.2 HX.out.2.1;have HB:=Ad (Ak hb (Ak hf0 hppl));clear hb hf0 hppl;obtain⟨m,hm⟩:∃ m,m=Dq (pl F) (pp F):=⟨_,rfl⟩
   have hml:m.length=pl F:=by rw[hm,AY]
   have HM:=Ad (Ak hm hml);clear hm hml;obtain⟨W0,hmk,ea,hxa⟩:=Jc (pl F) (pl F:Int) rfl hpl40 wc;replace eb:=eb.ext hxa;replace hx2:=hx2.trans hxa;have HB':=Ad (HB.out.1.kd hxa.kd);generalize wc.heap.size=ga at *;go_wp2;clear hmk hxa
   go_loopw [30] (fun iv wr=>∃ (k:Nat) (la:List Int),k≤pl F∧iv = .int .i64 k∧Cv wr ga 26 la∧la.length=pl F∧la=m.take k ++ List.replicate (pl F - k) 0∧Bj wr gb 26 #[.bool b,.slice B bn bc]∧AO wr (.agg #[.bool b,.slice B bn bc]) (pcn F)∧Ext w1 wr) (fun iv _=>pl F - (intOf iv).toNat)
   case atStart=>exact⟨0,_,Nat.zero_le _,rfl,ea,Ac,Ac,eb,HB'.out,hx2⟩
   case round =>
    clear hx2 ea eb HB';obtain⟨k,la,hk,rfl,ea,hlen,hla,eb,hb,hx2⟩:=hrel;have Hla:=Ad hla;clear hla;have Hlen:=Ad hlen;clear hlen;by_cases hkl:k < pl F
    ·have hkl1:k < l1.length:=by have:=HA.out.2.1;omega
     obtain⟨g',o',b1,B1,n1,d1,hgo,_,q0,q1,hq⟩:=HA.out.1.at_ (j:=k) hkl1;simp only[Option.some.injEq,Addr.mk.injEq,and_true]at hgo;obtain⟨rfl,rfl⟩:=hgo;replace q0:=hx2.cell q0;replace q1:=hx2.cell q1;have hFk:F k=(l1[k]:Rat):=by rw[←HA.out.2.2,Ch hkl1]
     have hqz:sz l1[k].natAbs≤1099511627776:=by have:=HX.out.1 k;rw[hFk,Bi]at this;omega
     have hdv:pcn F∣l1[k]:=by have:=Ji HX.out.2.1 k;rw[hFk]at this;exact this
     have hpz:=EI HX.out.2.2 HX.out.2.1 HB.out.2.1;have hps:sz (pcn F).natAbs≤1099511627776:=by rw[Fj];exact FV HX.out.1 (pl F)
     have hval:m[k]'(by rw[HM.out.2];exact hkl)=l1[k] / pcn F:=by
      simp only[HM.out.1,Cf];rw[OB HX.out.2.2 HX.out.2.1 HB.out.2.1,hFk];rfl
     have Hq:=Ad (Ak ((hq.has hqz).kd hx2.kd) (Ak (hb.has hps) (Ak hdv (Ak hpz hval))));clear hq hqz hdv hpz hps hval hFk;have xa:=fun o=>(Ext.refl wr).alloc o;obtain⟨r0,r1⟩:=eb.cells2;replace r0:=fun o=>(xa o).cell r0;replace r1:=fun o=>(xa o).cell r1;have Hb:=Ad hb;clear xa hb
     go_wp2_with fail
     refine AL (I9 _ _ l1[k] (pcn F) _ (Hq.out.1.kd ((Ext.refl _).alloc _).kd) (Hq.out.2.1.kd ((Ext.refl _).alloc _).kd) Hq.out.2.2.2.1 Hq.out.2.2.1) ?_;rintro r w3 ⟨a,rfl,hr⟩ hx3;obtain⟨b6,A6,n6,c6,rfl⟩:=hr.cells;replace ea:=ea.ext hx3.a1;replace eb:=eb.ext hx3.a1;have Hb':=Ad (Hb.out.kd hx3.a1.kd);replace hx2:=hx2.trans hx3.a1;clear hx3 q0 q1 r0 r1 Hb;have hkla:k < la.length:=by have:=Hlen.out;omega
     obtain⟨_,_,_,_,ca0,ca1,-⟩:=ea.at_ (j:=k) (by first | omega | (simp;omega));have fa0:=ea.frozen (k*2);have fa1:=ea.frozen (k*2+1);go_wp2;have hb:=Hb'.out;obtain⟨W3,eW,ea',U⟩:=ea.put (k:=k) (by first | omega | (simp;omega)) hr;rw[←eW];clear eW ea;replace hb:=hb.kd U.kd;replace eb:=eb.upd U Ai;replace hx2:=U.from_ hx2 Ai;have ea:=ea';clear U ea'
     go_roundw
     case rel=>exact⟨k+1,_,Aa,by go_num,ea,by simpa using Hlen.out,WS Hla.out hkl HM.out.2 Hq.out.2.2.2.2.symm,eb,hb,hx2⟩
     case measure=>simp[intOf];omega
    ·obtain rfl:k=pl F:=by omega
     have hla:=Hla.out;rw[Nat.sub_self,List.replicate_zero,List.append_nil,List.take_of_length_le (by rw[HM.out.2];exact Nat.le_refl _),HM.out.1]at hla;have hw:AP w.heap.size wr (.slice (some ⟨ga,0,none⟩) (pl F) (pl F)) (pp F):=by
      have h1:=Cv.whole (base:=w.heap.size) (G:=pp F) (c:=pl F) (by rw[HB.out.2.2,←hla];exact ea) (Iu HX.out.2.2 HX.out.2.1) (DI HX.out.2.1) Aa (by rw[HB.out.2.2];exact Nat.le_refl _) Aa;rw[HB.out.2.2]at h1;exact h1
     have Hw:=Ad hw;clear hw hla;go_wp2
     go_ret
     exact Ah.mk Hw.out (hx1.trans hx2)
 ·have hp0:pl F=0:=by omega
  have hpz:=(BG HX.out.2.1).1 hp0;have Hz:=Ad (Ak hpz hp0);clear hpz;have hb:decide ((0:Int) < (pl F:Int))=false:=by simp;omega
  obtain⟨W1,hmk,ea,hxa⟩:=Jc (pl F) (pl F:Int) rfl hpl40 W0;subst eW;clear x0 hp0;go_wp2;clear hmk
  go_loopw [30] (fun iv wr=>iv = .int .i64 0∧Ext w1 wr) (fun iv _=>0)
  case atStart=>exact⟨rfl,hx2.trans hxa⟩
  case round =>
   clear hx2;obtain⟨rfl,hx2⟩:=hrel;have hb2:¬ (0:Int) < (pl F:Int):=by omega
   go_wp2
   go_ret
   rw[Hz.out.1,GH,Ca];exact Ah.mk (AP.empty _ _ _ _ Aa) (hx1.trans hx2)
end Go.Proofs.YtmhgnigpmompmaaGreat
namespace Go.Hp
theorem Ka(l:List Int):l.take (pl (cz l))=Dq (pl (cz l)) (cz l):=by
 have h:=Bq (BK l)
 apply List.ext_getElem
 ·rw[AY,List.length_take];omega
 ·intro i h1 h2
  have h3:i < l.length:=by rw[List.length_take]at h1;omega
  rw[Cf,List.getElem_take,Ch h3];rfl
theorem OH{F G:Nat→Rat}(hF:ZI F)(hG:ZI G)(n:Nat):(psc (ld G) F n).num=(F n).num*(ld G).num:=by
 show(ld G*F n).num=_;rw[RB hG,hF.num n,num_mul,Int.mul_comm];rfl
theorem Z7{F G:Nat→Rat}(hF:ZI F)(hG:ZI G):ZI (psc (ld G) F):=by rw[RB hG];exact hF.psc _
theorem OG{F G:Nat→Rat}{k i n:Nat}(hi:i=pl F - pl G - k):De F G (k+1) n=psc (ld G) (De F G k) n - De F G k (pl F - 1 - k)*sh i G n:=by subst hi;rfl
theorem WX{F G:Nat→Rat}(hF:ZI F)(hG:ZI G){k i:Nat}(hi:i=pl F - pl G - k)(j:Nat):(De F G (k+1) (i+j)).num=(psc (ld G) (De F G k) (i+j)).num - (De F G k (pl F - 1 - k)).num*(G j).num:=by
 rw[OG hi,show sh i G (i+j)=G j from by unfold sh;rw[if_neg Aa];congr 1;omega];rw[(Z7 (Fa hF hG k) hG).num (i+j),(Fa hF hG k).num (pl F - 1 - k),hG.num j,←Rat.intCast_mul,num_sub];rfl
theorem YI{F G:Nat→Rat}{k i n:Nat}(hi:i=pl F - pl G - k)(h:n < i):De F G (k+1) n=psc (ld G) (De F G k) n:=by
 rw[OG hi,show sh i G n=0 from by unfold sh;rw[if_pos h]];grind
theorem Wi{F G:Nat→Rat}(hG:Af G){k i n:Nat}(hi:i=pl F - pl G - k)(h:i+pl G≤n):De F G (k+1) n=psc (ld G) (De F G k) n:=by
 rw[OG hi,show sh i G n=0 from by unfold sh;rw[if_neg Aa];exact AU hG _ Aa];grind
theorem WF{F G:Nat→Rat}{k i:Nat}(hi:i=pl F - pl G - k)(h0:G7 F G k i=0)(n:Nat):(G7 F G (k+1) n).num=if n=i then(De F G k (pl F - 1 - k)).num else(psc (ld G) (G7 F G k) n).num:=by
 have e:G7 F G (k+1) n=psc (ld G) (G7 F G k) n+mono i (De F G k (pl F - 1 - k)) n:=by subst hi;rfl
 rw[e];by_cases hn:n=i
 ·subst hn
  rw[if_pos rfl,Ja,show psc (ld G) (G7 F G k) n=ld G*G7 F G k n from rfl,h0];congr 1;grind
 ·rw[if_neg hn,Ez hn]
  congr 1;grind
end Go.Hp
namespace Go.Proofs.YtmhgnigpmompmaaGreat
open Go.RowKit Go.Hp
set_option maxRecDepth 40000 in
theorem bR(v u:Value)(l m:List Int)(s t:Nat)(w:World)(hv:Dt 0 w v l)(hu:Dt 0 w u m)(hs:∀ i,qsz (cz l i)≤s)(ht:∀ i,qsz (cz m i)≤t)(hn:l.length≤549755813888)(hm:m.length≤549755813888)(h0:cz m≠pz)(hst:s+(l.length+1)*(t+1)+t≤1099511627776) :
  Bh 95 #[v,u] w ((ZU w.heap.size (G7 (cz l) (cz m) (pl (cz l)+1 - pl (cz m))) (De (cz l) (cz m) (pl (cz l)+1 - pl (cz m))))):=by
 have HV:=Ad hv;have HU:=Ad hu;obtain⟨A0,c0,rfl⟩:=hv.len;obtain⟨A1,c1,rfl⟩:=hu.len;clear hv hu;have hN1:=F7 _ l w HV.out Aa;rw[GQ]at hN1;have hN2:=fun W (x:Ext w W)=>F7 _ m W (HU.out.ext x) Aa;simp only[GQ]at hN2;have hc1:=Bq (BK l);have hc2:=Bq (BK m);have hfF:=Af.cz l;have hzF:=ZI.cz l;have hfG:=Af.cz m;have hzG:=ZI.cz m;have hL:=Be hfG h0;have ht1:=Ka l;have ht2:=Ka m;obtain⟨F,hF⟩:∃ F,F=cz l:=⟨_,rfl⟩
 obtain⟨G,hG⟩:∃ G,G=cz m:=⟨_,rfl⟩
 rw[←hF]at hN1 hs hc1 hfF hzF ht1;rw[←hG]at hc2 hfG hzG hL ht h0 ht2;simp only[←hG]at hN2;rw[←hF,←hG];obtain⟨P,hP⟩:∃ P,P=pl F:=⟨_,rfl⟩
 obtain⟨L,hLe⟩:∃ L,L=pl G:=⟨_,rfl⟩
 obtain⟨K,hK⟩:∃ K,K=pl F+1 - pl G:=⟨_,rfl⟩
 have HB:=Ad (show(∀ k i,k≤K→sz (De F G k i).num.natAbs≤1099511627776)∧(∀ k i,k≤K→sz (psc (ld G) (De F G k) i).num.natAbs≤1099511627776)∧(∀ k i j,k≤K→sz ((De F G k i).num*(G j).num).natAbs≤1099511627776)∧(∀ k i,k≤K→pl G≤pl F→sz (G7 F G k i).num.natAbs≤1099511627776)∧sz (ld G).num.natAbs≤1099511627776∧(∀ j,sz (G j).num.natAbs≤1099511627776) by
  have key:∀ k,k≤K→k*(t+1)≤(l.length+1)*(t+1):=fun k hk=>Nat.mul_le_mul_right _ Aa;have g1:∀ j,sz (G j).num.natAbs≤t:=fun j=>Nat.le_trans (ER _) (ht j);have g2:sz (ld G).num.natAbs≤t:=g1 _;refine⟨fun k i hk=>?_,fun k i hk=>?_,fun k i j hk=>?_,fun k i hk hle=>?_,Aa,fun j=>by have:=g1 j;omega⟩
  ·have a1:=Im hzF hzG hs ht k i;have a2:=ER (De F G k i);have a3:=key k hk;omega
  ·have a1:=Im hzF hzG hs ht k i;have a2:=ER (De F G k i);have a3:=key k hk
   rw[OH (Fa hzF hzG k) hzG];have a4:=Fq a2 g2;omega
  ·have a1:=Im hzF hzG hs ht k i;have a2:=ER (De F G k i);have a3:=key k hk
   have a4:=Fq a2 (g1 j);omega
  ·have a1:=TN hzF hzG hs ht hle k Aa i;have a2:=ER (G7 F G k i);have a3:=key k hk;omega)
 have HX:=Ad (Ak hfF (Ak hzF (Ak hfG (Ak hzG (Ak h0 (Ak hF hG))))));have HP:=Ad (Ak hP (Ak hLe hK));rw[←hP]at hc1 hN1 ht1;rw[←hLe]at hc2 hL ht2;simp only[←hLe]at hN2;have HN1:=Ad hN1;have HN2:=Ad hN2;have HT:=Ad (Ak ht1 ht2);have hKe:K=P+1 - L:=by rw[hP,hLe];exact hK
 clear hs ht hst hfF hzF hfG hzG h0 hF hG hP hLe hK ht1 ht2 hN1 hN2;rw[←HP.out.2.2];have hb1:((L:Int)==0)=false:=by simpa using(show L≠0 by omega)
 go_enter Tryz.func95,Tryz.ntmps95
 go_wp2_with fail
 refine AL HN1.out ?_;rintro r1 w1 ⟨rfl,er⟩ hx;have hg1:=er.lt
 go_wp2_with fail
 refine AL (HN2.out w1 hx) ?_;rintro r2 w2 ⟨rfl,eg⟩ hx2;have hg2:=eg.lt;replace er:=er.ext hx2;replace hx:=hx.trans hx2;clear hx2;by_cases hlt:P < L
 ·have hK0:K=0:=by omega
  have Hr:=Ad (show AP w.heap.size w2 (.slice (some ⟨w.heap.size,0,none⟩) P l.length) F by
   have h1:=er.isZP (F:=F) HX.out.2.2.2.2.2.1.symm (Nat.le_refl _) (c:=l.length) (Nat.le_refl _) Aa;rw[GQ,←HX.out.2.2.2.2.2.1,←HP.out.1]at h1;exact h1)
  have hb2:decide ((P:Int) < L)=true:=by simpa using hlt
  clear er eg hKe;go_wp2
  go_ret3
  rw[hK0];exact Ah.mk ⟨_,_,rfl,AP.nil _ _,Hr.out⟩ hx
 ·have hb2:decide ((P:Int) < L)=false:=by simpa using hlt
  have hK1:P+1=K+L:=by omega
  have hKp:0 < K:=by omega
  have HK:=Ad hK1;replace er:=er.pre P;rw[HT.out.1]at er;replace eg:=eg.pre L;rw[HT.out.2]at eg;obtain⟨W0,hmk,eq,hxq⟩:=Jc K ((P:Int) - L+1) Aa Aa w2;replace er:=er.ext hxq;replace eg:=eg.ext hxq;replace hx:=hx.trans hxq;have hg3:=eq.lt;rw[←U6]at eq;have hK40:K≤1099511627776:=by omega
  clear hK1 hKe;generalize hgG:w1.heap.size=gG at *;generalize hgq:w2.heap.size=gq at *;go_wp2;clear hmk hxq
  go_loopw [7] (fun iv wr=>∃ k:Nat,k≤K∧iv = .int .i64 ((K:Int) - 1 - k)∧Cv wr w.heap.size 26 (Dq P (De F G k))∧Cv wr gq 26 (Dq K (G7 F G k))∧Cv wr gG 26 (Dq L G)∧Ext w wr) (fun iv _=>(intOf iv+1).toNat)
  case atStart=>exact⟨0,Nat.zero_le _,by go_num,er,eq,eg,hx⟩
  case round =>
   clear er eq eg hx;obtain⟨k,hk,rfl,er,eq,eg,hx⟩:=hrel;by_cases hkl:k < K
   ·obtain⟨i,hi⟩:∃ i,i=K - 1 - k:=⟨_,rfl⟩
    have hii:(K:Int) - 1 - k=(i:Int):=by omega
    rw[hii];have hik:i < K:=by omega
    have HI:=Ad (show i=pl F - pl G - k∧i+L - 1=pl F - 1 - k∧(i:Int) - 1=(K:Int) - 1 - (k+1:Nat)∧i+L≤P∧i+k < pl F+1 - pl G∧pl G≤pl F by
     have h1:=HK.out;have h2:=HP.out.1;have h3:=HP.out.2.1;refine⟨?_,?_,?_,?_,?_,?_⟩<;>omega)
    clear hi hii;have hiL:i+L - 1 < P:=by have:=HI.out.2.2.2.1;omega
    obtain⟨z0,Z0,zn0,zc0,cr0,cr1,hzc⟩:=er.at_ (j:=i+L - 1) (by rw[AY];exact hiL);rw[Cf]at hzc;have hgc:=eq.lt;have hLP:((i:Int)+L - 1).toNat=i+L - 1:=by omega
    go_wp2_with fail
    obtain⟨W8,eW8,e8,x8⟩:=Bj.made wr 26 #[.bool z0,.slice Z0 zn0 zc0] (by simp[Ag]);rw[←eW8];clear eW8 cr0 cr1 hLP;have ec:=Bg.mk e8 (hzc.kd x8.kd);replace er:=er.ext x8;replace eq:=eq.ext x8;replace eg:=eg.ext x8;replace hx:=hx.trans x8;clear x8;clear hzc e8;generalize wr.heap.size=gc at *;generalize hcv:(De F G k (i+L - 1)).num=cv at *;have HC:=Ad (show cv=(De F G k (pl F - 1 - k)).num∧sz cv.natAbs≤1099511627776∧∀ j,sz (cv*(G j).num).natAbs≤1099511627776 by
     subst hcv;exact⟨by rw[HI.out.2.1],HB.out.1 _ _ hk,fun j=>HB.out.2.2.1 _ _ j hk⟩)
    clear hcv hiL
    go_loopw [50] (fun jv wx=>∃ j:Nat,j≤P∧jv = .int .i64 j∧Cv wx w.heap.size 26 (Dq P (mx j (psc (ld G) (De F G k)) (De F G k)))∧Cv wx gq 26 (Dq K (G7 F G k))∧Cv wx gG 26 (Dq L G)∧Bg wx gc 26 cv∧Ext w wx) (fun jv _=>P - (intOf jv).toNat)
    case atStart=>exact⟨0,Nat.zero_le _,rfl,by rw[TE];exact er,eq,eg,ec,hx⟩
    case round =>
     clear er eq eg ec hx;obtain⟨j,hj,rfl,er,eq,eg,ec,hx⟩:=hrel;by_cases hjl:j < P
     ·obtain⟨z1,Z1,zn1,zc1,ca0,ca1,hz⟩:=er.at_ (j:=j) (by rw[AY];exact hjl)
      rw[Cf,Wh]at hz;have Hz:=Ad (Ak hz (show AP w.heap.size _ (.slice (some ⟨gG,0,none⟩) L m.length) G by
       have h1:=eg;have h2:=HP.out.2.1;rw[h2]at h1;rw[h2];exact h1.whole HX.out.2.2.2.1 HX.out.2.2.1 Aa Aa Aa))
      clear hz
      go_wp2_with fail
      refine Ae 9 [53,54,55,56,57,58,59,60,61] [[],[],[],[],[2,3],[2,3,4],[],[6],[2,3,4,5,6,7],[0,1,2,3,4,5,6,7,8],[0,1,2,3,4,5,6,7,8,9]] [5,9,1] [_,_,_] [(kv ?_),(kv ?_),(kv ?_),(kv ?_),(kv ?_),(kv ?_),(kv ?_),(fun γ=>γ 7),(fun γ=>γ 8)] (fun γ w'=>[True,True,True,True,True,True,True,AO w' (γ 7) (ld G).num,AO w' (γ 8) ((De F G k j).num*(ld G).num)]) Bn Aj Aj Bo Aj Bl Br ?hstep1 ?_
      case hstep1 =>
       iterate 9 refine⟨?_,?_⟩
       trivial
       iterate 7 focus
        intro γ w' he hf;clear hf;refine⟨by trivial,?_⟩;intro R hR;have hc:=he.cells;have cq0:=he.cell ca0;have cq1:=he.cell ca1;go_simp;(try go_ints);(try(rw[if_neg Aa]));(try(rw[if_pos Aa]));(try go_simp);(try go_ints)
        refine hR _ _ (Ext.refl _) ?_ trivial;rfl
       ·intro γ w' he hf;clear hf;refine⟨trivial,?_⟩;intro R hR
        go_simp;exact Bd (OE _ w.heap.size G w' (Hz.out.2.ext he) HX.out.2.2.2.2.1) hR
       ·intro γ w' he hf;have f7:AO w' (γ 7) (ld G).num:=hf 7 Ab;clear hf;refine⟨trivial,?_⟩;intro R hR
        go_simp;exact Bd (DF _ _ _ _ w' ((Hz.out.1.kd he.kd).has (HB.out.1 _ _ hk)) (f7.has HB.out.2.2.2.2.1)) hR
      intro γ w6 hx6 hF;have p7:AO w6 (γ 7) (ld G).num:=AA.get hF 7 Ab;have p8:AO w6 (γ 8) ((De F G k j).num*(ld G).num):=AA.get hF 8 Ab;clear hF;simp only[Bf,Nat.reduceAdd];generalize γ 7=g7 at *;generalize γ 8=g8 at *;clear γ;clear p7 Hz ca0 ca1;replace er:=er.ext hx6;replace eq:=eq.ext hx6;replace eg:=eg.ext hx6;replace ec:=ec.ext hx6;replace hx:=hx.trans hx6;clear hx6;obtain⟨b5,A5,n5,c5,rfl⟩:=p8.cells
      have hkf:j < (Dq P (mx j (psc (ld G) (De F G k)) (De F G k))).length:=by rw[AY];exact hjl
      have Hkf:=Ad hkf;obtain⟨_,_,_,_,ca0,ca1,-⟩:=er.at_ (j:=j) (by first | omega | (simp;omega));have fa0:=er.frozen (j*2);have fa1:=er.frozen (j*2+1);clear hkf;go_wp2;have hkf:=Hkf.out;obtain⟨W7,eW,er',U⟩:=er.put (k:=j) (by first | omega | (simp;omega)) p8;rw[←eW];clear eW er;replace eq:=eq.upd U Ai;replace eg:=eg.upd U Ai;replace ec:=ec.upd U Ai;replace hx:=U.from_ hx Ai;have er:=er';clear U er'
      go_roundw
      case rel=>exact⟨j+1,Aa,by go_num,by
       rw[←OH (Fa HX.out.2.1 HX.out.2.2.2.1 k) HX.out.2.2.2.1,Ty]at er;exact er,eq,eg,ec,hx⟩
      case measure=>simp[intOf];omega
     ·obtain rfl:P=j:=by omega
      rw[WZ (Nat.le_refl _)]at er;go_wp2
      go_loopw [66] (fun jv wx=>∃ j:Nat,j≤K∧jv = .int .i64 j∧Cv wx w.heap.size 26 (Dq P (psc (ld G) (De F G k)))∧Cv wx gq 26 (Dq K (mx j (psc (ld G) (G7 F G k)) (G7 F G k)))∧Cv wx gG 26 (Dq L G)∧Bg wx gc 26 cv∧Ext w wx) (fun jv _=>K - (intOf jv).toNat)
      case atStart=>exact⟨0,Nat.zero_le _,rfl,er,by rw[TE];exact eq,eg,ec,hx⟩
      case round =>
       clear er eq eg ec hx hjl hj;obtain⟨j,hj,rfl,er,eq,eg,ec,hx⟩:=hrel;by_cases hjl:j < K
       ·obtain⟨z1,Z1,zn1,zc1,ca0,ca1,hz⟩:=eq.at_ (j:=j) (by rw[AY];exact hjl)
        rw[Cf,Wh]at hz;have Hz:=Ad (Ak hz (show AP w.heap.size _ (.slice (some ⟨gG,0,none⟩) L m.length) G by
         have h1:=eg;have h2:=HP.out.2.1;rw[h2]at h1;rw[h2];exact h1.whole HX.out.2.2.2.1 HX.out.2.2.1 Aa Aa Aa))
        clear hz
        go_wp2_with fail
        refine Ae 9 [69,70,71,72,73,74,75,76,77] [[],[],[],[],[2,3],[2,3,4],[],[6],[2,3,4,5,6,7],[0,1,2,3,4,5,6,7,8],[0,1,2,3,4,5,6,7,8,9]] [4,10,1] [_,_,_] [(kv ?_),(kv ?_),(kv ?_),(kv ?_),(kv ?_),(kv ?_),(kv ?_),(fun γ=>γ 7),(fun γ=>γ 8)] (fun γ w'=>[True,True,True,True,True,True,True,AO w' (γ 7) (ld G).num,AO w' (γ 8) ((G7 F G k j).num*(ld G).num)]) Bn Aj Aj Bo Aj Bl Br ?hstep2 ?_
        case hstep2 =>
         iterate 9 refine⟨?_,?_⟩
         trivial
         iterate 7 focus
          intro γ w' he hf;clear hf;refine⟨by trivial,?_⟩;intro R hR;have hc:=he.cells;have cq0:=he.cell ca0;have cq1:=he.cell ca1;go_simp;(try go_ints);(try(rw[if_neg Aa]));(try(rw[if_pos Aa]));(try go_simp);(try go_ints)
          refine hR _ _ (Ext.refl _) ?_ trivial;rfl
         ·intro γ w' he hf;clear hf;refine⟨trivial,?_⟩;intro R hR
          go_simp;exact Bd (OE _ w.heap.size G w' (Hz.out.2.ext he) HX.out.2.2.2.2.1) hR
         ·intro γ w' he hf;have f7:AO w' (γ 7) (ld G).num:=hf 7 Ab;clear hf;refine⟨trivial,?_⟩;intro R hR
          go_simp;exact Bd (DF _ _ _ _ w' ((Hz.out.1.kd he.kd).has (HB.out.2.2.2.1 _ _ hk HI.out.2.2.2.2.2)) (f7.has HB.out.2.2.2.2.1)) hR
        intro γ w6 hx6 hF;have p7:AO w6 (γ 7) (ld G).num:=AA.get hF 7 Ab;have p8:AO w6 (γ 8) ((G7 F G k j).num*(ld G).num):=AA.get hF 8 Ab;clear hF;simp only[Bf,Nat.reduceAdd];generalize γ 7=g7 at *;generalize γ 8=g8 at *;clear γ;clear p7 Hz ca0 ca1;replace er:=er.ext hx6;replace eq:=eq.ext hx6;replace eg:=eg.ext hx6;replace ec:=ec.ext hx6;replace hx:=hx.trans hx6;clear hx6;obtain⟨b5,A5,n5,c5,rfl⟩:=p8.cells
        have hkf:j < (Dq K (mx j (psc (ld G) (G7 F G k)) (G7 F G k))).length:=by rw[AY];exact hjl
        have Hkf:=Ad hkf;obtain⟨_,_,_,_,ca0,ca1,-⟩:=eq.at_ (j:=j) (by first | omega | (simp;omega));have fa0:=eq.frozen (j*2);have fa1:=eq.frozen (j*2+1);clear hkf;go_wp2;have hkf:=Hkf.out;obtain⟨W7,eW,eq',U⟩:=eq.put (k:=j) (by first | omega | (simp;omega)) p8;rw[←eW];clear eW eq;replace er:=er.upd U Ai;replace eg:=eg.upd U Ai;replace ec:=ec.upd U Ai;replace hx:=U.from_ hx Ai;have eq:=eq';clear U eq'
        go_roundw
        case rel=>exact⟨j+1,Aa,by go_num,er,by
         rw[←OH (Sm HX.out.2.1 HX.out.2.2.2.1 k) HX.out.2.2.2.1,Ty]at eq;exact eq,eg,ec,hx⟩
        case measure=>simp[intOf];omega
       ·obtain rfl:K=j:=by omega
        rw[WZ (Nat.le_refl _)]at eq;obtain⟨b,B,bn,bc,e8,hb⟩:=ec;have Hb:=Ad hb;clear hb;obtain⟨ce80,ce81⟩:=e8.cells2;have fe8:=e8.frozen
        go_wp2_with fail
        refine AL (IM _ _ _ (Hb.out.has HC.out.2.1)) ?_;rintro r w3 hr hx3;have hb:=Hb.out.kd hx3.kd;clear ce80 ce81 fe8 Hb;replace er:=er.ext hx3;replace eq:=eq.ext hx3;replace eg:=eg.ext hx3;replace e8:=e8.ext hx3;replace hx:=hx.trans hx3;clear hx3;obtain⟨b5,A5,n5,c5,rfl⟩:=hr.cells;have hkf:i < (Dq K (psc (ld G) (G7 F G k))).length:=by rw[AY];exact hik
        have Hkf:=Ad hkf;have Hb:=Ad hb;clear hb;obtain⟨_,_,_,_,ca0,ca1,-⟩:=eq.at_ (j:=i) (by first | omega | (simp;omega));have fa0:=eq.frozen (i*2);have fa1:=eq.frozen (i*2+1);clear hkf;go_wp2;have hkf:=Hkf.out;have hb:=Hb.out;obtain⟨W7,eW,eq',U⟩:=eq.put (k:=i) (by first | omega | (simp;omega)) hr;rw[←eW];clear eW eq;replace hb:=hb.kd U.kd;replace er:=er.upd U Ai;replace eg:=eg.upd U Ai;replace e8:=e8.upd U Ai
        replace hx:=U.from_ hx Ai;have eq:=eq';clear U eq';rw[PK (G:=G7 F G (k+1)) (fun n=>by rw[WF HI.out.1 ((Jg HI.out.2.2.2.2.2 k (by have:=HI.out.2.2.2.2.1;omega)).2 i HI.out.2.2.2.2.1),HC.out.1])]at eq;have ec:=Bg.mk e8 hb;clear e8 hb Hb Hkf hkf
        go_loopw [87] (fun jv wx=>∃ j:Nat,j≤L∧jv = .int .i64 j∧Cv wx w.heap.size 26 (Dq P (mx (i+j) (De F G (k+1)) (psc (ld G) (De F G k))))∧Cv wx gq 26 (Dq K (G7 F G (k+1)))∧Cv wx gG 26 (Dq L G)∧Bg wx gc 26 cv∧Ext w wx) (fun jv _=>L - (intOf jv).toNat)
        case atStart=>exact⟨0,Nat.zero_le _,rfl,by rw[Nat.add_zero,Zv (fun n hn=>YI HI.out.1 hn)];exact er,eq,eg,ec,hx⟩
        case round =>
         clear er eq eg ec hx hj hjl;obtain⟨j,hj,rfl,er,eq,eg,ec,hx⟩:=hrel;by_cases hjl:j < L
         ·obtain⟨y1,Y1,yn1,yc1,q0,q1,hy⟩:=eg.at_ (j:=j) (by rw[AY];exact hjl)
          rw[Cf]at hy;have Hy:=Ad hy;clear hy;have hne:=ec.lt;have hne2:=eq.lt
          go_wp2_with fail
          obtain⟨W10,eW10,e10,x10⟩:=Bj.made wr 26 #[.bool y1,.slice Y1 yn1 yc1] (by simp[Ag]);rw[←eW10];clear eW10 q0 q1;have hy:=Hy.out.kd x10.kd;replace er:=er.ext x10;replace eq:=eq.ext x10;replace eg:=eg.ext x10;replace ec:=ec.ext x10;replace hx:=hx.trans x10;clear x10;obtain⟨b,B,bn,bc,e8,hb⟩:=ec;have hij:i+j < P:=by have:=HI.out.2.2.2.1;omega
          obtain⟨z1,Z1,zn1,zc1,ca0,ca1,hz⟩:=er.at_ (j:=i+j) (by rw[AY];exact hij);rw[Cf,Wh]at hz;have Hz:=Ad (Ak hz (Ak hb hy));clear hz hb hy Hy;obtain⟨ce80,ce81⟩:=e8.cells2;have fe8:=e8.frozen;obtain⟨ce100,ce101⟩:=e10.cells2;have fe10:=e10.frozen
          go_wp2_with fail
          refine Ae 14 [92,93,94,95,96,97,98,99,100,101,102,103,104,105] [[],[],[],[1,2],[],[],[],[5,6],[4,5,6,7],[4,5,6,7,8],[],[],[10,11],[4,5,6,7,8,9,10,11,12],[0,1,2,3,4,5,6,7,8,9,10,11,12,13],[0,1,2,3,4,5,6,7,8,9,10,11,12,13,14]] [5,7,11,8,12] [_,_,_,_,_] [(kv ?_),(kv ?_),(kv ?_),(kv ?_),(kv ?_),(kv ?_),(kv ?_),(kv ?_),(kv ?_),(kv ?_),(kv ?_),(kv ?_),(fun γ=>γ 12),(fun γ=>γ 13)] (fun γ w'=>[True,True,True,True,True,True,True,True,True,True,True,True,AO w' (γ 12) (cv*(G j).num),AO w' (γ 13) ((psc (ld G) (De F G k) (i+j)).num - cv*(G j).num)]) Bn Aj Aj Bo Aj Bl Br ?hstep3 ?_
          case hstep3 =>
           iterate 14 refine⟨?_,?_⟩
           trivial
           iterate 12 focus
            intro γ w' he hf;clear hf;refine⟨by trivial,?_⟩;intro R hR;have hc:=he.cells;have cq0:=he.cell ca0;have cq1:=he.cell ca1;have cq2:=he.cell ce80;have cq3:=he.cell ce81;have cq4:=he.cell ce100;have cq5:=he.cell ce101;go_simp;(try go_ints);(try(rw[if_neg Aa]));(try(rw[if_pos Aa]));(try go_simp);(try go_ints)
            refine hR _ _ (Ext.refl _) ?_ trivial;rfl
           ·intro γ w' he hf;clear hf;refine⟨trivial,?_⟩;intro R hR
            go_simp;exact Bd (DF _ _ _ _ w' ((Hz.out.2.1.kd he.kd).has HC.out.2.1) ((Hz.out.2.2.kd he.kd).has (HB.out.2.2.2.2.2 _))) hR
           ·intro γ w' he hf;have f12:AO w' (γ 12) (cv*(G j).num):=hf 12 Ab;clear hf;refine⟨trivial,?_⟩;intro R hR
            go_simp;exact Bd (aK _ _ _ _ w' ((Hz.out.1.kd he.kd).has (HB.out.2.1 _ _ hk)) (f12.has (HC.out.2.2 j))) hR
          intro γ w6 hx6 hF;have p12:AO w6 (γ 12) (cv*(G j).num):=AA.get hF 12 Ab;have p13:AO w6 (γ 13) ((psc (ld G) (De F G k) (i+j)).num - cv*(G j).num):=AA.get hF 13 Ab;clear hF;simp only[Bf,Nat.reduceAdd];generalize γ 12=g12 at *;generalize γ 13=g13 at *;clear γ;have hb:=Hz.out.2.1.kd hx6.kd;clear p12 Hz ca0 ca1 ce80 ce81 fe8 ce100 ce101 fe10 e10;replace er:=er.ext hx6;replace eq:=eq.ext hx6;replace eg:=eg.ext hx6
          replace e8:=e8.ext hx6;replace hx:=hx.trans hx6;clear hx6;obtain⟨b5,A5,n5,c5,rfl⟩:=p13.cells;have hkf:i+j < (Dq P (mx (i+j) (De F G (k+1)) (psc (ld G) (De F G k)))).length:=by rw[AY];exact hij
          have Hkf:=Ad hkf;have Hb:=Ad hb;clear hb;obtain⟨_,_,_,_,ca0,ca1,-⟩:=er.at_ (j:=i+j) (by first | omega | (simp;omega));have fa0:=er.frozen ((i+j)*2);have fa1:=er.frozen ((i+j)*2+1);clear hkf;go_wp2;have hkf:=Hkf.out;have hb:=Hb.out;obtain⟨W9,eW,er',U⟩:=er.put (k:=i+j) (by first | omega | (simp;omega)) p13;rw[←eW];clear eW er;replace hb:=hb.kd U.kd;replace eq:=eq.upd U Ai;replace eg:=eg.upd U Ai
          replace e8:=e8.upd U Ai;replace hx:=U.from_ hx Ai;have er:=er';clear U er'
          go_roundw
          case rel=>exact⟨j+1,Aa,by go_num,by
           rw[HC.out.1,←WX HX.out.2.1 HX.out.2.2.2.1 HI.out.1,Ty]at er;exact er,eq,eg,Bg.mk e8 hb,hx⟩
          case measure=>simp[intOf];omega
         ·obtain rfl:L=j:=by omega
          rw[Zz (fun n hn=>Wi HX.out.2.2.1 HI.out.1 (by rw[←HP.out.2.1];exact hn))]at er;go_wp2
          go_roundw
          case rel =>
           have hi1:=HI.out.2.2.1;exact⟨k+1,Aa,by rw[←hi1],er,eq,eg,hx⟩
          case measure=>simp[intOf]
   ·obtain rfl:K=k:=by omega
    have hm1:(K:Int) - 1 - K = -1:=by omega
    rw[hm1];have hT1:=El w.heap.size (some ⟨gq,0,none⟩) K (Dq K (G7 F G K)) wr (by rw[AY];exact Nat.le_refl _) Aa (eq.row Aa);have hT2:=El w.heap.size (some ⟨w.heap.size,0,none⟩) l.length (Dq P (De F G K)) wr (by rw[AY];exact hc1) Aa (er.row (Nat.le_refl _));rw[AY]at hT1 hT2;have HE:=Ad (Ak (eq.row (base:=w.heap.size) Aa) (er.row (Nat.le_refl _)));clear er eq eg hm1
    go_wp2_with fail
    refine Calls.mono hT1 ?_;rintro e w3 ⟨rfl,rfl⟩
    go_wp2_with fail
    refine Calls.mono hT2 ?_;rintro e w3 ⟨rfl,rfl⟩;go_wp2
    go_ret3
    have hPG:pl G≤pl F:=by have:=HP.out;omega
    exact Ah.mk ⟨_,_,rfl,AP.of_trim (LG.trim HE.out.1 (by rw[AY];exact Nat.le_refl _) Aa) (EC (Sm HX.out.2.1 HX.out.2.2.2.1 _) (by have h1:=(Jg hPG K (by rw[HP.out.2.2];exact Nat.le_refl _)).1;rw[←HP.out.2.2]at h1;exact h1)),AP.of_trim (LG.trim HE.out.2 (by rw[AY];exact hc1) Aa) (EC (Fa HX.out.2.1 HX.out.2.2.2.1 _) (by have h1:=KR HX.out.1 HX.out.2.2.1 HX.out.2.2.2.2.1 K (by rw[HP.out.2.2];exact Nat.le_refl _);exact h1.mono (by rw[←HP.out.1];omega)))⟩ hx
end Go.Proofs.YtmhgnigpmompmaaGreat
namespace Go.Hp
def GZ(F G:Nat→Rat):Prop:=∃ Q,ZI Q∧Af Q∧F=cv Q G
theorem YK{R G:Nat→Rat}{k:Nat}(hR:Af R)(hG:Af G)(h0:G≠pz)(hs:BB (k+pl G) R)(h:GZ R G):∃ z:Int,R (k+pl G - 1)=(z:Rat)*ld G:=by
 obtain⟨Q,hz,hf,e⟩:=h;have hp:=Be hG h0;by_cases hQ:Q=pz
 ·refine⟨0,?_⟩
  rw[e,hQ,CG];show(0:Rat)=((0:Int):Rat)*_;simp
 ·have h1:=GK hf hG hQ h0
  rw[←e]at h1;have h2:=Bq hs;have h3:=Be hf hQ;have h4:BB (k+1) Q:=(AU hf).mono Aa;have h5:BB (pl G - 1+1) G:=(AU hG).mono Aa;have h6:=RI h4 h5;rw[←e,show k+(pl G - 1)=k+pl G - 1 from by omega]at h6;rw[h6,hz.num k];exact⟨_,rfl⟩
theorem XD{F G Q R:Nat→Rat}(hz:ZI Q)(hf:Af Q)(e:F=pad (cv Q G) R):GZ F G↔GZ R G:=by
 constructor
 ·rintro⟨P,h1,h2,h3⟩
  refine⟨psb P Q,h1.psb hz,h2.psb hf,?_⟩;rw[FE,←h3,e]
  funext n;simp only[psb,pad];grind
 ·rintro⟨P,h1,h2,h3⟩
  refine⟨pad Q P,hz.pad h1,hf.pad h2,?_⟩;rw[Dk,←h3,e]
theorem bB(G:Nat→Rat):GZ pz G:=⟨pz,ZI.pz,Af.pz,(CG G).symm⟩
theorem Uw{R G:Nat→Rat}(hR:Af R)(hG:Af G)(hs:pl R < pl G):GZ R G↔R=pz:=by
 constructor
 ·rintro⟨Q,h1,h2,h3⟩
  have h0:G≠pz:=fun e=>by rw[e,Ca]at hs;omega
  refine Classical.byContradiction fun hn=>?_;have hQ:Q≠pz:=fun e=>hn (by rw[h3,e,CG]);have:=GK h2 hG hQ h0;rw[←h3]at this;have:=Be h2 hQ;omega
 ·rintro rfl;exact bB G
def EJ(F G:Nat→Rat)(n s t i:Nat)(Q R:Nat→Rat):Prop:=
 (∀ j,j < i→Q j=0)∧BB n Q∧BB (i+pl G - 1) R∧F=pad (cv Q G) R∧ZI Q∧ZI R∧∀ m,qsz (R m)≤s+(n - i)*(t+1)
theorem EJ.start{F G:Nat→Rat}{n s t:Nat}(hF:BB (n+pl G - 1) F)(hz:ZI F)(hs:∀ m,qsz (F m)≤s):EJ F G n s t n pz F:=
 ⟨fun _ _=>rfl,BB.pz _,hF,by rw[CG];funext m;simp only[pad,pz];grind,ZI.pz,hz,fun m=>by have:=hs m;omega⟩
theorem Nu{z:Int}{a b:Rat}(hb:b≠0)(hbz:∃ y:Int,b=(y:Rat))(e:a=(z:Rat)*b):qsz (z:Rat)≤qsz a:=by
 obtain⟨y,rfl⟩:=hbz;rw[e,←Rat.intCast_mul,Bi,Bi];have hy:y≠0:=fun h=>hb (by rw[h];rfl);have:sz z.natAbs≤sz (z*y).natAbs:=by
  refine Bp ?_;rw[Int.natAbs_mul];exact Nat.le_mul_of_pos_right _ Aa
 omega
theorem EJ.step{F G:Nat→Rat}{n s t k:Nat}{Q R:Nat→Rat}(hG:Af G)(h0:G≠pz)(zG:ZI G)(hcG:∀ m,qsz (G m)≤t)(h:EJ F G n s t (k+1) Q R)(hk:k < n){z:Int}(hc:R (k+pl G - 1)=(z:Rat)*ld G) :
  EJ F G n s t k (pad Q (mono k (z:Rat))) (psb R (cv (mono k (z:Rat)) G)):=by
 obtain⟨h3,h4,h5,h6,h7,h8,h9⟩:=h;have hp:=Be hG h0;have hl:=D8 hG h0;have hz:(z:Rat)=R (k+pl G - 1) / ld G:=by rw[hc];grind
 refine⟨fun j hj=>?_,h4.pad ((CX k _).mono Aa),?_,?_,h7.pad (ZI.mono k z),h8.psb ((ZI.mono k z).cv zG),fun m=>?_⟩
 ·show Q j+mono k (z:Rat) j=0
  rw[h3 j Aa,Ez Aa];grind
 ·rw[hz];exact F3 hG h0 (h5.mono Aa)
 ·rw[Dk]
  funext m
  have:=congrFun h6 m;simp only[pad,psb]at this ⊢;grind
 ·have q1:qsz (z:Rat)≤qsz (R (k+pl G - 1)):=Nu hl (zG _) hc
  have q2:=h9 (k+pl G - 1);have e:n - k=(n - (k+1))+1:=by omega
  have q3:(n - k)*(t+1)=(n - (k+1))*(t+1)+(t+1):=by rw[e,Nat.succ_mul]
  have q4:qsz (cv (mono k (z:Rat)) G m)≤qsz (z:Rat)+t:=by
   rw[EX];show qsz ((z:Rat)*sh k G m)≤_;have a1:=BR (z:Rat) (sh k G m);have a2:qsz (sh k G m)≤max t 1:=by
    unfold sh
    split
    ·have:qsz (0:Rat)=1:=by decide
     omega
    ·have:=hcG (m - k);omega
   have a3:1≤t:=by have:=hcG 0;have:1≤qsz (G 0):=by { unfold qsz;have:=DY (n:=(G 0).den) (by have:=(G 0).den_pos;omega);omega };omega
   omega
  have q5:=MX h8 ((ZI.mono k z).cv zG) m m;have q6:=h9 m;show qsz (R m - cv (mono k (z:Rat)) G m)≤_;omega
theorem EJ.end_{F G:Nat→Rat}{n s t:Nat}{Q R:Nat→Rat}(hF:Af F)(hG:Af G)(h0:G≠pz)(h:EJ F G n s t 0 Q R):Q=pq F G∧R=pr F G∧BB n Q∧ZI Q:=by
 obtain⟨h3,h4,h5,h6,h7,h8,h9⟩:=h;have:=GU hF hG h0 ⟨n,h4⟩ h6 (by rwa[Nat.zero_add]at h5);exact⟨this.1,this.2,h4,h7⟩
theorem EJ.zdv{F G:Nat→Rat}{n s t i:Nat}{Q R:Nat→Rat}(h:EJ F G n s t i Q R):GZ F G↔GZ R G:=
 XD h.2.2.2.2.1 ⟨n,h.2.1⟩ h.2.2.2.1
theorem EJ.fin{F G:Nat→Rat}{n s t i:Nat}{Q R:Nat→Rat}(h:EJ F G n s t i Q R):Af R:=⟨_,h.2.2.1⟩
theorem EJ.no{F G:Nat→Rat}{n s t k:Nat}{Q R:Nat→Rat}(hG:Af G)(h0:G≠pz)(zG:ZI G)(h:EJ F G n s t (k+1) Q R)(hd:¬ (ld G).num∣(R (k+pl G - 1)).num):¬ GZ F G:=by
 intro hz;have hp:=Be hG h0;obtain⟨z,e⟩:=YK (k:=k) h.fin hG h0 (h.2.2.1.mono Aa) (h.zdv.1 hz)
 apply hd
 rw[e,show ld G=((ld G).num:Rat)from zG.num _,num_mul];exact⟨z,by rw[Int.mul_comm];rfl⟩
theorem EJ.yes{F G:Nat→Rat}{n s t i m:Nat}{Q R:Nat→Rat}(zG:ZI G)(h:EJ F G n s t i Q R)(hd:(ld G).num∣(R m).num):R m=(((R m).num / (ld G).num:Int):Rat)*ld G:=by
 have e1:ld G=((ld G).num:Rat):=zG.num _;have e2:=h.2.2.2.2.2.1.num m;have e3:=Int.ediv_mul_cancel hd;have e4:(((R m).num / (ld G).num:Int):Rat)*(((ld G).num:Int):Rat)=(((R m).num:Int):Rat):=by rw[←Rat.intCast_mul,e3]
 rw[e2,e1];exact e4.symm
theorem EJ.out{F G:Nat→Rat}{n s t:Nat}{Q R:Nat→Rat}(hF:Af F)(hG:Af G)(h0:G≠pz)(h:EJ F G n s t 0 Q R):GZ F G↔R=pz:=by
 rw[h.zdv,Uw h.fin hG];have hp:=Be hG h0;have:=Bq h.2.2.1;omega
theorem TD(k j:Nat)(c:Rat)(R G:Nat→Rat):Eg k j c R G (k+j)=R (k+j):=by
 unfold Eg;rw[if_neg Aa];grind
theorem XK{k j:Nat}{z:Int}{R G:Nat→Rat}(hR:ZI R)(hG:ZI G)(n:Nat):(Eg k (j+1) (z:Rat) R G n).num=if n=k+j then(R (k+j)).num - z*(G j).num else(Eg k j (z:Rat) R G n).num:=by
 rw[La]
 split
 ·rename_i h;subst h
  rw[TD,hR.num,hG.num j,←Rat.intCast_mul,num_sub];rfl
 ·rfl
theorem Wx{Q:Nat→Rat}{k:Nat}{z:Int}(hQ:ZI Q)(h:Q k=0)(n:Nat):(pad Q (mono k (z:Rat)) n).num=if n=k then z else(Q n).num:=by
 show(Q n+mono k (z:Rat) n).num=_;by_cases e:n=k
 ·subst e;rw[if_pos rfl,h,Ja,Rat.zero_add];rfl
 ·rw[if_neg e,Ez e,Rat.add_zero]
open Go.RowKit
def F9(w:World)(v:Value)(x:Int)(e:Int):Prop:=∃ a,v = .tuple #[a,.int .i64 e]∧AO w a x
theorem F9.ext{w w':World}{v:Value}{x e:Int}(h:F9 w v x e)(k:Ext w w'):F9 w' v x e:=by
 obtain⟨a,h1,h2⟩:=h;exact⟨a,h1,h2.kd k.kd⟩
def aR(base:Nat)(F G:Nat→Rat)(r:Value)(w:World):Prop:=(GZ F G→∃ q,r = .tuple #[q,.int .i64 0]∧AP base w q (pq F G))∧(¬ GZ F G→r = .tuple #[.slice none 0 0,.int .i64 6])
end Go.Hp
namespace Go.Proofs.YtmhgnigpmompmaaGreat
open Go.RowKit Go.Hp
theorem Y9(v u:Value)(x y:Int)(w:World)(hv:Bu w v x)(hu:Bu w u y)(h0:y≠0)(hd:¬ y∣x):Bh 86 #[v,u] w (fun r w'=>F9 w' r 0 6):=by
 have Hv:=Ad hv;have Hu:=Ad hu;obtain⟨neg,A,n,c,N,rfl,h1,h2,h3,hN,hx⟩:=hv.form;obtain⟨neg',A',n',c',M,rfl,k1,k2,k3,kN,hy⟩:=hu.form;clear hN hx hv hu kN hy;have hz:x % y≠0:=fun e=>hd (Int.dvd_of_emod_eq_zero e);have hp:0 < sz (x % y).natAbs:=Nat.pos_of_ne_zero fun e=>hz (by have:=(EU (n:=(x % y).natAbs) (k:=0)).1 Aa;rw[J7]at this;omega);have H0:=Ad (Ak h0 hp);clear h0 hd hz hp
 go_enter Tryz.func86,Tryz.ntmps86
 go_wp2_with fail
 refine AL (Kn _ _ x y _ (Hv.out.ext ((((Ext.refl w).alloc _).alloc _).alloc _)) (Hu.out.ext ((((Ext.refl w).alloc _).alloc _).alloc _))) ?_;rintro r w1 ⟨q,m,rfl,hq,hm⟩ hx1;rw[if_neg H0.out.1]at hm;rw[if_neg H0.out.1];obtain⟨b,A1,n1,c1,rfl⟩:=hq.cells;obtain⟨A2,c2,rfl,-⟩:=hm.form;obtain⟨n2,hn2⟩:∃ n2,n2=sz (x % y).natAbs:=⟨_,rfl⟩
 rw[←hn2];have hn0:0 < n2:=by have:=H0.out.2;omega
 obtain⟨bb,hbb⟩:∃ bb,bb=decide (x % y < 0):=⟨_,rfl⟩
 rw[←hbb];clear hq hm hn2 hbb;have hx2:=(hx1.alloc (Obj.cells #[Value.bool b,Value.slice A1 n1 c1] 26)).alloc (Obj.cells #[Value.bool bb,Value.slice A2 n2 c2] 26);have hc2:=hx2.cells;have hf2:=hx2.frozens;have Hfin:=Ad (Ci (KN ((w1.alloc (Obj.cells #[Value.bool b,Value.slice A1 n1 c1] 26)).alloc (Obj.cells #[Value.bool bb,Value.slice A2 n2 c2] 26))) hx2.a3 (AX.at_ hx2 (g:=w.heap.size+1+1) Ac (by simp[Ag])) Aa)
 have hc1:=hx1.cells;have hf1:=hx1.frozens;go_wp2;refine bodyPost_ret (v := .tuple #[.agg #[.bool false,.slice none 0 0],.int .i64 6]) (by simp[results,Tryz.results86,go_sem,hc2]) rfl ?_;obtain⟨r,e,hr,hx⟩:=Hfin.out;cases e;exact Ah.mk ⟨_,rfl,hr⟩ hx
theorem Z5(v u:Value)(x y:Int)(w:World)(hv:Bu w v x)(hu:Bu w u y)(h0:y≠0)(hd:y∣x):Bh 86 #[v,u] w (fun r w'=>F9 w' r (x / y) 0):=I9 v u x y w hv hu h0 hd
set_option maxRecDepth 20000 in
theorem UL(v u:Value)(l m:List Int)(s t:Nat)(w:World)(hv:Dt 0 w v l)(hu:Dt 0 w u m)(hs:∀ i,qsz (cz l i)≤s)(ht:∀ i,qsz (cz m i)≤t)(hn:l.length≤549755813888)(hm:m.length≤549755813888)(h0:cz m≠pz)(hst:s+(l.length+2)*(t+1)+t≤1099511627776) :
  Bh 88 #[v,u] w ((aR w.heap.size (cz l) (cz m))):=by
 have HV:=Ad hv;have HU:=Ad hu;obtain⟨A0,c0,rfl⟩:=hv.len;obtain⟨A1,c1,rfl⟩:=hu.len;clear hv hu;have hN1:=F7 _ l w HV.out Aa;rw[GQ]at hN1;have hN2:=fun W (x:Ext w W)=>F7 _ m W (HU.out.ext x) Aa;simp only[GQ]at hN2;have hc1:=Bq (BK l);have hc2:=Bq (BK m);have hfF:=Af.cz l;have hzF:=ZI.cz l;have hfG:=Af.cz m;have hzG:=ZI.cz m;have hL:=Be hfG h0;have ht1:=Ka l;have ht2:=Ka m;obtain⟨F,hF⟩:∃ F,F=cz l:=⟨_,rfl⟩
 obtain⟨G,hG⟩:∃ G,G=cz m:=⟨_,rfl⟩
 rw[←hF]at hN1 hs hc1 hfF hzF ht1;rw[←hG]at hc2 hfG hzG hL ht h0 ht2;simp only[←hG]at hN2;rw[←hF,←hG];obtain⟨P,hP⟩:∃ P,P=pl F:=⟨_,rfl⟩
 obtain⟨L,hLe⟩:∃ L,L=pl G:=⟨_,rfl⟩
 obtain⟨K,hK⟩:∃ K,K=pl F+1 - pl G:=⟨_,rfl⟩
 have HB:=Ad (show(∀ k,k≤K→∀ q,q≤s+k*(t+1)→q≤1099511627776∧q+t≤1099511627776)∧sz (ld G).num.natAbs≤1099511627776∧(∀ j,sz (G j).num.natAbs≤t)∧t≤1099511627776 by
  have key:∀ k,k≤K→k*(t+1)≤(l.length+2)*(t+1):=fun k hk=>Nat.mul_le_mul_right _ Aa;have g1:∀ j,sz (G j).num.natAbs≤t:=fun j=>Nat.le_trans (ER _) (ht j);have g2:sz (ld G).num.natAbs≤t:=g1 _;exact⟨fun k hk q hq=>by have:=key k hk;omega,Aa,g1,Aa⟩)
 have HX:=Ad (Ak hfF (Ak hzF (Ak hfG (Ak hzG (Ak h0 (Ak hF (Ak hG (Ak hs ht))))))));have HP:=Ad (Ak hP (Ak hLe hK));rw[←hP]at hc1 hN1 ht1;rw[←hLe]at hc2 hL ht2;simp only[←hLe]at hN2;have HN1:=Ad hN1;have HN2:=Ad hN2;have HT:=Ad (Ak ht1 ht2);have hKe:K=P+1 - L:=by rw[hP,hLe];exact hK
 clear hs ht hst hfF hzF hfG hzG h0 hF hG hP hLe hK ht1 ht2 hN1 hN2;have hb1:((L:Int)==0)=false:=by simpa using(show L≠0 by omega)
 go_enter Tryz.func88,Tryz.ntmps88
 go_wp2_with fail
 refine AL HN1.out ?_;rintro r1 w1 ⟨rfl,er⟩ hx;have hg1:=er.lt
 go_wp2_with fail
 refine AL (HN2.out w1 hx) ?_;rintro r2 w2 ⟨rfl,eg⟩ hx2;have hg2:=eg.lt;replace er:=er.ext hx2;replace hx:=hx.trans hx2;clear hx2;have hK1:P+1≤K+L∧(0 < K→P+1=K+L):=by omega
 have HK:=Ad hK1;replace er:=er.pre P;rw[HT.out.1]at er;replace eg:=eg.pre L;rw[HT.out.2]at eg;obtain⟨W0,hmk,eq,hxq⟩:=Jc K (max ((P:Int) - L+1) 0) Aa Aa w2;replace er:=er.ext hxq;replace eg:=eg.ext hxq;replace hx:=hx.trans hxq;have hg3:=eq.lt;rw[←U6]at eq;have hK40:K≤1099511627776:=by omega
 clear hK1 hKe;have hst0:EJ F G K s t K pz F:=EJ.start ((AU HX.out.1).mono (by have:=HK.out;have:=HP.out;omega)) HX.out.2.1 HX.out.2.2.2.2.2.2.2.1;have HS0:=Ad hst0;clear hst0;generalize hgG:w1.heap.size=gG at *;generalize hgq:w2.heap.size=gq at *;go_wp2;clear hmk hxq
 go_loopw [8] (fun iv wr=>∃ (i:Nat) (Q R:Nat→Rat),i≤K∧iv = .int .i64 ((i:Int) - 1)∧Cv wr w.heap.size 26 (Dq P R)∧Cv wr gq 26 (Dq K Q)∧Cv wr gG 26 (Dq L G)∧EJ F G K s t i Q R∧BB P R∧Ext w wr) (fun iv _=>(intOf iv+1).toNat)
 case atStart=>exact⟨K,pz,F,Nat.le_refl _,by go_num,er,eq,eg,HS0.out,by rw[HP.out.1];exact AU HX.out.1,hx⟩
 case round =>
  clear er eq eg hx;obtain⟨i,Q,R,hi,rfl,er,eq,eg,hst,hsP,hx⟩:=hrel;have HR:=Ad hst;have HSP:=Ad hsP;clear hst hsP;by_cases hi0:0 < i
  ·obtain⟨k,rfl⟩:∃ k,i=k+1:=⟨i - 1,Aa⟩
   have hii:((k+1:Nat):Int) - 1=(k:Int):=by omega
   rw[hii];clear hii hi0;have hkK:k < K:=by omega
   have hkP:k+L≤P:=by have:=HK.out.2;omega
   have hkL:k+L - 1 < P:=by omega
   obtain⟨z0,Z0,zn0,zc0,cr0,cr1,hzc⟩:=er.at_ (j:=k+L - 1) (by rw[AY];exact hkL);rw[Cf]at hzc;have hLP:((k:Int)+L - 1).toNat=k+L - 1:=by omega
   have HQ:=Ad (show(∀ n,sz (R n).num.natAbs≤1099511627776)∧(ld G).num≠0∧R (k+L - 1)=R (k+pl G - 1)from by
    refine⟨fun n=>?_,fun e=>?_,by rw[HP.out.2.1]⟩
    ·have h1:=HR.out.2.2.2.2.2.2 n
     have h2:=HB.out.1 _ (show K - (k+1)≤K by omega) _ h1;have h3:=ER (R n);omega
    ·have:=D8 HX.out.2.2.1 HX.out.2.2.2.2.1
     exact this (by rw[show ld G=((ld G).num:Rat)from HX.out.2.2.2.1.num _,e];rfl))
   have Hz:=Ad (Ak hzc (show AP w.heap.size _ (.slice (some ⟨gG,0,none⟩) L m.length) G by
    have h1:=eg;have h2:=HP.out.2.1;rw[h2]at h1;rw[h2];exact h1.whole HX.out.2.2.2.1 HX.out.2.2.1 Aa Aa Aa))
   clear hzc;obtain⟨rv,hrv⟩:∃ rv,rv=(R (k+L - 1)).num:=⟨_,rfl⟩
   rw[←hrv]at Hz;by_cases hd:(ld G).num∣rv
   ·obtain⟨z,hzz⟩:∃ z,z=rv / (ld G).num:=⟨_,rfl⟩
    have HD:=Ad (Ak hd (Ak hrv hzz));clear hd hzz
    go_wp2_with fail
    go_cut [9,10] (fun pv ev wx=>∃ gc,pv = .pointer (some ⟨gc,0,none⟩)∧ev = .int .i64 0∧Bg wx gc 26 z∧wr.heap.size≤gc∧Ext wr wx)
    case first =>
     refine Bz 15 [13] (fun x=>16) [36,37,38,39,40,41,42,43,44,45,46,35,47,48,9] [[],[],[],[2],[1,2,3],[1,2,3,4],[0,1,2,3,4,5],[0,1,2,3,4,5,6],[],[8],[0,1,2,3,4,5,6,7,8,9],[0,1,2,3,4,5,6,7,8,9,10],[0,1,2,3,4,5,6,7,8,9,10,11],[0,1,2,3,4,5,6,7,8,9,10,11],[],[0,1,2,3,4,5,6,7,8,9,10,11,12,14],[0,1,2,3,4,5,6,7,8,9,10,11,12,13,14,15]] [6,8,1] [_,_,_] [(kv ?_),(kv ?_),(kv ?_),(kv ?_),(kv ?_),(kv ?_),(kv ?_),(kv ?_),(kv ?_),(fun γ=>γ 9),(fun γ=>γ 10),(fun γ=>γ 10),(fun γ=>γ 12),(kv ?_),(fun γ=>γ 14)] (fun γ w'=>[True,True,True,True,True,True,True,True,True,AO w' (γ 9) (ld G).num,F9 w' (γ 10) z 0,True,AO w' (γ 12) z,True,AZ w' (γ 14) wr.heap.size #[.bool false,.slice none 0 0] 26]) Bn Aj Aj Aj Aj Aj Bo Aj Bl ?hmono1 ?hstep1 ?_ ?hlate1
     case hstep1 =>
      iterate 15 refine⟨?_,?_⟩
      trivial
      iterate 9 focus
       intro γ w' he hf;clear hf;refine⟨by trivial,?_⟩;intro R hR;have hc:=he.cells;have cq0:=he.cell cr0;have cq1:=he.cell cr1;go_simp;(try go_ints);(try(rw[if_neg Aa]));(try(rw[if_pos Aa]));(try go_simp);(try go_ints)
       refine hR _ _ (Ext.refl _) ?_ trivial;rfl
      ·intro γ w' he hf;clear hf;refine⟨trivial,?_⟩;intro R hR
       go_simp;exact Bd (OE _ w.heap.size G w' (Hz.out.2.ext he) HX.out.2.2.2.2.1) hR
      ·intro γ w' he hf;have f9:AO w' (γ 9) (ld G).num:=hf 9 Ab;clear hf;refine⟨trivial,?_⟩;intro R hR
       go_simp;exact Bd (HD.out.2.2▸Z5 _ _ _ _ w' ((Hz.out.1.kd he.kd).has (by rw[HD.out.2.1];exact HQ.out.1 _)) (f9.has HB.out.2.1) HQ.out.2.1 HD.out.1) hR
      ·intro γ w' he hf;clear hf;refine⟨trivial,?_⟩;intro R hR
       have hc:=he.cells;go_simp
       (try go_ints);(try(rw[if_neg Aa]));(try(rw[if_pos Aa]));(try go_simp);(try go_ints)
       refine hR _ _ (Ext.refl _) ?_ trivial;rfl
      ·intro γ w' he hf;have f10:F9 w' (γ 10) z 0:=hf 10 Ab;clear hf;refine⟨trivial,?_⟩;intro R hR
       obtain⟨a,e,ha⟩:=f10;go_simp;exact hR _ _ (Ext.refl _) rfl ha
      ·intro γ w' he hf;have f10:F9 w' (γ 10) z 0:=hf 10 Ab;clear hf;refine⟨trivial,?_⟩;intro R hR
       obtain⟨a,e,ha⟩:=f10;have hc:=he.cells;go_simp
       (try go_ints);(try(rw[if_neg Aa]));(try(rw[if_pos Aa]));(try go_simp);(try go_ints)
       refine hR _ _ (Ext.refl _) ?_ trivial;rfl
      ·intro γ w' he hf;clear hf;refine⟨trivial,?_⟩;intro R hR
       go_simp;exact hR _ _ ((Ext.refl _).alloc _) rfl (AZ.mk (Nat.le_trans Ac he.size) (by simp[Ag]))
     case hmono1 =>
      exact⟨⟨⟨⟨⟨⟨⟨⟨⟨⟨⟨⟨⟨⟨⟨trivial,(fun γ wA w' e h=>h)⟩,(fun γ wA w' e h=>h)⟩,(fun γ wA w' e h=>h)⟩,(fun γ wA w' e h=>h)⟩,(fun γ wA w' e h=>h)⟩,(fun γ wA w' e h=>h)⟩,(fun γ wA w' e h=>h)⟩,(fun γ wA w' e h=>h)⟩,(fun γ wA w' e h=>h)⟩,(fun γ wA w' e h=>(show AO wA (γ 9) (ld G).num from h).ext e)⟩,(fun γ wA w' e h=>(show F9 wA (γ 10) z 0 from h).ext e)⟩,(fun γ wA w' e h=>h)⟩,(fun γ w w' e h=>AO.ext_ h e)⟩,(fun γ wA w' e h=>h)⟩,(fun γ wA w' e h=>(show AZ wA (γ 14) wr.heap.size #[.bool false,.slice none 0 0] 26 from h).ext e)⟩
     case hlate1 =>
      intro Pn hPs hPn;obtain rfl:=Gn hPs hPn;clear hPs hPn
      ·intro γ w3 hx3 hF hA
       clear hA;have p9:AO w3 (γ 9) (ld G).num:=(AA.get hF 9 Ab).resolve_left Ab;have p10:F9 w3 (γ 10) z 0:=(AA.get hF 10 Ab).resolve_left Ab;have p12:AO w3 (γ 12) z:=(AA.get hF 12 Ab).resolve_left Ab;have p14:AZ w3 (γ 14) wr.heap.size #[.bool false,.slice none 0 0] 26:=(AA.get hF 14 Ab).resolve_left Ab;clear hF;show AC _ _ _ _ 3 [13] 15 _ _;simp only[Bf,Nat.reduceAdd,Ck,Array.getD_eq_getD_getElem?,List.getElem?_toArray,List.getElem?_cons_succ,List.getElem?_cons_zero,Option.getD_some]
       generalize γ 9=g9 at *;generalize γ 10=g10 at *;generalize γ 12=g12 at *;generalize γ 14=g14 at *;clear γ;obtain⟨a10,rfl,-⟩:=p10;obtain⟨gc,rfl,hgc,ec⟩:=p14;obtain⟨b5,A5,n5,c5,rfl⟩:=p12.cells;clear cr0 cr1 p9 hLP;obtain⟨cec0,cec1⟩:=ec.cells2;have fec:=ec.frozen;refine AC.mk 2 ⟨?_,trivial⟩ (fun _=>?_)
       ·simp only[Bb,List.toList_toArray,List.drop_succ_cons,List.drop_zero,List.take_succ_cons,List.take_zero]
        go_wp2;show AC _ _ _ _ _ [] _ _ _;refine AC.nil ?_;simp only[List.toList_toArray,List.drop_succ_cons,List.drop_zero];go_wp2;skip;obtain⟨W4,eW,ec',U⟩:=ec.put2 (.bool b5) (.slice A5 n5 c5) rfl rfl;rw[←eW];clear eW ec;replace p12:=p12.kd U.kd;replace hx3:=U.from_ hx3 Ai;have ec:=ec';clear U ec'
        go_meet
        case rel=>exact⟨gc,rfl,rfl,Bg.mk ec p12,hgc,hx3⟩
       ·simp only[Bb,List.toList_toArray,List.drop_succ_cons,List.drop_zero,List.take_succ_cons,List.take_zero]
        go_wp2;refine AC.mk 1 ⟨?_,trivial⟩ (fun h=>by cases(show false=true from h))
        ·simp only[Bb,List.toList_toArray,List.drop_succ_cons,List.drop_zero,List.take_succ_cons,List.take_zero]
         go_wp2;show AC _ _ _ _ _ [] _ _ _;refine AC.nil ?_;simp only[List.toList_toArray,List.drop_succ_cons,List.drop_zero];go_wp2;skip;obtain⟨W4,eW,ec',U⟩:=ec.put2 (.bool b5) (.slice A5 n5 c5) rfl rfl;rw[←eW];clear eW ec;replace p12:=p12.kd U.kd;replace hx3:=U.from_ hx3 Ai;have ec:=ec';clear U ec'
         go_meet
         case rel=>exact⟨gc,rfl,rfl,Bg.mk ec p12,hgc,hx3⟩
     intro γ w3 hx3 hF hA;clear hA;have p9:AO w3 (γ 9) (ld G).num:=AA.get hF 9 Ab;have p10:F9 w3 (γ 10) z 0:=AA.get hF 10 Ab;have p12:AO w3 (γ 12) z:=AA.get hF 12 Ab;have p14:AZ w3 (γ 14) wr.heap.size #[.bool false,.slice none 0 0] 26:=AA.get hF 14 Ab;clear hF;simp only[Bf,Nat.reduceAdd];generalize γ 9=g9 at *;generalize γ 10=g10 at *;generalize γ 12=g12 at *;generalize γ 14=g14 at *;clear γ;obtain⟨a10,rfl,-⟩:=p10
     obtain⟨gc,rfl,hgc,ec⟩:=p14;obtain⟨b5,A5,n5,c5,rfl⟩:=p12.cells;clear cr0 cr1 p9 hLP;obtain⟨cec0,cec1⟩:=ec.cells2;have fec:=ec.frozen;go_wp2;skip;obtain⟨W4,eW,ec',U⟩:=ec.put2 (.bool b5) (.slice A5 n5 c5) rfl rfl;rw[←eW];clear eW ec;replace p12:=p12.kd U.kd;replace hx3:=U.from_ hx3 Ai;have ec:=ec';clear U ec'
     go_meet
     case rel=>exact⟨gc,rfl,rfl,Bg.mk ec p12,hgc,hx3⟩
    case rest =>
     clear cr0 cr1 hLP;obtain⟨gc,rfl,rfl,⟨b,B,bn,bc,e8,hb⟩,hgc,hx3⟩:=hcut;have hgq:=eq.lt;have hgr:=er.lt;have hgg:=eg.lt;replace er:=er.ext hx3;replace eq:=eq.ext hx3;replace eg:=eg.ext hx3;replace hx:=hx.trans hx3;clear hx3;have hzk:Q k=0:=HR.out.1 k Aa;have hzv:R (k+pl G - 1)=(z:Rat)*ld G:=by
      rw[←HQ.out.2.2,HD.out.2.2,HD.out.2.1];exact HR.out.yes HX.out.2.2.2.1 (by rw[←HD.out.2.1];exact HD.out.1)
     have HZ:=Ad (show EJ F G K s t k (pad Q (mono k (z:Rat))) (psb R (cv (mono k (z:Rat)) G))∧Q k=0∧sz z.natAbs≤1099511627776∧(∀ j,sz (z*(G j).num).natAbs≤1099511627776)∧∀ n,sz (R n).num.natAbs≤1099511627776 from by
      have hl:=D8 HX.out.2.2.1 HX.out.2.2.2.2.1;have h1:qsz (z:Rat)≤qsz (R (k+pl G - 1)):=Nu hl (HX.out.2.2.2.1 _) hzv;have h2:=HR.out.2.2.2.2.2.2 (k+pl G - 1);have h3:=HB.out.1 _ (show K - (k+1)≤K by omega) _ h2;have h4:sz z.natAbs≤qsz (z:Rat):=by rw[Bi];omega
      refine⟨HR.out.step HX.out.2.2.1 HX.out.2.2.2.2.1 HX.out.2.2.2.1 HX.out.2.2.2.2.2.2.2.2 hkK hzv,hzk,Aa,fun j=>?_,HQ.out.1⟩;have h5:=Fq (x:=z) (y:=(G j).num) h4 (HB.out.2.2.1 j);omega)
     clear hzk hzv;have Hb:=Ad hb;clear hb;have hkl:k < (Dq K Q).length:=by rw[AY];exact hkK
     have Hkl:=Ad hkl;obtain⟨ce80,ce81⟩:=e8.cells2;have fe8:=e8.frozen;obtain⟨_,_,_,_,ca0,ca1,-⟩:=eq.at_ (j:=k) (by first | omega | (simp;omega));have fa0:=eq.frozen (k*2);have fa1:=eq.frozen (k*2+1);clear hkl;go_wp2;have hkl:=Hkl.out;have hb:=Hb.out;obtain⟨W7,eW,eq',U⟩:=eq.put (k:=k) (by first | omega | (simp;omega)) hb;rw[←eW];clear eW eq;replace hb:=hb.kd U.kd;replace er:=er.upd U Ai;replace eg:=eg.upd U Ai
     replace e8:=e8.upd U Ai;replace hx:=U.from_ hx Ai;have eq:=eq';clear U eq';rw[PK (G:=pad Q (mono k (z:Rat))) (fun n=>Wx HR.out.2.2.2.2.1 HZ.out.2.1 n)]at eq;have ec:=Bg.mk e8 hb;clear e8 hb Hb Hkl hkl ce80 ce81 fe8
     go_loopw [57] (fun jv wx=>∃ j:Nat,j≤L∧jv = .int .i64 j∧Cv wx w.heap.size 26 (Dq P (Eg k j (z:Rat) R G))∧Cv wx gq 26 (Dq K (pad Q (mono k (z:Rat))))∧Cv wx gG 26 (Dq L G)∧Bg wx gc 26 z∧Ext w wx) (fun jv _=>L - (intOf jv).toNat)
     case atStart=>exact⟨0,Nat.zero_le _,rfl,by rw[Lc];exact er,eq,eg,ec,hx⟩
     case round =>
      clear er eq eg ec hx;obtain⟨j,hj,rfl,er,eq,eg,ec,hx⟩:=hrel;by_cases hjl:j < L
      ·obtain⟨y1,Y1,yn1,yc1,q0,q1,hy⟩:=eg.at_ (j:=j) (by rw[AY];exact hjl)
       rw[Cf]at hy;have Hy:=Ad hy;clear hy;have hne:=ec.lt;have hne2:=eq.lt
       go_wp2_with fail
       obtain⟨W10,eW10,e10,x10⟩:=Bj.made wr 26 #[.bool y1,.slice Y1 yn1 yc1] (by simp[Ag]);rw[←eW10];clear eW10 q0 q1;have hy:=Hy.out.kd x10.kd;replace er:=er.ext x10;replace eq:=eq.ext x10;replace eg:=eg.ext x10;replace ec:=ec.ext x10;replace hx:=hx.trans x10;clear x10;obtain⟨b,B,bn,bc,e8,hb⟩:=ec;have hij:k+j < P:=by omega
       obtain⟨z1,Z1,zn1,zc1,ca0,ca1,hz⟩:=er.at_ (j:=k+j) (by rw[AY];exact hij);rw[Cf,TD]at hz;obtain⟨rj,hrj⟩:∃ rj,rj=(R (k+j)).num:=⟨_,rfl⟩
       rw[←hrj]at hz;have Hrj:=Ad hrj;clear hrj;have Hz':=Ad (Ak hz (Ak hb hy));clear hz hb hy Hy;obtain⟨ce80,ce81⟩:=e8.cells2;have fe8:=e8.frozen;obtain⟨ce100,ce101⟩:=e10.cells2;have fe10:=e10.frozen
       go_wp2_with fail
       refine Ae 14 [62,63,64,65,66,67,68,69,70,71,72,73,74,75] [[],[],[],[1,2],[],[],[],[5,6],[4,5,6,7],[4,5,6,7,8],[],[],[10,11],[4,5,6,7,8,9,10,11,12],[0,1,2,3,4,5,6,7,8,9,10,11,12,13],[0,1,2,3,4,5,6,7,8,9,10,11,12,13,14]] [6,8,11,9,12] [_,_,_,_,_] [(kv ?_),(kv ?_),(kv ?_),(kv ?_),(kv ?_),(kv ?_),(kv ?_),(kv ?_),(kv ?_),(kv ?_),(kv ?_),(kv ?_),(fun γ=>γ 12),(fun γ=>γ 13)] (fun γ w'=>[True,True,True,True,True,True,True,True,True,True,True,True,AO w' (γ 12) (z*(G j).num),AO w' (γ 13) (rj - z*(G j).num)]) Bn Aj Aj Bo Aj Bl Br ?hstep2 ?_
       case hstep2 =>
        iterate 14 refine⟨?_,?_⟩
        trivial
        iterate 12 focus
         intro γ w' he hf;clear hf;refine⟨by trivial,?_⟩;intro R hR;have hc:=he.cells;have cq0:=he.cell ca0;have cq1:=he.cell ca1;have cq2:=he.cell ce80;have cq3:=he.cell ce81;have cq4:=he.cell ce100;have cq5:=he.cell ce101;go_simp;(try go_ints);(try(rw[if_neg Aa]));(try(rw[if_pos Aa]));(try go_simp);(try go_ints)
         refine hR _ _ (Ext.refl _) ?_ trivial;rfl
        ·intro γ w' he hf;clear hf;refine⟨trivial,?_⟩;intro R hR
         go_simp;exact Bd (DF _ _ _ _ w' ((Hz'.out.2.1.kd he.kd).has HZ.out.2.2.1) ((Hz'.out.2.2.kd he.kd).has (by have h1:=HB.out.2.2.1 j;have h2:=HB.out.2.2.2;omega))) hR
        ·intro γ w' he hf;have f12:AO w' (γ 12) (z*(G j).num):=hf 12 Ab;clear hf;refine⟨trivial,?_⟩;intro R hR
         go_simp;exact Bd (aK _ _ _ _ w' ((Hz'.out.1.kd he.kd).has (by rw[Hrj.out];exact HZ.out.2.2.2.2 _)) (f12.has (HZ.out.2.2.2.1 j))) hR
       intro γ w6 hx6 hF;have p12:AO w6 (γ 12) (z*(G j).num):=AA.get hF 12 Ab;have p13:AO w6 (γ 13) (rj - z*(G j).num):=AA.get hF 13 Ab;clear hF;simp only[Bf,Nat.reduceAdd];generalize γ 12=g12 at *;generalize γ 13=g13 at *;clear γ;have hb:=Hz'.out.2.1.kd hx6.kd;clear p12 Hz' ca0 ca1 ce80 ce81 fe8 ce100 ce101 fe10 e10;replace er:=er.ext hx6;replace eq:=eq.ext hx6;replace eg:=eg.ext hx6;replace e8:=e8.ext hx6
       replace hx:=hx.trans hx6;clear hx6;obtain⟨b5,A5,n5,c5,rfl⟩:=p13.cells;have hkf:k+j < (Dq P (Eg k j (z:Rat) R G)).length:=by rw[AY];exact hij
       have Hkf:=Ad hkf;have Hb:=Ad hb;clear hb;obtain⟨_,_,_,_,ca0,ca1,-⟩:=er.at_ (j:=k+j) (by first | omega | (simp;omega));have fa0:=er.frozen ((k+j)*2);have fa1:=er.frozen ((k+j)*2+1);clear hkf;go_wp2;have hkf:=Hkf.out;have hb:=Hb.out;obtain⟨W9,eW,er',U⟩:=er.put (k:=k+j) (by first | omega | (simp;omega)) p13;rw[←eW];clear eW er;replace hb:=hb.kd U.kd;replace eq:=eq.upd U Ai;replace eg:=eg.upd U Ai
       replace e8:=e8.upd U Ai;replace hx:=U.from_ hx Ai;have er:=er';clear U er'
       go_roundw
       case rel=>exact⟨j+1,Aa,by go_num,by
        rw[Hrj.out,PK (G:=Eg k (j+1) (z:Rat) R G) (fun n=>XK HR.out.2.2.2.2.2.1 HX.out.2.2.2.1 n)]at er;exact er,eq,eg,Bg.mk e8 hb,hx⟩
       case measure=>simp[intOf];omega
      ·obtain rfl:L=j:=by omega
       rw[J8 (AU HX.out.2.2.1 |>.mono (by rw[←HP.out.2.1];exact Nat.le_refl _))]at er;go_wp2
       go_roundw
       case rel=>exact⟨k,_,_,Aa,by go_num,er,eq,eg,HZ.out.1,HSP.out.psb (((CX k _).cv (AU HX.out.2.2.1)).mono (by have:=HP.out.2.1;omega)),hx⟩
       case measure=>simp[intOf]<;>omega
   ·have hno:¬ GZ F G:=HR.out.no HX.out.2.2.1 HX.out.2.2.2.2.1 HX.out.2.2.2.1 (by rw[←HQ.out.2.2,←hrv];exact hd)
    have HD:=Ad (Ak hd (Ak hrv hno));clear hd hno
    go_wp2_with fail
    go_cut [9,10] (fun pv ev wx=>∃ gc,pv = .pointer (some ⟨gc,0,none⟩)∧ev = .int .i64 6∧Bg wx gc 26 0∧wr.heap.size≤gc∧Ext wr wx)
    case first =>
     refine Bz 15 [13] (fun x=>16) [36,37,38,39,40,41,42,43,44,45,46,35,47,48,9] [[],[],[],[2],[1,2,3],[1,2,3,4],[0,1,2,3,4,5],[0,1,2,3,4,5,6],[],[8],[0,1,2,3,4,5,6,7,8,9],[0,1,2,3,4,5,6,7,8,9,10],[0,1,2,3,4,5,6,7,8,9,10,11],[0,1,2,3,4,5,6,7,8,9,10,11],[],[0,1,2,3,4,5,6,7,8,9,10,11,12,14],[0,1,2,3,4,5,6,7,8,9,10,11,12,13,14,15]] [6,8,1] [_,_,_] [(kv ?_),(kv ?_),(kv ?_),(kv ?_),(kv ?_),(kv ?_),(kv ?_),(kv ?_),(kv ?_),(fun γ=>γ 9),(fun γ=>γ 10),(fun γ=>γ 10),(fun γ=>γ 12),(kv ?_),(fun γ=>γ 14)] (fun γ w'=>[True,True,True,True,True,True,True,True,True,AO w' (γ 9) (ld G).num,F9 w' (γ 10) 0 6,True,AO w' (γ 12) 0,True,AZ w' (γ 14) wr.heap.size #[.bool false,.slice none 0 0] 26]) Bn Aj Aj Aj Aj Aj Bo Aj Bl ?hmono3 ?hstep3 ?_ ?hlate3
     case hstep3 =>
      iterate 15 refine⟨?_,?_⟩
      trivial
      iterate 9 focus
       intro γ w' he hf;clear hf;refine⟨by trivial,?_⟩;intro R hR;have hc:=he.cells;have cq0:=he.cell cr0;have cq1:=he.cell cr1;go_simp;(try go_ints);(try(rw[if_neg Aa]));(try(rw[if_pos Aa]));(try go_simp);(try go_ints)
       refine hR _ _ (Ext.refl _) ?_ trivial;rfl
      ·intro γ w' he hf;clear hf;refine⟨trivial,?_⟩;intro R hR
       go_simp;exact Bd (OE _ w.heap.size G w' (Hz.out.2.ext he) HX.out.2.2.2.2.1) hR
      ·intro γ w' he hf;have f9:AO w' (γ 9) (ld G).num:=hf 9 Ab;clear hf;refine⟨trivial,?_⟩;intro R hR
       go_simp;exact Bd (Y9 _ _ _ _ w' ((Hz.out.1.kd he.kd).has (by rw[HD.out.2.1];exact HQ.out.1 _)) (f9.has HB.out.2.1) HQ.out.2.1 HD.out.1) hR
      ·intro γ w' he hf;clear hf;refine⟨trivial,?_⟩;intro R hR
       have hc:=he.cells;go_simp
       (try go_ints);(try(rw[if_neg Aa]));(try(rw[if_pos Aa]));(try go_simp);(try go_ints)
       refine hR _ _ (Ext.refl _) ?_ trivial;rfl
      ·intro γ w' he hf;have f10:F9 w' (γ 10) 0 6:=hf 10 Ab;clear hf;refine⟨trivial,?_⟩;intro R hR
       obtain⟨a,e,ha⟩:=f10;go_simp;exact hR _ _ (Ext.refl _) rfl ha
      ·intro γ w' he hf;have f10:F9 w' (γ 10) 0 6:=hf 10 Ab;clear hf;refine⟨trivial,?_⟩;intro R hR
       obtain⟨a,e,ha⟩:=f10;have hc:=he.cells;go_simp
       (try go_ints);(try(rw[if_neg Aa]));(try(rw[if_pos Aa]));(try go_simp);(try go_ints)
       refine hR _ _ (Ext.refl _) ?_ trivial;rfl
      ·intro γ w' he hf;clear hf;refine⟨trivial,?_⟩;intro R hR
       go_simp;exact hR _ _ ((Ext.refl _).alloc _) rfl (AZ.mk (Nat.le_trans Ac he.size) (by simp[Ag]))
     case hmono3 =>
      exact⟨⟨⟨⟨⟨⟨⟨⟨⟨⟨⟨⟨⟨⟨⟨trivial,(fun γ wA w' e h=>h)⟩,(fun γ wA w' e h=>h)⟩,(fun γ wA w' e h=>h)⟩,(fun γ wA w' e h=>h)⟩,(fun γ wA w' e h=>h)⟩,(fun γ wA w' e h=>h)⟩,(fun γ wA w' e h=>h)⟩,(fun γ wA w' e h=>h)⟩,(fun γ wA w' e h=>h)⟩,(fun γ wA w' e h=>(show AO wA (γ 9) (ld G).num from h).ext e)⟩,(fun γ wA w' e h=>(show F9 wA (γ 10) 0 6 from h).ext e)⟩,(fun γ wA w' e h=>h)⟩,(fun γ w w' e h=>AO.ext_ h e)⟩,(fun γ wA w' e h=>h)⟩,(fun γ wA w' e h=>(show AZ wA (γ 14) wr.heap.size #[.bool false,.slice none 0 0] 26 from h).ext e)⟩
     case hlate3 =>
      intro Pn hPs hPn;obtain rfl:=Gn hPs hPn;clear hPs hPn
      ·intro γ w3 hx3 hF hA
       clear hA;have p9:AO w3 (γ 9) (ld G).num:=(AA.get hF 9 Ab).resolve_left Ab;have p10:F9 w3 (γ 10) 0 6:=(AA.get hF 10 Ab).resolve_left Ab;have p12:AO w3 (γ 12) 0:=(AA.get hF 12 Ab).resolve_left Ab;have p14:AZ w3 (γ 14) wr.heap.size #[.bool false,.slice none 0 0] 26:=(AA.get hF 14 Ab).resolve_left Ab;clear hF;show AC _ _ _ _ 3 [13] 15 _ _;simp only[Bf,Nat.reduceAdd,Ck,Array.getD_eq_getD_getElem?,List.getElem?_toArray,List.getElem?_cons_succ,List.getElem?_cons_zero,Option.getD_some]
       generalize γ 9=g9 at *;generalize γ 10=g10 at *;generalize γ 12=g12 at *;generalize γ 14=g14 at *;clear γ;obtain⟨a10,rfl,-⟩:=p10;obtain⟨gc,rfl,hgc,ec⟩:=p14;obtain⟨b5,A5,n5,c5,rfl⟩:=p12.cells;clear cr0 cr1 p9 hLP;obtain⟨cec0,cec1⟩:=ec.cells2;have fec:=ec.frozen;refine AC.mk 2 ⟨?_,trivial⟩ (fun _=>?_)
       ·simp only[Bb,List.toList_toArray,List.drop_succ_cons,List.drop_zero,List.take_succ_cons,List.take_zero]
        go_wp2;show AC _ _ _ _ _ [] _ _ _;refine AC.nil ?_;simp only[List.toList_toArray,List.drop_succ_cons,List.drop_zero];go_wp2;skip;obtain⟨W4,eW,ec',U⟩:=ec.put2 (.bool b5) (.slice A5 n5 c5) rfl rfl;rw[←eW];clear eW ec;replace p12:=p12.kd U.kd;replace hx3:=U.from_ hx3 Ai;have ec:=ec';clear U ec'
        go_meet
        case rel=>exact⟨gc,rfl,rfl,Bg.mk ec p12,hgc,hx3⟩
       ·simp only[Bb,List.toList_toArray,List.drop_succ_cons,List.drop_zero,List.take_succ_cons,List.take_zero]
        go_wp2;refine AC.mk 1 ⟨?_,trivial⟩ (fun h=>by cases(show false=true from h))
        ·simp only[Bb,List.toList_toArray,List.drop_succ_cons,List.drop_zero,List.take_succ_cons,List.take_zero]
         go_wp2;show AC _ _ _ _ _ [] _ _ _;refine AC.nil ?_;simp only[List.toList_toArray,List.drop_succ_cons,List.drop_zero];go_wp2;skip;obtain⟨W4,eW,ec',U⟩:=ec.put2 (.bool b5) (.slice A5 n5 c5) rfl rfl;rw[←eW];clear eW ec;replace p12:=p12.kd U.kd;replace hx3:=U.from_ hx3 Ai;have ec:=ec';clear U ec'
         go_meet
         case rel=>exact⟨gc,rfl,rfl,Bg.mk ec p12,hgc,hx3⟩
     intro γ w3 hx3 hF hA;clear hA;have p9:AO w3 (γ 9) (ld G).num:=AA.get hF 9 Ab;have p10:F9 w3 (γ 10) 0 6:=AA.get hF 10 Ab;have p12:AO w3 (γ 12) 0:=AA.get hF 12 Ab;have p14:AZ w3 (γ 14) wr.heap.size #[.bool false,.slice none 0 0] 26:=AA.get hF 14 Ab;clear hF;simp only[Bf,Nat.reduceAdd];generalize γ 9=g9 at *;generalize γ 10=g10 at *;generalize γ 12=g12 at *;generalize γ 14=g14 at *;clear γ;obtain⟨a10,rfl,-⟩:=p10
     obtain⟨gc,rfl,hgc,ec⟩:=p14;obtain⟨b5,A5,n5,c5,rfl⟩:=p12.cells;clear cr0 cr1 p9 hLP;obtain⟨cec0,cec1⟩:=ec.cells2;have fec:=ec.frozen;go_wp2;skip;obtain⟨W4,eW,ec',U⟩:=ec.put2 (.bool b5) (.slice A5 n5 c5) rfl rfl;rw[←eW];clear eW ec;replace p12:=p12.kd U.kd;replace hx3:=U.from_ hx3 Ai;have ec:=ec';clear U ec'
     go_meet
     case rel=>exact⟨gc,rfl,rfl,Bg.mk ec p12,hgc,hx3⟩
    case rest =>
     clear cr0 cr1 hLP;obtain⟨gc,rfl,rfl,-,-,hx3⟩:=hcut;go_wp2
     go_ret2
     exact Ah.mk ⟨fun h=>absurd h HD.out.2.2,fun _=>rfl⟩ (hx.trans hx3)
  ·obtain rfl:i=0:=by omega
   have hm1:((0:Nat):Int) - 1 = -1:=by omega
   rw[hm1];have hfR:=HR.out.fin;have hcR:cz (Dq P R)=R:=EC HR.out.2.2.2.2.2.1 HSP.out;have hend:=HR.out.end_ HX.out.1 HX.out.2.2.1 HX.out.2.2.2.2.1;have hout:=HR.out.out HX.out.1 HX.out.2.2.1 HX.out.2.2.2.2.1;have hcQ:cz (Dq K Q)=Q:=EC hend.2.2.2 hend.2.2.1;have hT2:=El w.heap.size (some ⟨w.heap.size,0,none⟩) l.length (Dq P R) wr (by rw[AY];exact hc1) Aa (er.row (Nat.le_refl _));have hT1:=El w.heap.size (some ⟨gq,0,none⟩) K (Dq K Q) wr (by rw[AY];exact Nat.le_refl _) Aa (eq.row Aa)
   rw[AY]at hT1 hT2;rw[GQ,hcR]at hT2;have HE:=Ad (Ak (eq.row (base:=w.heap.size) Aa) (Ak hcQ (Ak hend (Ak hout hfR))));clear er eq eg hm1 hcR hcQ hend hout hfR
   go_wp2_with fail
   refine Calls.mono hT2 ?_;rintro e w3 ⟨rfl,rfl⟩;by_cases hz:R=pz
   ·have h0:pl R=0:=by rw[hz,Ca]
    have hyes:=HE.out.2.2.2.1.2 hz;have HY:=Ad hyes;clear hz hyes;rw[h0]
    go_wp2_with fail
    refine Calls.mono hT1 ?_;rintro e w3 ⟨rfl,rfl⟩;go_wp2
    go_ret2
    exact Ah.mk ⟨fun _=>⟨_,rfl,by
     rw[←HE.out.2.2.1.1];exact AP.of_trim (LG.trim HE.out.1 (by rw[AY];exact Nat.le_refl _) Aa) HE.out.2.1⟩,fun h=>absurd HY.out h⟩ hx
   ·have h0:0 < pl R:=Be HE.out.2.2.2.2 hz
    have hno:¬ GZ F G:=fun h=>hz (HE.out.2.2.2.1.1 h);have HY:=Ad hno;clear hz hno;go_wp2
    go_ret2
    exact Ah.mk ⟨fun h=>absurd h HY.out,fun _=>rfl⟩ hx
theorem Vb(v u:Value)(F G:Nat→Rat)(s t:Nat)(w:World)(hv:AP 0 w v F)(hu:AP 0 w u G)(hs:∀ i,qsz (F i)≤s)(ht:∀ i,qsz (G i)≤t)(hn:pl F≤549755813888)(hm:pl G≤549755813888)(h0:G≠pz)(hst:s+(pl F+2)*(t+1)+t≤1099511627776) :
  Bh 88 #[v,u] w ((aR w.heap.size F G)):=by
 obtain⟨l,h1,h2,-,rfl⟩:=hv.hz (fun i=>by have:=hs i;omega);obtain⟨m,k1,k2,-,rfl⟩:=hu.hz (fun i=>by have:=ht i;omega);exact UL v u l m s t w h1 k1 hs ht Aa Aa h0 (by rw[h2];exact hst)
end Go.Proofs.YtmhgnigpmompmaaGreat
namespace Go.Hp
open Go.RowKit
theorem AO.inj{w:World}{v:Value}{x y:Int}(h:AO w v x)(k:AO w v y):x=y:=by
 obtain⟨n,ds,⟨s,rfl,hd⟩,rfl,-⟩:=h;obtain⟨m,es,⟨t,e,he⟩,rfl,-⟩:=k;cases e;rw[hd.uniq he]
theorem Bg.inj{w:World}{g:Nat}{t:TypeId}{x y:Int}(h:Bg w g t x)(k:Bg w g t y):x=y:=by
 obtain⟨b,A,n,c,h1,h2⟩:=h;obtain⟨b',A',n',c',k1,k2⟩:=k;have e:=h1.1.symm.trans k1.1;cases e;exact h2.inj k2
noncomputable def gP(w:World)(g:Nat)(t:TypeId):Nat:=open Classical in if h:∃ x,Bg w g t x then(Classical.choose h).natAbs else 0
theorem L8{w:World}{g:Nat}{t:TypeId}{x:Int}(h:Bg w g t x):gP w g t=x.natAbs:=by
 have hx:∃ x,Bg w g t x:=⟨x,h⟩
 unfold gP;rw[dif_pos hx,(Classical.choose_spec hx).inj h]
theorem Gc(n:Nat):sz ((2:Int)^n).natAbs≤1+n:=by
 have:=Gf 2 1 Ab n;omega
theorem QF(i:Nat)(hi:i < 9223372036854775808):bits BinOp.and IntKind.i64 (i:Int) 1=((i % 2:Nat):Int):=Go.Proofs.and_one i hi
theorem PY{x y z:Int}(h:x*y=z)(hy:y≠0:=by decide):sz x.natAbs≤sz z.natAbs:=by
 refine Bp ?_;rw[←h,Int.natAbs_mul];exact Nat.le_mul_of_pos_right _ Aa
theorem Vk(n j:Nat):(2:Int)^(n / 2^(j+1))*2^(n / 2^(j+1))*(if n / 2^j % 2=1 then 2 else 1)=2^(n / 2^j):=by
 have e:n / 2^(j+1)=n / 2^j / 2:=by rw[Nat.pow_succ,Nat.div_div_eq_div_mul]
 rw[e];generalize n / 2^j=m
 split
 ·rename_i h
  rw[←Int.pow_add,←Int.pow_succ];congr 1;omega
 ·rename_i h
  rw[←Int.pow_add,Int.mul_one];congr 1;omega
end Go.Hp
namespace Go.Proofs.YtmhgnigpmompmaaGreat
open Go.RowKit Go.Hp
set_option maxRecDepth 20000 in
theorem RV(v:Value)(n:Nat)(w:World)(hv:Bu w v 2)(hn:n < 65536):Bh 176 #[v,.int .i64 (n:Nat)] w (fun r w'=>F9 w' r (2^n) 0):=by
 have HV:=Ad hv;obtain⟨b1,A1,n1,c1,rfl⟩:=hv.cells;clear hv;have hL:=Lib.bitLen_le n 16 Ab Aa;have HL:=Ad (Gq n n (Nat.le_refl _) Aa).1
 go_enter Tryz.func176,Tryz.ntmps176
 go_wp2_with fail
 refine AL (Ta _ 2 _ (HV.out.ext (((Ext.refl w).alloc _).alloc _))) ?_;rintro r1 w1 ⟨b,rfl,hb⟩ hx1;obtain rfl:b=2:=hb.uniq ⟨Ab,fun _=>Ab⟩;clear hb;have ea:=((Bj.new w 26 #[.bool b1,.slice A1 n1 c1] (by simp[Ag])).alloc (.cells #[.bool false,.slice none 0 0] 26)).ext hx1;have ez:=(Bj.new (w.alloc (.cells #[.bool b1,.slice A1 n1 c1] 26)) 26 #[.bool false,.slice none 0 0] (by simp[Ag])).ext hx1;rw[World.size_alloc]at ez
 have hx:=hx1.a2;clear hx1
 go_wp2_with fail
 refine AL (Jv 1 _ Aa Aa) ?_;rintro r2 w2 hr2 hx2;obtain⟨b5,A5,n5,c5,rfl⟩:=hr2.cells;replace ea:=ea.ext hx2;replace ez:=ez.ext hx2;obtain⟨W0,eW,eb,x0⟩:=Bj.made w2 26 #[.bool b5,.slice A5 n5 c5] (by simp[Ag]);have hb:=hr2.kd x0.kd;replace ea:=ea.ext x0;have hgb:=ez.lt;replace ez:=ez.ext x0;replace hx:=(hx.trans hx2).trans x0;have Hb:=Ad hb;clear hr2 hb hx2
 go_wp2_with (go_at_call 190;refine(VW _ _ Aa).mono ?_;rintro e w' ⟨rfl,rfl⟩)
 rw[←eW];clear eW x0;generalize w2.heap.size=gb at *
 go_loopw [8] (fun iv wr=>∃ (j:Nat),j≤Lib.bitLen n∧iv = .int .i64 ((j:Int) - 1)∧Bj wr w.heap.size 26 #[.bool b1,.slice A1 n1 c1]∧Bj wr (w.heap.size+1) 26 #[.bool false,.slice none 0 0]∧Bg wr gb 26 (2^(n / 2^j))∧Ext w wr) (fun iv _=>(intOf iv+1).toNat)
 case atStart=>exact⟨Lib.bitLen n,Nat.le_refl _,rfl,ea,ez,by rw[Nat.div_eq_of_lt HL.out];exact Bg.mk eb Hb.out,hx⟩
 case round =>
  clear ea ez eb hx Hb;obtain⟨j,hj,rfl,ea,ez,⟨b6,A6,n6,c6,eb,hb⟩,hx⟩:=hrel;have Hb:=Ad hb;clear hb;rcases j with _ | j
  ·have e1:(((0:Nat):Int) - 1) = -1:=rfl
   rw[e1];clear e1;obtain⟨cez0,cez1⟩:=ez.cells2;have fez:=ez.frozen;obtain⟨ceb0,ceb1⟩:=eb.cells2;have feb:=eb.frozen;have hr:=Hb.out;go_wp2;obtain⟨W3,eW,ez',U⟩:=ez.put2 (.bool b6) (.slice A6 n6 c6) rfl rfl;rw[←eW];clear eW ez;replace hr:=hr.kd U.kd;replace hx:=U.from_ hx Ai;have ez:=ez';clear U ez';clear cez0 cez1 fez;obtain⟨cez0,cez1⟩:=ez.cells2;have fez:=ez.frozen;refine bodyPost_ret (v := .tuple #[.agg #[.bool b6,.slice A6 n6 c6],.int .i64 0]) (by simp[results,Tryz.results176,go_sem,cez0,cez1]) rfl ?_
   exact Ah.mk ⟨_,rfl,by simpa using hr⟩ hx
  ·have e1:(((j+1:Nat):Int) - 1)=(j:Nat):=by omega
   rw[e1];clear e1;have hsz:∀ m,m≤n→sz ((2:Int)^m).natAbs≤100000:=fun m hm=>by have:=Gc m;omega
   have hd1:n / 2^(j+1)≤n:=Nat.div_le_self _ _;have hd2:n / 2^j≤n:=Nat.div_le_self _ _;have HS:=Ad (Ak (hsz _ hd1) (Ak (hsz _ hd2) (Vk n j)));clear hsz hd1 hd2;obtain⟨ceb0,ceb1⟩:=eb.cells2;have feb:=eb.frozen
   go_wp2_with fail
   refine AL (DF _ _ _ _ _ (Hb.out.has (by have:=HS.out.1;omega)) (Hb.out.has (by have:=HS.out.1;omega))) ?_;rintro r2 w2 hr2 hx2;obtain⟨b7,A7,n7,c7,rfl⟩:=hr2.cells;clear Hb ceb0 ceb1 feb;replace ea:=ea.ext hx2;replace ez:=ez.ext hx2;replace eb:=eb.ext hx2;replace hx:=hx.trans hx2;clear hx2;obtain⟨ceb0,ceb1⟩:=eb.cells2;have feb:=eb.frozen
   go_upto_region 13 with(fail)
   obtain⟨W3,eW,eb',U⟩:=eb.put2 (.bool b7) (.slice A7 n7 c7) rfl rfl;rw[←eW];clear eW eb;replace hr2:=hr2.kd U.kd;replace ea:=ea.upd U Ai;replace ez:=ez.upd U Ai;replace hx:=U.from_ hx Ai;have eb:=eb';clear U eb';have Hb:=Ad hr2;clear hr2;obtain⟨q,hq⟩:∃ q,q=n / 2^j:=⟨_,rfl⟩
   have hqi:(n:Int) / 2^j=(q:Nat):=by rw[hq];simp
   have hq9:q≤n:=by rw[hq];exact Nat.div_le_self _ _
   have hbit:=QF q Aa;have Hq:=Ad HS.out.2;rw[←hq]at Hq;have HQ:=Ad hq;clear HS hq;by_cases hodd:q % 2=1
   ·rw[hodd]at hbit
    have hp:=Hq.out.2;rw[if_pos hodd]at hp;have Hp:=Ad hp;clear hp hodd;obtain⟨cea0,cea1⟩:=ea.cells2;have fea:=ea.frozen;obtain⟨ceb0,ceb1⟩:=eb.cells2;have feb:=eb.frozen
    go_wp2_with fail
    refine AL (DF _ _ _ 2 _ (Hb.out.has (Nat.le_trans (PY Hp.out) (by have:=Hq.out.1;omega))) (HV.out.ext hx)) ?_;rintro r4 w4 hr4 hx4;rw[Hp.out]at hr4;obtain⟨b8,A8,n8,c8,rfl⟩:=hr4.cells;clear Hb cea0 cea1 fea ceb0 ceb1 feb;replace ea:=ea.ext hx4;replace ez:=ez.ext hx4;replace eb:=eb.ext hx4;replace hx:=hx.trans hx4;clear hx4;obtain⟨ceb0,ceb1⟩:=eb.cells2;have feb:=eb.frozen;go_wp2;obtain⟨W5,eW,eb',U⟩:=eb.put2 (.bool b8) (.slice A8 n8 c8) rfl rfl
    rw[←eW];clear eW eb;replace hr4:=hr4.kd U.kd;replace ea:=ea.upd U Ai;replace ez:=ez.upd U Ai;replace hx:=U.from_ hx Ai;have eb:=eb';clear U eb'
    go_roundw
    case rel=>exact⟨j,Aa,by go_num,ea,ez,by rw[←HQ.out];exact Bg.mk eb hr4,hx⟩
    case measure=>simp[intOf]<;>omega
   ·rw[show q % 2=0 by omega]at hbit
    have hp:=Hq.out.2;rw[if_neg hodd,Int.mul_one]at hp;have hr4:=Hb.out;rw[hp]at hr4;clear hp Hb Hq;go_wp2
    go_roundw
    case rel=>exact⟨j,Aa,by go_num,ea,ez,by rw[←HQ.out];exact Bg.mk eb hr4,hx⟩
    case measure=>simp[intOf]<;>omega
end Go.Proofs.YtmhgnigpmompmaaGreat

namespace Go.Hp
open Go.RowKit
theorem BL.ex(n:Nat):∃ b,BL n b:=by
 induction n using Nat.strongRecOn with
 | _ n ih =>
  rcases Nat.eq_zero_or_pos n with h | h
  ·subst h;exact⟨0,BL.zero⟩
  ·obtain⟨b,h1,h2⟩:=ih (n / 2) Aa
   refine⟨b+1,by rw[Nat.pow_succ];omega,fun _=>?_⟩;rw[Nat.add_sub_cancel];rcases b with _ | b
   ·simp;omega
   ·have:=h2 Aa
    rw[Nat.add_sub_cancel]at this;rw[Nat.pow_succ];omega
def jI(w:World)(r:Value):Prop:=∃ (r0:Value) (x:Int) (b:Bool),r = .tuple #[r0,.bool b,.int .i64 0]∧AO w r0 x∧0 < x∧sz x.natAbs≤20000
def bZ(t v:Value):Prop:=∃ a e,t = .tuple #[a,v,e]
theorem Sk{a x:Int}(ha:0 < a)(hx:0 < x):0 < (x+a / x) / 2:=by
 have h1:0≤a / x:=Int.ediv_nonneg Aa Aa;rcases Int.lt_or_le 1 x with h | h
 ·omega
 ·have:x=1:=by omega
  subst this;rw[Int.ediv_one];omega
end Go.Hp
namespace Go.Proofs.YtmhgnigpmompmaaGreat
open Go.RowKit Go.Hp
theorem Y3{x y:Int}{v:Value}{w w':World}(h:MZ x y v w)(e:Ext w w'):MZ x y v w':=by
 obtain⟨a,b,h1,h2,h3⟩:=h;exact⟨a,b,h1,h2.ext_ e,h3.ext_ e⟩
set_option maxRecDepth 20000 in
theorem Yv(v:Value)(Y:Int)(w:World)(hv:Bu w v Y)(h0:0 < Y)(hs:sz Y.natAbs≤1000):Bh 175 #[v] w (fun r w'=>jI w' r):=by
 have HV:=Ad hv;obtain⟨b1,A1,n1,c1,rfl⟩:=hv.cells;clear hv;obtain⟨b,hb⟩:=BL.ex Y.natAbs;have hb9:b≤32000:=by have:=hb.sz;omega
 obtain⟨k,hk⟩:∃ k,k=(b+1) / 2:=⟨_,rfl⟩
 have hk9:k≤16001:=by omega
 have hki:(((b:Nat):Int)+1) / 2=(k:Nat):=by omega
 have hbits:∀ W u,Bu W u Y→Bh 174 #[u] W (fun r _=>r = .int .i64 (b:Nat)):=fun W u hu =>
  Ah.imp (Ta u Y W hu) fun _ _ ⟨c,e,h⟩=>by rw[e,h.uniq hb]
 have HB:=Ad hbits;clear hbits hb hk;have HA:=Ad (Ak h0 hs);clear h0 hs
 go_enter Tryz.func175,Tryz.ntmps175
 go_wp2_with fail
 refine AL (IL _ Y _ (HV.out.ext (((Ext.refl w).alloc _).alloc _))) ?_;rintro r1 w1 rfl hx1;rw[Int.sign_eq_one_of_pos HA.out.1];have ea:=((Bj.new w 26 #[.bool b1,.slice A1 n1 c1] (by simp[Ag])).alloc (.cells #[.bool false,.slice none 0 0] 26)).ext hx1;have ez:=(Bj.new (w.alloc (.cells #[.bool b1,.slice A1 n1 c1] 26)) 26 #[.bool false,.slice none 0 0] (by simp[Ag])).ext hx1;rw[World.size_alloc]at ez
 have hx:=hx1.a2;clear hx1;obtain⟨cea0,cea1⟩:=ea.cells2;have fea:=ea.frozen;have hsz1:=ez.lt
 go_wp2_with fail
 go_cut [5,6] (fun xv ev wx=>∃ gc,xv = .pointer (some ⟨gc,0,none⟩)∧ev = .int .i64 0∧Bg wx gc 26 (2^k)∧w.heap.size+1 < gc∧Ext w1 wx)
 case first =>
  refine Bz 10 [8] (fun x=>11) [19,20,21,22,23,24,18,25,26,5] [[],[],[0,1],[0,1,2],[0,1,2,3],[0,1,2,3,4],[0,1,2,3,4,5],[0,1,2,3,4,5,6],[0,1,2,3,4,5,6],[],[0,1,2,3,4,5,6,7,9],[0,1,2,3,4,5,6,7,8,9,10]] [1] [_] [(fun γ=>γ 0),(kv ?_),(kv (.int .i64 (b:Nat))),(kv ?_),(kv ?_),(fun γ=>γ 5),(fun γ=>γ 5),(fun γ=>γ 7),(kv ?_),(fun γ=>γ 9)] (fun γ w'=>[AO w' (γ 0) 2,True,True,True,True,F9 w' (γ 5) (2^k) 0,True,AO w' (γ 7) (2^k),True,AZ w' (γ 9) w1.heap.size #[.bool false,.slice none 0 0] 26]) Bn Aj Aj Aj Aj Aj Bo Aj Bl ?hmono1 ?hstep1 ?_ ?hlate1
  case hstep1 =>
   iterate 10 refine⟨?_,?_⟩
   trivial
   ·intro γ w' he hf;clear hf;refine⟨trivial,?_⟩;intro R hR
    go_simp;exact Bd (Jv 2 w' Aa Aa) hR
   iterate 1 focus
    intro γ w' he hf;clear hf;refine⟨by trivial,?_⟩;intro R hR;have hc:=he.cells;have cq0:=he.cell cea0;have cq1:=he.cell cea1;go_simp;refine hR _ _ (Ext.refl _) ?_ trivial;rfl
   ·intro γ w' he hf;clear hf;refine⟨trivial,?_⟩;intro R hR
    go_simp;exact NJ (HB.out w' _ (HV.out.ext (hx.trans he))) hR
   iterate 2 focus
    intro γ w' he hf;clear hf;refine⟨by trivial,?_⟩;intro R hR;have hc:=he.cells;go_simp;(try go_ints);(try(rw[if_neg Aa]));(try(rw[if_pos Aa]));(try go_simp);(try go_ints)
    refine hR _ _ (Ext.refl _) ?_ trivial;rfl
   ·intro γ w' he hf;have f0:AO w' (γ 0) 2:=hf 0 Ab;clear hf;refine⟨trivial,?_⟩;intro R hR
    go_simp;exact Bd (RV _ k w' (f0.has Ab) Aa) hR
   ·intro γ w' he hf;clear hf;refine⟨trivial,?_⟩;intro R hR
    have hc:=he.cells;go_simp
    (try go_ints);(try(rw[if_neg Aa]));(try(rw[if_pos Aa]));(try go_simp);(try go_ints)
    refine hR _ _ (Ext.refl _) ?_ trivial;rfl
   ·intro γ w' he hf;have f5:F9 w' (γ 5) (2^k) 0:=hf 5 Ab;clear hf;refine⟨trivial,?_⟩;intro R hR
    obtain⟨a,e,ha⟩:=f5;go_simp;exact hR _ _ (Ext.refl _) rfl ha
   ·intro γ w' he hf;have f5:F9 w' (γ 5) (2^k) 0:=hf 5 Ab;clear hf;refine⟨trivial,?_⟩;intro R hR
    obtain⟨a,e,ha⟩:=f5;have hc:=he.cells;go_simp
    (try go_ints);(try(rw[if_neg Aa]));(try(rw[if_pos Aa]));(try go_simp);(try go_ints)
    refine hR _ _ (Ext.refl _) ?_ trivial;rfl
   ·intro γ w' he hf;clear hf;refine⟨trivial,?_⟩;intro R hR
    go_simp;exact hR _ _ ((Ext.refl _).alloc _) rfl (AZ.mk (Nat.le_trans Ac he.size) (by simp[Ag]))
  case hmono1 =>
   exact⟨⟨⟨⟨⟨⟨⟨⟨⟨⟨trivial,(fun γ wA w' e h=>(show AO wA (γ 0) 2 from h).ext e)⟩,(fun γ wA w' e h=>h)⟩,(fun γ wA w' e h=>h)⟩,(fun γ wA w' e h=>h)⟩,(fun γ wA w' e h=>h)⟩,(fun γ wA w' e h=>(show F9 wA (γ 5) (2^k) 0 from h).ext e)⟩,(fun γ wA w' e h=>h)⟩,(fun γ w w' e h=>AO.ext_ h e)⟩,(fun γ wA w' e h=>h)⟩,(fun γ wA w' e h=>(show AZ wA (γ 9) w1.heap.size #[.bool false,.slice none 0 0] 26 from h).ext e)⟩
  case hlate1 =>
   intro Pn hPs hPn;obtain rfl:=Gn hPs hPn;clear hPs hPn
   ·intro γ w2 hx2 hF hA
    clear hA;have p0:AO w2 (γ 0) 2:=(AA.get hF 0 Ab).resolve_left Ab;have p5:F9 w2 (γ 5) (2^k) 0:=(AA.get hF 5 Ab).resolve_left Ab;have p7:AO w2 (γ 7) (2^k):=(AA.get hF 7 Ab).resolve_left Ab;have p9:AZ w2 (γ 9) w1.heap.size #[.bool false,.slice none 0 0] 26:=(AA.get hF 9 Ab).resolve_left Ab;clear hF;show AC _ _ _ _ 3 [8] 10 _ _;simp only[Bf,Nat.reduceAdd,Ck,Array.getD_eq_getD_getElem?,List.getElem?_toArray,List.getElem?_cons_succ,List.getElem?_cons_zero,Option.getD_some]
    generalize γ 0=g0 at *;generalize γ 5=g5 at *;generalize γ 7=g7 at *;generalize γ 9=g9 at *;clear γ;obtain⟨a5,rfl,-⟩:=p5;obtain⟨gc,rfl,hgc,ec⟩:=p9;obtain⟨b5,A5,n5,c5,rfl⟩:=p7.cells;clear cea0 cea1 p0;obtain⟨cec0,cec1⟩:=ec.cells2;have fec:=ec.frozen;refine AC.mk 2 ⟨?_,trivial⟩ (fun _=>?_)
    ·simp only[Bb,List.toList_toArray,List.drop_succ_cons,List.drop_zero,List.take_succ_cons,List.take_zero]
     go_wp2;show AC _ _ _ _ _ [] _ _ _;refine AC.nil ?_;simp only[List.toList_toArray,List.drop_succ_cons,List.drop_zero];go_wp2;skip;obtain⟨W4,eW,ec',U⟩:=ec.put2 (.bool b5) (.slice A5 n5 c5) rfl rfl;rw[←eW];clear eW ec;replace p7:=p7.kd U.kd;replace hx2:=U.from_ hx2 Ai;have ec:=ec';clear U ec'
     go_meet
     case rel=>exact⟨gc,rfl,rfl,Bg.mk ec p7,Aa,hx2⟩
    ·simp only[Bb,List.toList_toArray,List.drop_succ_cons,List.drop_zero,List.take_succ_cons,List.take_zero]
     go_wp2;refine AC.mk 1 ⟨?_,trivial⟩ (fun h=>by cases(show false=true from h))
     ·simp only[Bb,List.toList_toArray,List.drop_succ_cons,List.drop_zero,List.take_succ_cons,List.take_zero]
      go_wp2;show AC _ _ _ _ _ [] _ _ _;refine AC.nil ?_;simp only[List.toList_toArray,List.drop_succ_cons,List.drop_zero];go_wp2;skip;obtain⟨W4,eW,ec',U⟩:=ec.put2 (.bool b5) (.slice A5 n5 c5) rfl rfl;rw[←eW];clear eW ec;replace p7:=p7.kd U.kd;replace hx2:=U.from_ hx2 Ai;have ec:=ec';clear U ec'
      go_meet
      case rel=>exact⟨gc,rfl,rfl,Bg.mk ec p7,Aa,hx2⟩
  intro γ w2 hx2 hF hA;clear hA;have p0:AO w2 (γ 0) 2:=AA.get hF 0 Ab;have p5:F9 w2 (γ 5) (2^k) 0:=AA.get hF 5 Ab;have p7:AO w2 (γ 7) (2^k):=AA.get hF 7 Ab;have p9:AZ w2 (γ 9) w1.heap.size #[.bool false,.slice none 0 0] 26:=AA.get hF 9 Ab;clear hF;simp only[Bf,Nat.reduceAdd];generalize γ 0=g0 at *;generalize γ 5=g5 at *;generalize γ 7=g7 at *;generalize γ 9=g9 at *;clear γ;obtain⟨a5,rfl,-⟩:=p5;obtain⟨gc,rfl,hgc,ec⟩:=p9
  obtain⟨b5,A5,n5,c5,rfl⟩:=p7.cells;clear cea0 cea1 p0;obtain⟨cec0,cec1⟩:=ec.cells2;have fec:=ec.frozen;go_wp2;skip;obtain⟨W4,eW,ec',U⟩:=ec.put2 (.bool b5) (.slice A5 n5 c5) rfl rfl;rw[←eW];clear eW ec;replace p7:=p7.kd U.kd;replace hx2:=U.from_ hx2 Ai;have ec:=ec';clear U ec'
  go_meet
  case rel=>exact⟨gc,rfl,rfl,Bg.mk ec p7,Aa,hx2⟩
 case rest =>
  clear cea0 cea1 fea hsz1;obtain⟨gx,rfl,rfl,ex,hgx,hx2⟩:=hcut;replace ea:=ea.ext hx2;replace ez:=ez.ext hx2;replace hx:=hx.trans hx2;clear hx2;rename_i wx
  go_wp2_with fail
  refine AL (Jv 2 _ Aa Aa) ?_;rintro r3 w3 hr3 hx3;obtain⟨b6,A6,n6,c6,rfl⟩:=hr3.cells;replace ea:=ea.ext hx3;replace ez:=ez.ext hx3;replace ex:=ex.ext hx3;replace hx:=hx.trans hx3;clear hx3;obtain⟨W0,eW,et,x0⟩:=Bj.made w3 26 #[.bool b6,.slice A6 n6 c6] (by simp[Ag]);have ht:=Bg.mk et (hr3.kd x0.kd);have hgt:=ex.lt;replace ea:=ea.ext x0;replace ez:=ez.ext x0;replace ex:=ex.ext x0;replace hx:=hx.trans x0
  clear x0;clear et hr3;go_wp2;rw[←eW];clear eW;generalize w3.heap.size=gt at *
  go_loopw [13] (fun _ wr=>∃ x:Int,0 < x∧sz x.natAbs≤20000∧Bj wr w.heap.size 26 #[.bool b1,.slice A1 n1 c1]∧Bj wr (w.heap.size+1) 26 #[.bool false,.slice none 0 0]∧Bg wr gx 26 x∧Bg wr gt 26 2∧Ext w wr) (fun _ wr=>gP wr gx 26)
  case atStart=>exact⟨2^k,Int.pow_pos Ab,by have:=Gc k;omega,ea,ez,ex,ht,hx⟩
  case round =>
   clear ea ez ex ht hx;obtain⟨x,hx0,hxs,ea,ez,⟨b7,A7,n7,c7,ex,hxz⟩,ht,hx⟩:=hrel;have Hb2:=Ad (L8 (Bg.mk ex hxz));have Hx:=Ad (Ak hx0 hxs);clear hx0 hxs;have Hxz:=Ad hxz;clear hxz;obtain⟨cea0,cea1⟩:=ea.cells2;have fea:=ea.frozen;obtain⟨cex0,cex1⟩:=ex.cells2;have fex:=ex.frozen
   go_wp2_with fail
   refine AL (Kn _ _ Y x _ (HV.out.ext hx) (Hxz.out.has (by have:=Hx.out.2;omega))) ?_;rintro r4 w4 ⟨q0,m0,rfl,hq,hm⟩ hx4;rw[if_neg (by have:=Hx.out.1;omega)];obtain⟨b8,A8,n8,c8,rfl⟩:=hq.cells;obtain⟨b9,A9,n9,c9,rfl⟩:=hm.cells;have HQ:=Ad hq;have HXZ:=Ad (Hxz.out.ext hx4);clear hm hq Hxz cea0 cea1 fea cex0 cex1 fex;replace ea:=ea.ext hx4;replace ez:=ez.ext hx4;replace ex:=ex.ext hx4;replace ht:=ht.ext hx4
   replace hx:=hx.trans hx4;clear hx4;obtain⟨W5,eW5,e8,x5⟩:=Bj.made w4 26 #[.bool b8,.slice A8 n8 c8] (by simp[Ag]);obtain⟨W6,eW6,-,x6⟩:=Bj.made W5 26 #[.bool b9,.slice A9 n9 c9] (by simp[Ag]);replace e8:=e8.ext x6;have x56:=x5.trans x6;have HQ6:=Ad (Ak (HQ.out.ext x56) (HXZ.out.ext x56));clear HQ HXZ;replace ea:=ea.ext x56;replace ez:=ez.ext x56;replace ex:=ex.ext x56;replace ht:=ht.ext x56;replace hx:=hx.trans x56
   clear x56;clear x5 x6
   go_upto_region 6 with(fail)
   rw[←eW5,←eW6];clear eW5 eW6;generalize w4.heap.size=g8 at *;obtain⟨b6,A6,n6,c6,et,htz⟩:=ht;have Htz:=Ad htz;clear htz;have hsum:sz (x+Y / x).natAbs≤30000:=by
    have h1:=Bp (Int.natAbs_add_le x (Y / x));have h2:=Gp x.natAbs (Y / x).natAbs;have h3:=Bp (Int.natAbs_ediv_le_natAbs Y x);have:=Hx.out.2;have:=HA.out.2;omega
   have hq9:sz (Y / x).natAbs≤1000:=Nat.le_trans (Bp (Int.natAbs_ediv_le_natAbs Y x)) HA.out.2;have HS:=Ad (Ak hsum hq9);clear hsum hq9;have hlt6:=ez.lt;obtain⟨cex0,cex1⟩:=ex.cells2;have fex:=ex.frozen;obtain⟨ce80,ce81⟩:=e8.cells2;have fe8:=e8.frozen;obtain⟨cet0,cet1⟩:=et.cells2;have fet:=et.frozen
   go_cut [11,12,13] (fun pv qv ev wx=>∃ gc,pv = .pointer (some ⟨gc,0,none⟩)∧Bg wx gc 26 ((x+Y / x) / 2)∧w.heap.size+1 < gc∧Ext W6 wx)
   case first =>
    refine Bz 11 [7,8] (fun x=>if x=7 then 12 else 13) [36,37,38,39,40,35,41,42,43,11,12] [[],[],[0,1],[],[0,1,2,3],[0,1,2,3,4],[0,1,2,3,4,5],[0,1,2,3,4,5],[0,1,2,3,4,5],[],[],[0,1,2,3,4,5,6,9,10],[0,1,2,3,4,5,6,7,9,10,11],[0,1,2,3,4,5,6,7,8,9,10,11,12]] [5,8,7] [_,_,_] [(kv ?_),(kv ?_),(fun γ=>γ 2),(kv ?_),(fun γ=>γ 4),(fun γ=>γ 4),(fun γ=>γ 6),(fun γ=>γ 7),(kv ?_),(fun γ=>γ 9),(fun γ=>γ 10)] (fun γ w'=>[True,True,AO w' (γ 2) (x+Y / x),True,MZ (x+Y / x) 2 (γ 4) w',True,AO w' (γ 6) ((x+Y / x) / 2),bZ (γ 4) (γ 7),True,AZ w' (γ 9) W6.heap.size #[.bool false,.slice none 0 0] 26,AZ w' (γ 10) W6.heap.size #[.bool false,.slice none 0 0] 26]) Bn Aj Aj Aj Aj Aj Bo Aj Bl ?hmono2 ?hstep2 ?_ ?hlate2
    case hstep2 =>
     iterate 11 refine⟨?_,?_⟩
     trivial
     iterate 2 focus
      intro γ w' he hf;clear hf;refine⟨by trivial,?_⟩;intro R hR;have hc:=he.cells;have cq0:=he.cell cex0;have cq1:=he.cell cex1;have cq2:=he.cell ce80;have cq3:=he.cell ce81;have cq4:=he.cell cet0;have cq5:=he.cell cet1;go_simp;refine hR _ _ (Ext.refl _) ?_ trivial;rfl
     ·intro γ w' he hf;clear hf;refine⟨trivial,?_⟩;intro R hR
      go_simp;exact Bd (ML _ _ x (Y / x) w' ((HQ6.out.2.ext he).has (by have:=Hx.out.2;omega)) ((HQ6.out.1.ext he).has (by have:=HS.out.2;omega))) hR
     iterate 1 focus
      intro γ w' he hf;clear hf;refine⟨by trivial,?_⟩;intro R hR;have hc:=he.cells;have cq0:=he.cell cex0;have cq1:=he.cell cex1;have cq2:=he.cell ce80;have cq3:=he.cell ce81;have cq4:=he.cell cet0;have cq5:=he.cell cet1;go_simp;refine hR _ _ (Ext.refl _) ?_ trivial;rfl
     ·intro γ w' he hf;have f2:AO w' (γ 2) (x+Y / x):=hf 2 Ab;clear hf;refine⟨trivial,?_⟩;intro R hR
      go_simp;exact Bd (Kn _ _ _ 2 w' (f2.has (by have:=HS.out.1;omega)) ((Htz.out.ext he).has Ab)) hR
     ·intro γ w' he hf;clear hf;refine⟨trivial,?_⟩;intro R hR
      have hc:=he.cells;go_simp
      (try go_ints);(try(rw[if_neg Aa]));(try(rw[if_pos Aa]));(try go_simp);(try go_ints)
      refine hR _ _ (Ext.refl _) ?_ trivial;rfl
     ·intro γ w' he hf;have f4:MZ (x+Y / x) 2 (γ 4) w':=hf 4 Ab;clear hf;refine⟨trivial,?_⟩;intro R hR
      obtain⟨q',m',e,ha,hb⟩:=f4;go_simp;exact hR _ _ (Ext.refl _) rfl ha
     ·intro γ w' he hf;have f4:MZ (x+Y / x) 2 (γ 4) w':=hf 4 Ab;clear hf;refine⟨trivial,?_⟩;intro R hR
      obtain⟨q',m',e,ha,hb⟩:=f4;go_simp;exact hR _ _ (Ext.refl _) rfl ⟨_,_,e⟩
     ·intro γ w' he hf;have f4:MZ (x+Y / x) 2 (γ 4) w':=hf 4 Ab;clear hf;refine⟨trivial,?_⟩;intro R hR
      obtain⟨q',m',e,ha⟩:=f4;have hc:=he.cells;go_simp
      (try go_ints);(try(rw[if_neg Aa]));(try(rw[if_pos Aa]));(try go_simp);(try go_ints)
      refine hR _ _ (Ext.refl _) ?_ trivial;rfl
     ·intro γ w' he hf;clear hf;refine⟨trivial,?_⟩;intro R hR
      go_simp;exact hR _ _ ((Ext.refl _).alloc _) rfl (AZ.mk (Nat.le_trans Ac he.size) (by simp[Ag]))
     ·intro γ w' he hf;clear hf;refine⟨trivial,?_⟩;intro R hR
      go_simp;exact hR _ _ ((Ext.refl _).alloc _) rfl (AZ.mk (Nat.le_trans Ac he.size) (by simp[Ag]))
    case hmono2 =>
     exact⟨⟨⟨⟨⟨⟨⟨⟨⟨⟨⟨trivial,(fun γ wA w' e h=>h)⟩,(fun γ wA w' e h=>h)⟩,(fun γ wA w' e h=>(show AO wA (γ 2) (x+Y / x)from h).ext e)⟩,(fun γ wA w' e h=>h)⟩,(fun γ w w' e h=>Y3 h e)⟩,(fun γ wA w' e h=>h)⟩,(fun γ w w' e h=>AO.ext_ h e)⟩,(fun γ w w' e h=>h)⟩,(fun γ wA w' e h=>h)⟩,(fun γ wA w' e h=>(show AZ wA (γ 9) W6.heap.size #[.bool false,.slice none 0 0] 26 from h).ext e)⟩,(fun γ wA w' e h=>(show AZ wA (γ 10) W6.heap.size #[.bool false,.slice none 0 0] 26 from h).ext e)⟩
    case hlate2 =>
     intro Pn hPs hPn;rcases iN hPs hPn with rfl | rfl | rfl<;>clear hPs hPn
     ·intro γ w7 hx7 hF hA
      have na9x10:γ 9≠γ 10:=hA 9 10 Ab Ab Ab Ab Ab ⟨_,_,rfl,rfl⟩ ⟨_,_,rfl,rfl⟩;clear hA;have p2:AO w7 (γ 2) (x+Y / x):=(AA.get hF 2 Ab).resolve_left Ab;have p4:MZ (x+Y / x) 2 (γ 4) w7:=(AA.get hF 4 Ab).resolve_left Ab;have p6:AO w7 (γ 6) ((x+Y / x) / 2):=(AA.get hF 6 Ab).resolve_left Ab;have p9:AZ w7 (γ 9) W6.heap.size #[.bool false,.slice none 0 0] 26:=(AA.get hF 9 Ab).resolve_left Ab;have p10:AZ w7 (γ 10) W6.heap.size #[.bool false,.slice none 0 0] 26:=(AA.get hF 10 Ab).resolve_left Ab
      clear hF;show AC _ _ _ _ 4 [7] 11 _ _;simp only[Bf,Nat.reduceAdd,Ck,Array.getD_eq_getD_getElem?,List.getElem?_toArray,List.getElem?_cons_succ,List.getElem?_cons_zero,Option.getD_some];generalize γ 2=g2 at *;generalize γ 4=g4 at *;generalize γ 6=g6 at *;generalize γ 9=g9 at *;generalize γ 10=g10 at *;clear γ;obtain⟨q4,m4,rfl,ha4,hb4⟩:=p4;obtain⟨bm,Am,nm,cm,rfl⟩:=hb4.cells
      (try(obtain⟨_,_,h7⟩:=p7;cases h7))
      obtain⟨gc,rfl,hgc,ec⟩:=p9;obtain⟨gd,rfl,hgd,ed⟩:=p10;have hcd:gc≠gd:=fun e=>na9x10 (by rw[e]);clear na9x10;obtain⟨bq,Aq,nq,cq,rfl⟩:=p6.cells;clear cex0 cex1 ce80 ce81 cet0 cet1 p2 ha4 hb4;obtain⟨cec0,cec1⟩:=ec.cells2;have fec:=ec.frozen;obtain⟨ced0,ced1⟩:=ed.cells2;have fed:=ed.frozen;refine AC.mk 3 ⟨?_,trivial⟩ (fun _=>?_)
      ·simp only[Bb,List.toList_toArray,List.drop_succ_cons,List.drop_zero,List.take_succ_cons,List.take_zero]
       go_wp2;show AC _ _ _ _ _ [] _ _ _;refine AC.nil ?_;simp only[List.toList_toArray,List.drop_succ_cons,List.drop_zero];go_wp2;skip;obtain⟨W4,eW,ec',U⟩:=ec.put2 (.bool bq) (.slice Aq nq cq) rfl rfl;rw[←eW];clear eW ec;replace p6:=p6.kd U.kd;replace ed:=ed.upd U Ai;replace hx7:=U.from_ hx7 Ai;have ec:=ec';clear U ec';obtain⟨W8,eW,ed',U⟩:=ed.put2 (.bool bm) (.slice Am nm cm) rfl rfl;rw[←eW];clear eW ed
       replace p6:=p6.kd U.kd;replace ec:=ec.upd U Ai;replace hx7:=U.from_ hx7 Ai;have ed:=ed';clear U ed'
       go_meet
       case rel=>exact⟨gc,rfl,Bg.mk ec p6,Aa,hx7⟩
      ·simp only[Bb,List.toList_toArray,List.drop_succ_cons,List.drop_zero,List.take_succ_cons,List.take_zero]
       go_wp2;refine AC.mk 2 ⟨?_,trivial⟩ (fun h=>by cases(show false=true from h))
       ·simp only[Bb,List.toList_toArray,List.drop_succ_cons,List.drop_zero,List.take_succ_cons,List.take_zero]
        go_wp2;show AC _ _ _ _ _ [] _ _ _;refine AC.nil ?_;simp only[List.toList_toArray,List.drop_succ_cons,List.drop_zero];go_wp2;skip;obtain⟨W4,eW,ec',U⟩:=ec.put2 (.bool bq) (.slice Aq nq cq) rfl rfl;rw[←eW];clear eW ec;replace p6:=p6.kd U.kd;replace ed:=ed.upd U Ai;replace hx7:=U.from_ hx7 Ai;have ec:=ec';clear U ec';obtain⟨W8,eW,ed',U⟩:=ed.put2 (.bool bm) (.slice Am nm cm) rfl rfl;rw[←eW];clear eW ed
        replace p6:=p6.kd U.kd;replace ec:=ec.upd U Ai;replace hx7:=U.from_ hx7 Ai;have ed:=ed';clear U ed'
        go_meet
        case rel=>exact⟨gc,rfl,Bg.mk ec p6,Aa,hx7⟩
     ·intro γ w7 hx7 hF hA
      have na9x10:γ 9≠γ 10:=hA 9 10 Ab Ab Ab Ab Ab ⟨_,_,rfl,rfl⟩ ⟨_,_,rfl,rfl⟩;clear hA;have p2:AO w7 (γ 2) (x+Y / x):=(AA.get hF 2 Ab).resolve_left Ab;have p4:MZ (x+Y / x) 2 (γ 4) w7:=(AA.get hF 4 Ab).resolve_left Ab;have p6:AO w7 (γ 6) ((x+Y / x) / 2):=(AA.get hF 6 Ab).resolve_left Ab;have p7:bZ (γ 4) (γ 7):=(AA.get hF 7 Ab).resolve_left Ab;have p9:AZ w7 (γ 9) W6.heap.size #[.bool false,.slice none 0 0] 26:=(AA.get hF 9 Ab).resolve_left Ab
      have p10:AZ w7 (γ 10) W6.heap.size #[.bool false,.slice none 0 0] 26:=(AA.get hF 10 Ab).resolve_left Ab;clear hF;show AC _ _ _ _ 4 [8] 11 _ _;simp only[Bf,Nat.reduceAdd,Ck,Array.getD_eq_getD_getElem?,List.getElem?_toArray,List.getElem?_cons_succ,List.getElem?_cons_zero,Option.getD_some];generalize γ 2=g2 at *;generalize γ 4=g4 at *;generalize γ 6=g6 at *;generalize γ 7=g7 at *;generalize γ 9=g9 at *
      generalize γ 10=g10 at *;clear γ;obtain⟨q4,m4,rfl,ha4,hb4⟩:=p4;obtain⟨bm,Am,nm,cm,rfl⟩:=hb4.cells
      (try(obtain⟨_,_,h7⟩:=p7;cases h7))
      obtain⟨gc,rfl,hgc,ec⟩:=p9;obtain⟨gd,rfl,hgd,ed⟩:=p10;have hcd:gc≠gd:=fun e=>na9x10 (by rw[e]);clear na9x10;obtain⟨bq,Aq,nq,cq,rfl⟩:=p6.cells;clear cex0 cex1 ce80 ce81 cet0 cet1 p2 ha4 hb4;obtain⟨cec0,cec1⟩:=ec.cells2;have fec:=ec.frozen;obtain⟨ced0,ced1⟩:=ed.cells2;have fed:=ed.frozen;refine AC.mk 3 ⟨?_,trivial⟩ (fun _=>?_)
      ·simp only[Bb,List.toList_toArray,List.drop_succ_cons,List.drop_zero,List.take_succ_cons,List.take_zero]
       go_wp2;show AC _ _ _ _ _ [] _ _ _;refine AC.nil ?_;simp only[List.toList_toArray,List.drop_succ_cons,List.drop_zero];go_wp2;skip;obtain⟨W4,eW,ec',U⟩:=ec.put2 (.bool bq) (.slice Aq nq cq) rfl rfl;rw[←eW];clear eW ec;replace p6:=p6.kd U.kd;replace ed:=ed.upd U Ai;replace hx7:=U.from_ hx7 Ai;have ec:=ec';clear U ec';obtain⟨W8,eW,ed',U⟩:=ed.put2 (.bool bm) (.slice Am nm cm) rfl rfl;rw[←eW];clear eW ed
       replace p6:=p6.kd U.kd;replace ec:=ec.upd U Ai;replace hx7:=U.from_ hx7 Ai;have ed:=ed';clear U ed'
       go_meet
       case rel=>exact⟨gc,rfl,Bg.mk ec p6,Aa,hx7⟩
      ·simp only[Bb,List.toList_toArray,List.drop_succ_cons,List.drop_zero,List.take_succ_cons,List.take_zero]
       go_wp2;refine AC.mk 2 ⟨?_,trivial⟩ (fun _=>?_)
       ·simp only[Bb,List.toList_toArray,List.drop_succ_cons,List.drop_zero,List.take_succ_cons,List.take_zero]
        go_wp2;show AC _ _ _ _ _ [] _ _ _;refine AC.nil ?_;simp only[List.toList_toArray,List.drop_succ_cons,List.drop_zero];go_wp2;skip;obtain⟨W4,eW,ec',U⟩:=ec.put2 (.bool bq) (.slice Aq nq cq) rfl rfl;rw[←eW];clear eW ec;replace p6:=p6.kd U.kd;replace ed:=ed.upd U Ai;replace hx7:=U.from_ hx7 Ai;have ec:=ec';clear U ec';obtain⟨W8,eW,ed',U⟩:=ed.put2 (.bool bm) (.slice Am nm cm) rfl rfl;rw[←eW];clear eW ed
        replace p6:=p6.kd U.kd;replace ec:=ec.upd U Ai;replace hx7:=U.from_ hx7 Ai;have ed:=ed';clear U ed'
        go_meet
        case rel=>exact⟨gc,rfl,Bg.mk ec p6,Aa,hx7⟩
       ·simp only[Bb,List.toList_toArray,List.drop_succ_cons,List.drop_zero,List.take_succ_cons,List.take_zero]
        go_wp2;refine AC.mk 1 ⟨?_,trivial⟩ (fun h=>by cases(show false=true from h))
        ·simp only[Bb,List.toList_toArray,List.drop_succ_cons,List.drop_zero,List.take_succ_cons,List.take_zero]
         go_wp2;show AC _ _ _ _ _ [] _ _ _;refine AC.nil ?_;simp only[List.toList_toArray,List.drop_succ_cons,List.drop_zero];go_wp2;skip;obtain⟨W4,eW,ec',U⟩:=ec.put2 (.bool bq) (.slice Aq nq cq) rfl rfl;rw[←eW];clear eW ec;replace p6:=p6.kd U.kd;replace ed:=ed.upd U Ai;replace hx7:=U.from_ hx7 Ai;have ec:=ec';clear U ec';obtain⟨W8,eW,ed',U⟩:=ed.put2 (.bool bm) (.slice Am nm cm) rfl rfl;rw[←eW];clear eW ed
         replace p6:=p6.kd U.kd;replace ec:=ec.upd U Ai;replace hx7:=U.from_ hx7 Ai;have ed:=ed';clear U ed'
         go_meet
         case rel=>exact⟨gc,rfl,Bg.mk ec p6,Aa,hx7⟩
     ·intro γ w7 hx7 hF hA
      have na9x10:γ 9≠γ 10:=hA 9 10 Ab Ab Ab Ab Ab ⟨_,_,rfl,rfl⟩ ⟨_,_,rfl,rfl⟩;clear hA;have p2:AO w7 (γ 2) (x+Y / x):=(AA.get hF 2 Ab).resolve_left Ab;have p4:MZ (x+Y / x) 2 (γ 4) w7:=(AA.get hF 4 Ab).resolve_left Ab;have p6:AO w7 (γ 6) ((x+Y / x) / 2):=(AA.get hF 6 Ab).resolve_left Ab;have p9:AZ w7 (γ 9) W6.heap.size #[.bool false,.slice none 0 0] 26:=(AA.get hF 9 Ab).resolve_left Ab;have p10:AZ w7 (γ 10) W6.heap.size #[.bool false,.slice none 0 0] 26:=(AA.get hF 10 Ab).resolve_left Ab
      clear hF;show AC _ _ _ _ 5 [7,8] 11 _ _;simp only[Bf,Nat.reduceAdd,Ck,Array.getD_eq_getD_getElem?,List.getElem?_toArray,List.getElem?_cons_succ,List.getElem?_cons_zero,Option.getD_some];generalize γ 2=g2 at *;generalize γ 4=g4 at *;generalize γ 6=g6 at *;generalize γ 9=g9 at *;generalize γ 10=g10 at *;clear γ;obtain⟨q4,m4,rfl,ha4,hb4⟩:=p4;obtain⟨bm,Am,nm,cm,rfl⟩:=hb4.cells
      (try(obtain⟨_,_,h7⟩:=p7;cases h7))
      obtain⟨gc,rfl,hgc,ec⟩:=p9;obtain⟨gd,rfl,hgd,ed⟩:=p10;have hcd:gc≠gd:=fun e=>na9x10 (by rw[e]);clear na9x10;obtain⟨bq,Aq,nq,cq,rfl⟩:=p6.cells;clear cex0 cex1 ce80 ce81 cet0 cet1 p2 ha4 hb4;obtain⟨cec0,cec1⟩:=ec.cells2;have fec:=ec.frozen;obtain⟨ced0,ced1⟩:=ed.cells2;have fed:=ed.frozen;refine AC.mk 4 ⟨?_,?_,trivial⟩ (fun _=>?_)
      ·simp only[Bb,List.toList_toArray,List.drop_succ_cons,List.drop_zero,List.take_succ_cons,List.take_zero]
       go_wp2;show AC _ _ _ _ _ [8] _ _ _;refine AC.mk 3 ⟨?_,trivial⟩ (fun _=>?_)
       ·simp only[Bb,List.toList_toArray,List.drop_succ_cons,List.drop_zero,List.take_succ_cons,List.take_zero]
        go_wp2;show AC _ _ _ _ _ [] _ _ _;refine AC.nil ?_;simp only[List.toList_toArray,List.drop_succ_cons,List.drop_zero];go_wp2;skip;obtain⟨W4,eW,ec',U⟩:=ec.put2 (.bool bq) (.slice Aq nq cq) rfl rfl;rw[←eW];clear eW ec;replace p6:=p6.kd U.kd;replace ed:=ed.upd U Ai;replace hx7:=U.from_ hx7 Ai;have ec:=ec';clear U ec';obtain⟨W8,eW,ed',U⟩:=ed.put2 (.bool bm) (.slice Am nm cm) rfl rfl;rw[←eW];clear eW ed
        replace p6:=p6.kd U.kd;replace ec:=ec.upd U Ai;replace hx7:=U.from_ hx7 Ai;have ed:=ed';clear U ed'
        go_meet
        case rel=>exact⟨gc,rfl,Bg.mk ec p6,Aa,hx7⟩
       ·simp only[Bb,List.toList_toArray,List.drop_succ_cons,List.drop_zero,List.take_succ_cons,List.take_zero]
        go_wp2;refine AC.mk 2 ⟨?_,trivial⟩ (fun _=>?_)
        ·simp only[Bb,List.toList_toArray,List.drop_succ_cons,List.drop_zero,List.take_succ_cons,List.take_zero]
         go_wp2;show AC _ _ _ _ _ [] _ _ _;refine AC.nil ?_;simp only[List.toList_toArray,List.drop_succ_cons,List.drop_zero];go_wp2;skip;obtain⟨W4,eW,ec',U⟩:=ec.put2 (.bool bq) (.slice Aq nq cq) rfl rfl;rw[←eW];clear eW ec;replace p6:=p6.kd U.kd;replace ed:=ed.upd U Ai;replace hx7:=U.from_ hx7 Ai;have ec:=ec';clear U ec';obtain⟨W8,eW,ed',U⟩:=ed.put2 (.bool bm) (.slice Am nm cm) rfl rfl;rw[←eW];clear eW ed
         replace p6:=p6.kd U.kd;replace ec:=ec.upd U Ai;replace hx7:=U.from_ hx7 Ai;have ed:=ed';clear U ed'
         go_meet
         case rel=>exact⟨gc,rfl,Bg.mk ec p6,Aa,hx7⟩
        ·simp only[Bb,List.toList_toArray,List.drop_succ_cons,List.drop_zero,List.take_succ_cons,List.take_zero]
         go_wp2;refine AC.mk 1 ⟨?_,trivial⟩ (fun h=>by cases(show false=true from h))
         ·simp only[Bb,List.toList_toArray,List.drop_succ_cons,List.drop_zero,List.take_succ_cons,List.take_zero]
          go_wp2;show AC _ _ _ _ _ [] _ _ _;refine AC.nil ?_;simp only[List.toList_toArray,List.drop_succ_cons,List.drop_zero];go_wp2;skip;obtain⟨W4,eW,ec',U⟩:=ec.put2 (.bool bq) (.slice Aq nq cq) rfl rfl;rw[←eW];clear eW ec;replace p6:=p6.kd U.kd;replace ed:=ed.upd U Ai;replace hx7:=U.from_ hx7 Ai;have ec:=ec';clear U ec';obtain⟨W8,eW,ed',U⟩:=ed.put2 (.bool bm) (.slice Am nm cm) rfl rfl;rw[←eW];clear eW ed
          replace p6:=p6.kd U.kd;replace ec:=ec.upd U Ai;replace hx7:=U.from_ hx7 Ai;have ed:=ed';clear U ed'
          go_meet
          case rel=>exact⟨gc,rfl,Bg.mk ec p6,Aa,hx7⟩
      ·simp only[Bb,List.toList_toArray,List.drop_succ_cons,List.drop_zero,List.take_succ_cons,List.take_zero]
       go_wp2;show AC _ _ _ _ _ [7] _ _ _;refine AC.mk 3 ⟨?_,trivial⟩ (fun _=>?_)
       ·simp only[Bb,List.toList_toArray,List.drop_succ_cons,List.drop_zero,List.take_succ_cons,List.take_zero]
        go_wp2;show AC _ _ _ _ _ [] _ _ _;refine AC.nil ?_;simp only[List.toList_toArray,List.drop_succ_cons,List.drop_zero];go_wp2;skip;obtain⟨W4,eW,ec',U⟩:=ec.put2 (.bool bq) (.slice Aq nq cq) rfl rfl;rw[←eW];clear eW ec;replace p6:=p6.kd U.kd;replace ed:=ed.upd U Ai;replace hx7:=U.from_ hx7 Ai;have ec:=ec';clear U ec';obtain⟨W8,eW,ed',U⟩:=ed.put2 (.bool bm) (.slice Am nm cm) rfl rfl;rw[←eW];clear eW ed
        replace p6:=p6.kd U.kd;replace ec:=ec.upd U Ai;replace hx7:=U.from_ hx7 Ai;have ed:=ed';clear U ed'
        go_meet
        case rel=>exact⟨gc,rfl,Bg.mk ec p6,Aa,hx7⟩
       ·simp only[Bb,List.toList_toArray,List.drop_succ_cons,List.drop_zero,List.take_succ_cons,List.take_zero]
        go_wp2;refine AC.mk 2 ⟨?_,trivial⟩ (fun h=>by cases(show false=true from h))
        ·simp only[Bb,List.toList_toArray,List.drop_succ_cons,List.drop_zero,List.take_succ_cons,List.take_zero]
         go_wp2;show AC _ _ _ _ _ [] _ _ _;refine AC.nil ?_;simp only[List.toList_toArray,List.drop_succ_cons,List.drop_zero];go_wp2;skip;obtain⟨W4,eW,ec',U⟩:=ec.put2 (.bool bq) (.slice Aq nq cq) rfl rfl;rw[←eW];clear eW ec;replace p6:=p6.kd U.kd;replace ed:=ed.upd U Ai;replace hx7:=U.from_ hx7 Ai;have ec:=ec';clear U ec';obtain⟨W8,eW,ed',U⟩:=ed.put2 (.bool bm) (.slice Am nm cm) rfl rfl;rw[←eW];clear eW ed
         replace p6:=p6.kd U.kd;replace ec:=ec.upd U Ai;replace hx7:=U.from_ hx7 Ai;have ed:=ed';clear U ed'
         go_meet
         case rel=>exact⟨gc,rfl,Bg.mk ec p6,Aa,hx7⟩
      ·simp only[Bb,List.toList_toArray,List.drop_succ_cons,List.drop_zero,List.take_succ_cons,List.take_zero]
       go_wp2;refine AC.mk 3 ⟨?_,?_,trivial⟩ (fun h=>by cases(show false=true from h))
       ·simp only[Bb,List.toList_toArray,List.drop_succ_cons,List.drop_zero,List.take_succ_cons,List.take_zero]
        go_wp2;show AC _ _ _ _ _ [8] _ _ _;refine AC.mk 2 ⟨?_,trivial⟩ (fun _=>?_)
        ·simp only[Bb,List.toList_toArray,List.drop_succ_cons,List.drop_zero,List.take_succ_cons,List.take_zero]
         go_wp2;show AC _ _ _ _ _ [] _ _ _;refine AC.nil ?_;simp only[List.toList_toArray,List.drop_succ_cons,List.drop_zero];go_wp2;skip;obtain⟨W4,eW,ec',U⟩:=ec.put2 (.bool bq) (.slice Aq nq cq) rfl rfl;rw[←eW];clear eW ec;replace p6:=p6.kd U.kd;replace ed:=ed.upd U Ai;replace hx7:=U.from_ hx7 Ai;have ec:=ec';clear U ec';obtain⟨W8,eW,ed',U⟩:=ed.put2 (.bool bm) (.slice Am nm cm) rfl rfl;rw[←eW];clear eW ed
         replace p6:=p6.kd U.kd;replace ec:=ec.upd U Ai;replace hx7:=U.from_ hx7 Ai;have ed:=ed';clear U ed'
         go_meet
         case rel=>exact⟨gc,rfl,Bg.mk ec p6,Aa,hx7⟩
        ·simp only[Bb,List.toList_toArray,List.drop_succ_cons,List.drop_zero,List.take_succ_cons,List.take_zero]
         go_wp2;refine AC.mk 1 ⟨?_,trivial⟩ (fun h=>by cases(show false=true from h))
         ·simp only[Bb,List.toList_toArray,List.drop_succ_cons,List.drop_zero,List.take_succ_cons,List.take_zero]
          go_wp2;show AC _ _ _ _ _ [] _ _ _;refine AC.nil ?_;simp only[List.toList_toArray,List.drop_succ_cons,List.drop_zero];go_wp2;skip;obtain⟨W4,eW,ec',U⟩:=ec.put2 (.bool bq) (.slice Aq nq cq) rfl rfl;rw[←eW];clear eW ec;replace p6:=p6.kd U.kd;replace ed:=ed.upd U Ai;replace hx7:=U.from_ hx7 Ai;have ec:=ec';clear U ec';obtain⟨W8,eW,ed',U⟩:=ed.put2 (.bool bm) (.slice Am nm cm) rfl rfl;rw[←eW];clear eW ed
          replace p6:=p6.kd U.kd;replace ec:=ec.upd U Ai;replace hx7:=U.from_ hx7 Ai;have ed:=ed';clear U ed'
          go_meet
          case rel=>exact⟨gc,rfl,Bg.mk ec p6,Aa,hx7⟩
       ·simp only[Bb,List.toList_toArray,List.drop_succ_cons,List.drop_zero,List.take_succ_cons,List.take_zero]
        go_wp2;show AC _ _ _ _ _ [7] _ _ _;refine AC.mk 2 ⟨?_,trivial⟩ (fun h=>by cases(show false=true from h))
        ·simp only[Bb,List.toList_toArray,List.drop_succ_cons,List.drop_zero,List.take_succ_cons,List.take_zero]
         go_wp2;show AC _ _ _ _ _ [] _ _ _;refine AC.nil ?_;simp only[List.toList_toArray,List.drop_succ_cons,List.drop_zero];go_wp2;skip;obtain⟨W4,eW,ec',U⟩:=ec.put2 (.bool bq) (.slice Aq nq cq) rfl rfl;rw[←eW];clear eW ec;replace p6:=p6.kd U.kd;replace ed:=ed.upd U Ai;replace hx7:=U.from_ hx7 Ai;have ec:=ec';clear U ec';obtain⟨W8,eW,ed',U⟩:=ed.put2 (.bool bm) (.slice Am nm cm) rfl rfl;rw[←eW];clear eW ed
         replace p6:=p6.kd U.kd;replace ec:=ec.upd U Ai;replace hx7:=U.from_ hx7 Ai;have ed:=ed';clear U ed'
         go_meet
         case rel=>exact⟨gc,rfl,Bg.mk ec p6,Aa,hx7⟩
    intro γ w7 hx7 hF hA;have na9x10:γ 9≠γ 10:=hA 9 10 Ab Ab Ab ⟨_,_,rfl,rfl⟩ ⟨_,_,rfl,rfl⟩;clear hA;have p2:AO w7 (γ 2) (x+Y / x):=AA.get hF 2 Ab;have p4:MZ (x+Y / x) 2 (γ 4) w7:=AA.get hF 4 Ab;have p6:AO w7 (γ 6) ((x+Y / x) / 2):=AA.get hF 6 Ab;have p7:bZ (γ 4) (γ 7):=AA.get hF 7 Ab;have p9:AZ w7 (γ 9) W6.heap.size #[.bool false,.slice none 0 0] 26:=AA.get hF 9 Ab;have p10:AZ w7 (γ 10) W6.heap.size #[.bool false,.slice none 0 0] 26:=AA.get hF 10 Ab
    clear hF;simp only[Bf,Nat.reduceAdd];generalize γ 2=g2 at *;generalize γ 4=g4 at *;generalize γ 6=g6 at *;generalize γ 7=g7 at *;generalize γ 9=g9 at *;generalize γ 10=g10 at *;clear γ;obtain⟨q4,m4,rfl,ha4,hb4⟩:=p4;obtain⟨bm,Am,nm,cm,rfl⟩:=hb4.cells
    (try(obtain⟨_,_,h7⟩:=p7;cases h7))
    obtain⟨gc,rfl,hgc,ec⟩:=p9;obtain⟨gd,rfl,hgd,ed⟩:=p10;have hcd:gc≠gd:=fun e=>na9x10 (by rw[e]);clear na9x10;obtain⟨bq,Aq,nq,cq,rfl⟩:=p6.cells;clear cex0 cex1 ce80 ce81 cet0 cet1 p2 ha4 hb4;obtain⟨cec0,cec1⟩:=ec.cells2;have fec:=ec.frozen;obtain⟨ced0,ced1⟩:=ed.cells2;have fed:=ed.frozen;go_wp2;skip;obtain⟨W4,eW,ec',U⟩:=ec.put2 (.bool bq) (.slice Aq nq cq) rfl rfl;rw[←eW];clear eW ec;replace p6:=p6.kd U.kd
    replace ed:=ed.upd U Ai;replace hx7:=U.from_ hx7 Ai;have ec:=ec';clear U ec';obtain⟨W8,eW,ed',U⟩:=ed.put2 (.bool bm) (.slice Am nm cm) rfl rfl;rw[←eW];clear eW ed;replace p6:=p6.kd U.kd;replace ec:=ec.upd U Ai;replace hx7:=U.from_ hx7 Ai;have ed:=ed';clear U ed'
    go_meet
    case rel=>exact⟨gc,rfl,Bg.mk ec p6,Aa,hx7⟩
   case rest =>
    clear cex0 cex1 fex ce80 ce81 fe8 cet0 cet1 fet hlt6;obtain⟨gc,rfl,⟨bq,Aq,nq,cq,ec,hy⟩,hgc,hx7⟩:=hcut;rename_i wy;have Hy:=Ad (Ak hy (Ak (HQ6.out.2.ext hx7) (Sk HA.out.1 Hx.out.1)));have HT:=Ad (Htz.out.ext hx7);clear hy HQ6 e8 Htz;replace ea:=ea.ext hx7;replace ez:=ez.ext hx7;replace ex:=ex.ext hx7;replace et:=et.ext hx7;replace hx:=hx.trans hx7;clear hx7;obtain⟨cex0,cex1⟩:=ex.cells2;have fex:=ex.frozen
    obtain⟨cec0,cec1⟩:=ec.cells2;have fec:=ec.frozen
    go_wp2_with fail
    refine AL (aI _ _ ((x+Y / x) / 2) x _ (Hy.out.1.has (by have h1:=Int.natAbs_ediv_le_natAbs (x+Y / x) 2;have h2:=Bp h1;have:=HS.out.1;omega)) (Hy.out.2.1.has (by have:=Hx.out.2;omega))) ?_;rintro r10 w10 rfl hx10;have Hy':=Ad (Hy.out.1.ext_ hx10);have Hx':=Ad (Hy.out.2.1.ext_ hx10);have HT':=Ad (HT.out.ext_ hx10);clear cex0 cex1 fex cec0 cec1 fec HT;replace ea:=ea.ext hx10;replace ez:=ez.ext hx10
    replace ex:=ex.ext hx10;replace et:=et.ext hx10;replace ec:=ec.ext hx10;replace hx:=hx.trans hx10;clear hx10;by_cases hge:(x+Y / x) / 2 < x
    ·have hsg:((x+Y / x) / 2 - x).sign = -1:=Int.sign_eq_neg_one_of_neg Aa
     rw[hsg];obtain⟨cex0,cex1⟩:=ex.cells2;have fex:=ex.frozen;obtain⟨cec0,cec1⟩:=ec.cells2;have fec:=ec.frozen
     go_upto_region 8 with(fail)
     have hy:=Hy'.out;have ht:=HT'.out;go_wp2;have hxg:=ex.lt;obtain⟨W11,eW,ex',U⟩:=ex.put2 (.bool bq) (.slice Aq nq cq) rfl rfl;rw[←eW];clear eW ex;replace hy:=hy.kd U.kd;replace ht:=ht.kd U.kd;replace ea:=ea.upd U Ai;replace ez:=ez.upd U Ai;replace et:=et.upd U Ai;replace hx:=U.from_ hx Ai;have ex:=ex';clear U ex';have hb1:=L8 (Bg.mk ex hy);have hpos:=Hy.out.2.2;have hx0:=Hx.out.1;have hmul:((x+Y / x) / 2).natAbs < x.natAbs:=by omega
     go_roundw
     case rel=>exact⟨(x+Y / x) / 2,hpos,Nat.le_trans (Bp (Nat.le_of_lt hmul)) Hx.out.2,ea,ez,Bg.mk ex hy,Bg.mk et ht,hx⟩
     case measure=>rw[hb1,Hb2.out];exact hmul
    ·have hsg:0≤((x+Y / x) / 2 - x).sign:=by
      rcases Int.lt_or_eq_of_le (show 0≤(x+Y / x) / 2 - x by omega)with q | q
      ·rw[Int.sign_eq_one_of_pos q];decide
      ·rw[←q];decide
     generalize ((x+Y / x) / 2 - x).sign=sg at *;have hmz:sz (x*x).natAbs≤1099511627776:=by
      rw[Int.natAbs_mul];have:=Cc x.natAbs x.natAbs;have:=Hx.out.2;omega
     have HM:=Ad hmz;clear hmz;obtain⟨cex0,cex1⟩:=ex.cells2;have fex:=ex.frozen;obtain⟨cea0,cea1⟩:=ea.cells2;have fea:=ea.frozen;obtain⟨cez0,cez1⟩:=ez.cells2;have fez:=ez.frozen
     go_upto_region 9 with(fail)
     have hxz:=Hx'.out;clear ec hge hgc;refine Bz 7 [6] (fun x=>8) [49,50,51,52,53,54,55] [[],[],[],[1,2],[],[1,2,3,4],[1,2,3,4,5],[0,1,2,3,4,5],[0,1,2,3,4,5,6,7],[0,1,2,3,4,5,6,7,8]] [5,1] [_,_] [(kv ?_),(kv ?_),(kv ?_),(fun γ=>γ 3),(kv ?_),(kv (.int .i64 (x*x - Y).sign)),(kv (.bool ((x*x - Y).sign==0)))] (fun γ w'=>[True,True,True,AO w' (γ 3) (x*x),True,True,True]) Bn Aj Aj Aj Aj Aj Bo Aj Bl Br ?hstep3 ?_ ?hlate3
     case hstep3 =>
      iterate 7 refine⟨?_,?_⟩
      trivial
      iterate 3 focus
       intro γ w' he hf;clear hf;refine⟨by trivial,?_⟩;intro R hR;have hc:=he.cells;have cq0:=he.cell cex0;have cq1:=he.cell cex1;have cq2:=he.cell cea0;have cq3:=he.cell cea1;go_simp;refine hR _ _ (Ext.refl _) ?_ trivial;rfl
      ·intro γ w' he hf;clear hf;refine⟨trivial,?_⟩;intro R hR
       go_simp;exact Bd (DF _ _ x x w' ((Hx'.out.ext_ he).has (by have:=Hx.out.2;omega)) ((Hx'.out.ext_ he).has (by have:=Hx.out.2;omega))) hR
      iterate 1 focus
       intro γ w' he hf;clear hf;refine⟨by trivial,?_⟩;intro R hR;have hc:=he.cells;have cq0:=he.cell cex0;have cq1:=he.cell cex1;have cq2:=he.cell cea0;have cq3:=he.cell cea1;go_simp;refine hR _ _ (Ext.refl _) ?_ trivial;rfl
      ·intro γ w' he hf;have f3:AO w' (γ 3) (x*x):=hf 3 Ab;clear hf;refine⟨trivial,?_⟩;intro R hR
       go_simp;exact NJ (aI _ _ (x*x) Y w' (f3.has HM.out) (HV.out.ext (hx.trans he))) hR
      ·intro γ w' he hf;clear hf;refine⟨trivial,?_⟩;intro R hR
       have hc:=he.cells;go_simp
       (try go_ints);(try(rw[if_neg Aa]));(try(rw[if_pos Aa]));(try go_simp);(try go_ints)
       refine hR _ _ (Ext.refl _) ?_ trivial;rfl
     case hlate3 =>
      intro Pn hPs hPn;obtain rfl:=Gn hPs hPn;clear hPs hPn
      ·intro γ w11 hx11 hF hA
       clear hA;have p3:AO w11 (γ 3) (x*x):=(AA.get hF 3 Ab).resolve_left Ab;clear hF;show AC _ _ _ _ 4 [6] 7 _ _;simp only[Bf,Nat.reduceAdd,Ck,Array.getD_eq_getD_getElem?,List.getElem?_toArray,List.getElem?_cons_succ,List.getElem?_cons_zero,Option.getD_some];generalize γ 3=g3 at *;clear γ;skip;clear cex0 cex1 fex cea0 cea1 fea cez0 cez1 fez p3;replace hxz:=hxz.ext_ hx11;replace ez:=ez.ext hx11;replace hx:=hx.trans hx11
       clear hx11;obtain⟨cez0,cez1⟩:=ez.cells2;have fez:=ez.frozen;refine AC.mk 3 ⟨?_,trivial⟩ (fun _=>?_)
       ·simp only[Bb,List.toList_toArray,List.drop_succ_cons,List.drop_zero,List.take_succ_cons,List.take_zero]
        go_wp2;show AC _ _ _ _ _ [] _ _ _;refine AC.nil ?_;simp only[List.toList_toArray,List.drop_succ_cons,List.drop_zero];go_wp2;skip;obtain⟨W12,eW,ez',U⟩:=ez.put2 (.bool b7) (.slice A7 n7 c7) rfl rfl;rw[←eW];clear eW ez;replace hxz:=hxz.kd U.kd;replace hx:=U.from_ hx Ai;have ez:=ez';clear U ez';clear cez0 cez1 fez;obtain⟨cez0,cez1⟩:=ez.cells2;have fez:=ez.frozen;refine bodyPost_ret (v := .tuple #[.agg #[.bool b7,.slice A7 n7 c7],.bool ((x*x - Y).sign==0),.int .i64 0]) (by simp[results,Tryz.results175,go_sem,cez0,cez1]) rfl ?_
        exact Ah.mk ⟨_,x,_,rfl,hxz,Hx.out.1,Hx.out.2⟩ hx
       ·simp only[Bb,List.toList_toArray,List.drop_succ_cons,List.drop_zero,List.take_succ_cons,List.take_zero]
        go_wp2;refine AC.mk 2 ⟨?_,trivial⟩ (fun h=>by cases(show false=true from h))
        ·simp only[Bb,List.toList_toArray,List.drop_succ_cons,List.drop_zero,List.take_succ_cons,List.take_zero]
         go_wp2;show AC _ _ _ _ _ [] _ _ _;refine AC.nil ?_;simp only[List.toList_toArray,List.drop_succ_cons,List.drop_zero];go_wp2;skip;obtain⟨W12,eW,ez',U⟩:=ez.put2 (.bool b7) (.slice A7 n7 c7) rfl rfl;rw[←eW];clear eW ez;replace hxz:=hxz.kd U.kd;replace hx:=U.from_ hx Ai;have ez:=ez';clear U ez';clear cez0 cez1 fez;obtain⟨cez0,cez1⟩:=ez.cells2;have fez:=ez.frozen;refine bodyPost_ret (v := .tuple #[.agg #[.bool b7,.slice A7 n7 c7],.bool ((x*x - Y).sign==0),.int .i64 0]) (by simp[results,Tryz.results175,go_sem,cez0,cez1]) rfl ?_
         exact Ah.mk ⟨_,x,_,rfl,hxz,Hx.out.1,Hx.out.2⟩ hx
     intro γ w11 hx11 hF hA;clear hA;have p3:AO w11 (γ 3) (x*x):=AA.get hF 3 Ab;clear hF;simp only[Bf,Nat.reduceAdd];generalize γ 3=g3 at *;clear γ;skip;clear cex0 cex1 fex cea0 cea1 fea cez0 cez1 fez p3;replace hxz:=hxz.ext_ hx11;replace ez:=ez.ext hx11;replace hx:=hx.trans hx11;clear hx11;obtain⟨cez0,cez1⟩:=ez.cells2;have fez:=ez.frozen;go_wp2;skip;obtain⟨W12,eW,ez',U⟩:=ez.put2 (.bool b7) (.slice A7 n7 c7) rfl rfl
     rw[←eW];clear eW ez;replace hxz:=hxz.kd U.kd;replace hx:=U.from_ hx Ai;have ez:=ez';clear U ez';clear cez0 cez1 fez;obtain⟨cez0,cez1⟩:=ez.cells2;have fez:=ez.frozen;refine bodyPost_ret (v := .tuple #[.agg #[.bool b7,.slice A7 n7 c7],.bool ((x*x - Y).sign==0),.int .i64 0]) (by simp[results,Tryz.results175,go_sem,cez0,cez1]) rfl ?_;exact Ah.mk ⟨_,x,_,rfl,hxz,Hx.out.1,Hx.out.2⟩ hx
end Go.Proofs.YtmhgnigpmompmaaGreat
namespace Go.Hp
def Ik(F G D:Nat→Rat):Prop:=Af D∧ZI D∧(D≠pz→0 < ld D)∧cn D=Nat.gcd (cn F) (cn G)∧LK F G (mn D)
structure Gs(F0 G0:Nat→Rat)(D S:Nat)(A B:Nat→Rat):Prop where
 fA:Af A
 fB:Af B
 zA:ZI A
 zB:ZI B
 pA:pp A=A
 pB:pp B=B
 dv:∀ E,Af E→(Dv E A∧Dv E B↔Dv E F0∧Dv E G0)
 deg:pl A+pl B≤D
 qA:∀ i,qsz (A i)+1≤(S+1)*2^(D - (pl A+pl B))
 qB:∀ i,qsz (B i)+1≤(S+1)*2^(D - (pl A+pl B))
theorem FK{a:Rat}(ha:a≠0){E F:Nat→Rat}:Dv E (psc a F)↔Dv E F:=
 ⟨fun h=>by have:=h.psc (1 / a);rwa[Zt ha]at this,fun h=>h.psc a⟩
theorem KX{E F:Nat→Rat}(z:ZI F)(f:Af F):Dv E (pp F)↔Dv E F:=by
 by_cases h0:F=pz
 ·rw[h0,GH]
 ·have hn:(1:Rat) / (pcn F:Rat)≠0:=Mv (by have:=EI z f h0;exact_mod_cast this)
  exact FK hn
theorem Gs.start{F G:Nat→Rat}{S:Nat}(fF:Af F)(fG:Af G)(zF:ZI F)(zG:ZI G)(qF:∀ i,qsz (F i)≤S)(qG:∀ i,qsz (G i)≤S):Gs F G (pl F+pl G) S (pp F) (pp G) where
 fA:=DI fF
 fB:=DI fG
 zA:=Iu zF fF
 zB:=Iu zG fG
 pA:=XZ zF fF
 pB:=XZ zG fG
 dv:=fun E _=>by rw[KX zF fF,KX zG fG]
 deg:=by rw[EE zF fF,EE zG fG];exact Nat.le_refl _
 qA:=fun i=>by have:=Fb zF fF qF i;have h:0 < 2^(pl F+pl G - (pl (pp F)+pl (pp G))):=Nat.pow_pos Ab;have:=Nat.le_mul_of_pos_right (S+1) h;omega
 qB:=fun i=>by have:=Fb zG fG qG i;have h:0 < 2^(pl F+pl G - (pl (pp F)+pl (pp G))):=Nat.pow_pos Ab;have:=Nat.le_mul_of_pos_right (S+1) h;omega
theorem Gs.room{F0 G0 A B:Nat→Rat}{D S:Nat}(h:Gs F0 G0 D S A B){R:Nat→Rat}(hR:R=De A B (pl A+1 - pl B)) :
  (∀ i,qsz (A i)≤(S+1)*2^D)∧(∀ i,qsz (B i)≤(S+1)*2^D)∧(∀ i,qsz (R i)+1≤(S+1)*2^(D - (pl A+pl B)+(pl A+1 - pl B))):=by
 have up:∀ a:Nat,a≤D→(S+1)*2^a≤(S+1)*2^D:=fun a ha=>Nat.mul_le_mul_left _ (Nat.pow_le_pow_right Ab ha);have h1:=up (D - (pl A+pl B)) Aa;refine⟨fun i=>by have:=h.qA i;omega,fun i=>by have:=h.qB i;omega,fun i=>?_⟩;obtain⟨M,hM⟩:∃ M,M=(S+1)*2^(D - (pl A+pl B)):=⟨_,rfl⟩
 have hp:0 < M:=by rw[hM];exact Nat.mul_pos Aa (Nat.pow_pos Ab)
 have h2:=Im (s:=M - 1) (t:=M - 1) h.zA h.zB (fun i=>by have:=h.qA i;omega) (fun i=>by have:=h.qB i;omega) (pl A+1 - pl B) i;rw[←hR]at h2;rw[Nat.pow_add,←Nat.mul_assoc,←hM];have h3:=Mw (pl A+1 - pl B);have h4:M*(pl A+1 - pl B+1)≤M*2^(pl A+1 - pl B):=Nat.mul_le_mul_left _ h3;rw[Nat.mul_succ,Nat.mul_comm M]at h4;rw[show M - 1+1=M from by omega]at h2;omega
theorem TQ{F G:Nat→Rat}(hF:Af F)(hG:Af G)(h0:G≠pz):Af (De F G (pl F+1 - pl G)):=by
 rw[(Kb hF hG h0).2];exact(EQ hF hG).psc _
theorem OV{F G:Nat→Rat}(hF:Af F)(hG:Af G)(h0:G≠pz):pl (De F G (pl F+1 - pl G)) < pl G:=by
 have hp:=Be hG h0;have:=Bq (((Ea hF hG h0).psc (ld G^(pl F+1 - pl G))));rw[←(Kb hF hG h0).2]at this;omega
theorem Gs.step{F0 G0 A B:Nat→Rat}{D S:Nat}(h:Gs F0 G0 D S A B)(h0:B≠pz){R:Nat→Rat}(hR:R=De A B (pl A+1 - pl B)) :
  Gs F0 G0 D S B (pp R)∧pl (pp R) < pl B:=by
 have hfR:Af R:=by rw[hR];exact TQ h.fA h.fB h0
 have hzR:ZI R:=by rw[hR];exact Fa h.zA h.zB _
 have htop:pl R < pl B:=by rw[hR];exact OV h.fA h.fB h0
 have hplR:=EE hzR hfR;have hq:∀ i,qsz (R i)+1≤(S+1)*2^(D - (pl B+pl (pp R)))∧pl B+pl (pp R)≤D:=fun i=>by
  rw[hplR];have hd:=h.deg;rcases Nat.lt_or_ge (pl A) (pl B)with a | a
  ·have e:R=A:=by rw[hR,show pl A+1 - pl B=0 from by omega];rfl
   rw[e];have:=h.qA i;rw[Nat.add_comm (pl B)];exact⟨this,hd⟩
  ·have h2:=(h.room hR).2.2 i
   exact⟨Nat.le_trans h2 (Nat.mul_le_mul_left _ (Nat.pow_le_pow_right Ab Aa)),Aa⟩
 refine⟨⟨h.fB,DI hfR,h.zB,Iu hzR hfR,h.pB,XZ hzR hfR,fun E hE=>?_,(hq 0).2,fun i=>?_,fun i=>?_⟩,Aa⟩
 ·rw[KX hzR hfR,←h.dv E hE]
  have hl:=SE (D8 h.fB h0) (pl A+1 - pl B);rw[hR,(Kb h.fA h.fB h0).2,FK hl,LX]
 ·have h1:=h.qB i
  have:=h.deg;have h2:=(hq 0).2;refine Nat.le_trans h1 (Nat.mul_le_mul_left _ (Nat.pow_le_pow_right Ab ?_));rcases Nat.lt_or_ge (pl A) (pl B)with a | a
  ·have e:R=A:=by rw[hR,show pl A+1 - pl B=0 from by omega];rfl
   rw[hplR,e];omega
  ·omega
 ·have h1:=Fb hzR hfR (s:=(S+1)*2^(D - (pl B+pl (pp R))) - 1) (fun i=>by have:=(hq i).1;omega) i
  have:=(hq i).1;omega
theorem SL{a:Rat}(ha:a≠0){F:Nat→Rat}(h:Af F):mn (psc a F)=mn F:=by
 by_cases h0:F=pz
 ·rw[h0,FU]
 ·have hl:=D8 h h0
  unfold mn;rw[K7 ha h,Cu];congr 1;grind
theorem Qi(F:Nat→Rat):psc 0 F=pz:=by funext n;simp only[psc,pz];grind
theorem QM{F:Nat→Rat}(h:Af F)(e:mn F=pz):F=pz:=(BG h).1 (by rw[←QK h,e,Ca])
theorem Gs.end_{F0 G0 A B:Nat→Rat}{D S:Nat}(h:Gs F0 G0 D S A B)(fF:Af F0)(fG:Af G0)(zF:ZI F0)(zG:ZI G0)(h0:B=pz) :
  Ik F0 G0 (psc ((Nat.gcd (cn F0) (cn G0):Nat):Rat) A):=by
 have hg:LK F0 G0 (mn A):=by
  subst h0;exact(LK.zero h.fA).of h.dv
 obtain⟨c,hc⟩:∃ c,c=Nat.gcd (cn F0) (cn G0):=⟨_,rfl⟩
 rw[←hc];by_cases hc0:c=0
 ·have e1:cn F0=0:=Nat.eq_zero_of_gcd_eq_zero_left (hc.symm.trans hc0)
  have e2:cn G0=0:=Nat.eq_zero_of_gcd_eq_zero_right (hc.symm.trans hc0);have z1:F0=pz:=Classical.byContradiction fun hn=>IW zF fF hn e1;have z2:G0=pz:=Classical.byContradiction fun hn=>IW zG fG hn e2;rw[hc0];show Ik F0 G0 (psc ((0:Nat):Rat) A);rw[show((0:Nat):Rat)=0 from rfl,Qi,z1,z2];refine⟨Af.pz,ZI.pz,fun hn=>absurd rfl hn,by rw[Nk];rfl,?_⟩;exact LK.zero Af.pz
 ·have hcr:((c:Nat):Rat)≠0:=by exact_mod_cast hc0
  have hA:A≠pz:=fun e=>by
   rw[e,Ns]at hg;have z1:=Mk hg.2.2.1;have z2:=Mk hg.2.2.2.1;rw[z1,z2,Nk]at hc;exact hc0 hc
  have e1:cn A=1:=by rw[←h.pA];exact Ri h.zA h.fA hA
  have e2:0 < ld A:=by rw[←h.pA];exact Ma h.zA h.fA hA
  have ci:((c:Nat):Rat)=(((c:Nat):Int):Rat):=rfl;refine⟨h.fA.psc _,by rw[ci];exact h.zA.psc _,fun _=>?_,?_,by rw[SL hcr h.fA];exact hg⟩
  ·rw[K7 hcr h.fA]
   refine Rat.mul_pos ?_ e2;exact_mod_cast Nat.pos_of_ne_zero hc0
  ·rw[ci,Ii (by exact_mod_cast hc0) h.zA h.fA,e1,←hc];simp
theorem Ik.uniq{F G D E:Nat→Rat}(h:Ik F G D)(k:Ik F G E):D=E:=by
 obtain⟨f1,z1,l1,c1,g1⟩:=h;obtain⟨f2,z2,l2,c2,g2⟩:=k;have e:=g1.uniq g2;by_cases hD:D=pz
 ·have:E=pz:=QM f2 (by rw[←e,hD,Ns])
  rw[hD,this]
 have hE:E≠pz:=fun hE=>hD (QM f1 (by rw[e,hE,Ns]));have hcD:=IW z1 f1 hD
 -- E=a D with a positive;the contents agree
 have lD:=l1 hD;have lE:=l2 hE;have hDl:=D8 f1 hD;have hEl:=D8 f2 hE;have e1:psc (ld E) D=psc (ld D) E:=by
  funext n
  have:=congrFun e n;show ld E*D n=ld D*E n;simp only[mn,psc]at this;have h1:ld D*ld E*(1 / ld D*D n)=ld D*ld E*(1 / ld E*E n):=by rw[this]
  grind
 obtain⟨x,hx⟩:∃ x:Int,ld D=(x:Rat):=z1 _;obtain⟨y,hy⟩:∃ y:Int,ld E=(y:Rat):=z2 _;have hx0:0 < x:=by rw[hx]at lD;exact_mod_cast lD
 have hy0:0 < y:=by rw[hy]at lE;exact_mod_cast lE
 have e2:cn (psc (ld E) D)=cn (psc (ld D) E):=by rw[e1]
 rw[hx,hy,Ii Aa z1 f1,Ii Aa z2 f2,c1,c2,←c1]at e2;have e3:y.natAbs=x.natAbs:=Nat.eq_of_mul_eq_mul_right (Nat.pos_of_ne_zero hcD) e2;have e4:x=y:=by omega
 have:ld D=ld E:=by rw[hx,hy,e4]
 rw[this]at e1
 funext n
 have:=congrFun e1 n;simp only[psc]at this;grind
theorem TB{F Q D:Nat→Rat}(zF:ZI F)(fF:Af F)(zD:ZI D)(fD:Af D)(hD:D≠pz)(fQ:Af Q)(e:F=cv Q D)(hc:cn D∣cn F):ZI Q:=by
 obtain⟨n,hs⟩:=fQ;have fQ:Af Q:=⟨n,hs⟩
 have zC:=Eh hs;have fC:=Dr (n:=n) fQ;have e1:psc (((dl n Q:Nat):Int):Rat) F=cv (CO n Q) D:=by
  rw[e];unfold CO;rw[D6];rfl
 have hdl:=KZ Q n;have e2:cn (psc (((dl n Q:Nat):Int):Rat) F)=cn (cv (CO n Q) D):=by rw[e1]
 rw[Ii Aa zF fF,Oc zC zD fC fD,Int.natAbs_natCast]at e2;obtain⟨m,hm⟩:=hc;have hcD:=Nat.pos_of_ne_zero (IW zD fD hD);have e3:dl n Q*m=cn (CO n Q):=by
  refine Nat.eq_of_mul_eq_mul_right hcD ?_;rw[←e2,hm,Nat.mul_assoc,Nat.mul_comm m]
 intro i;have h1:=J2 fC i;have h2:((dl n Q:Nat):Int)∣(CO n Q i).num:=Int.dvd_trans ⟨(m:Int),by rw[←e3];simp⟩ h1;obtain⟨k,hk⟩:=h2;refine⟨k,?_⟩;have h3:=zC.num i;rw[hk,Rat.intCast_mul]at h3;have h4:CO n Q i=((dl n Q:Nat):Rat)*Q i:=rfl;rw[h4]at h3;have h5:=Uh n Q;have h6:(((dl n Q:Nat):Int):Rat)=((dl n Q:Nat):Rat):=rfl;rw[h6]at h3;grind
theorem Ik.zdv{F G D:Nat→Rat}(h:Ik F G D)(zF:ZI F)(fF:Af F)(hD:D≠pz):GZ F D:=by
 obtain⟨f1,z1,l1,c1,g1⟩:=h;obtain⟨Q,fQ,e⟩:=g1.2.2.1;have e1:F=cv (psc (1 / ld D) Q) D:=by rw[e];unfold mn;rw[OP,D6]
 exact⟨_,TB zF fF z1 f1 hD (fQ.psc _) e1 (by rw[c1];exact Nat.gcd_dvd_left _ _),fQ.psc _,e1⟩
theorem LK.symm_{F G D:Nat→Rat}(h:LK F G D):LK G F D:=⟨h.1,h.2.1,h.2.2.2.1,h.2.2.1,fun E hE a b=>h.2.2.2.2 E hE b a⟩
theorem Ik.symm_{F G D:Nat→Rat}(h:Ik F G D):Ik G F D:=⟨h.1,h.2.1,h.2.2.1,by rw[Nat.gcd_comm];exact h.2.2.2.1,h.2.2.2.2.symm_⟩
theorem Xc:∀(n:Nat) {F G:Nat→Rat},Af F→Af G→pl G≤n→∃ U V D,Af U∧Af V∧LK F G D∧pad (cv U F) (cv V G)=D:=by
 intro n;induction n with
 | zero =>
  intro F G fF fG hn;have:G=pz:=(BG fG).1 Aa;subst this;refine⟨psc (1 / ld F) pone,pz,mn F,Af.psc _ ⟨1,(BB.pz 0).cs 1⟩,Af.pz,LK.zero fF,?_⟩;rw[D6,Db,CG]
  funext m;simp only[pad,pz,mn];grind
 | succ n ih =>
  intro F G fF fG hn;by_cases h0:G=pz
  ·exact ih fF fG (by rw[h0,Ca];omega)
  ·have hp:=Be fG h0
   have hr:=Bq (Ea fF fG h0);obtain⟨U,V,D,fU,fV,hg,e⟩:=ih fG (EQ fF fG) Aa;refine⟨V,psb U (cv V (pq F G)),D,fV,fU.psb (fV.cv (DJ F G)),hg.of fun E hE=>LX,?_⟩;rw[←e];have e1:cv V F=pad (cv V (cv (pq F G) G)) (cv V (pr F G)):=by
    have h2:cv V F=cv V (pad (cv (pq F G) G) (pr F G)):=by rw[←Ko F G]
    rw[h2,FW]
   rw[e1,FE,AJ]
   funext m;simp only[pad,psb];grind
theorem LK.bez{F G D:Nat→Rat}(fF:Af F)(fG:Af G)(h:LK F G D):∃ U V,Af U∧Af V∧pad (cv U F) (cv V G)=D:=by
 obtain⟨U,V,D',fU,fV,hg,e⟩:=Xc (pl G) fF fG (Nat.le_refl _);exact⟨U,V,fU,fV,by rw[h.uniq hg];exact e⟩
theorem Dv.cvr{D F:Nat→Rat}(h:Dv D F)(H:Nat→Rat):Dv (Hp.cv D H) (Hp.cv F H):=by
 obtain⟨Q,fQ,e⟩:=h;exact⟨Q,fQ,by rw[e,AJ]⟩
theorem RO{F G D H P:Nat→Rat}(fF:Af F)(fG:Af G)(fH:Af H)(h:LK F G (mn D))(fD:Af D){a:Rat}(ha:a≠0)(hP:P=psc a (cv D H)):LK (cv F H) (cv G H) (mn P):=by
 have fP:Af P:=by rw[hP];exact(fD.cv fH).psc a
 refine⟨Lb fP,fun hn=>TV fP (fun e=>hn (by rw[e,Ns])),?_,?_,fun E hE k1 k2=>?_⟩
 ·have h1:Dv (cv D H) (cv F H):=((LJ D).trans h.2.2.1).cvr H
  have h2:Dv (mn P) (cv D H):=by
   rw[hP,SL ha (fD.cv fH)];exact LC (fD.cv fH)
  exact h2.trans h1
 ·have h1:Dv (cv D H) (cv G H):=((LJ D).trans h.2.2.2.1).cvr H
  have h2:Dv (mn P) (cv D H):=by
   rw[hP,SL ha (fD.cv fH)];exact LC (fD.cv fH)
  exact h2.trans h1
 ·obtain⟨U,V,fU,fV,e⟩:=h.bez fF fG
  have h1:Dv E (cv (mn D) H):=by
   rw[←e,Dk,AJ,AJ];exact(k1.mul fU).pad (k2.mul fV)
  have h2:Dv E (cv D H):=by
   obtain⟨Q,fQ,e2⟩:=LC fD;rw[e2,AJ];exact h1.mul fQ
  rw[OC fP,hP,FK ha];exact h2
theorem Ik.common{F G D H E:Nat→Rat}(fF:Af F)(fG:Af G)(zF:ZI F)(zG:ZI G)(fH:Af H)(zH:ZI H)(h:Ik F G D)(k:Ik (cv F H) (cv G H) E):E=cv D H∨E=psc ((-1:Int):Rat) (cv D H):=by
 obtain⟨f1,z1,l1,c1,g1⟩:=h;have hcn:∀ a:Int,a.natAbs=1→cn (psc (a:Rat) (cv D H))=Nat.gcd (cn (cv F H)) (cn (cv G H)):=fun a ha=>by
  rw[Ii Aa (z1.cv zH) (f1.cv fH),ha,Nat.one_mul,Oc z1 zH f1 fH,Oc zF zH fF fH,Oc zG zH fG fH,c1,Nat.gcd_mul_right]
 have key:∀ a:Int,a.natAbs=1→(cv D H≠pz→0 < (a:Rat)*ld (cv D H))→E=psc (a:Rat) (cv D H):=fun a ha hl=>by
  have ha0:(a:Rat)≠0:=by
   have:a≠0:=by omega
   exact_mod_cast this
  refine k.uniq ⟨(f1.cv fH).psc _,(z1.cv zH).psc a,fun hn=>?_,hcn a ha,RO fF fG fH g1 f1 ha0 rfl⟩;rw[K7 ha0 (f1.cv fH)];exact hl fun e=>hn (by rw[e,FU])
 by_cases hp:0 < ld (cv D H)
 ·refine .inl ?_
  have:=key 1 rfl (fun _=>by simpa using hp);rwa[show(((1:Int)):Rat)=1 from rfl,Cn]at this
 ·refine .inr (key (-1) rfl (fun hn=>?_))
  have:=D8 (f1.cv fH) hn;have e:(((-1:Int)):Rat) = -1:=rfl;rw[e];have h2:ld (cv D H) < 0:=Rat.lt_of_le_of_ne (Rat.not_lt.1 hp) this;grind
theorem Gs.run{F0 G0:Nat→Rat}{D S:Nat}:∀(n:Nat) {A B:Nat→Rat},Gs F0 G0 D S A B→pl B≤n→∃ A',Gs F0 G0 D S A' pz:=by
 intro n;induction n with
 | zero =>
  intro A B h hn;have:B=pz:=(BG h.fB).1 Aa;subst this;exact⟨A,h⟩
 | succ n ih =>
  intro A B h hn;by_cases h0:B=pz
  ·subst h0;exact⟨A,h⟩
  ·obtain⟨h1,h2⟩:=h.step h0 rfl
   exact ih h1 Aa
open Classical in
/-- The greatest common divisor over the integers. -/
noncomputable def GR(F G:Nat→Rat):Nat→Rat:=if h:∃ D,Ik F G D then h.choose else pz
theorem Tt{F G D:Nat→Rat}(h:Ik F G D):GR F G=D:=by
 have hx:∃ D,Ik F G D:=⟨D,h⟩
 unfold GR;rw[dif_pos hx];exact hx.choose_spec.uniq h
theorem Cg(q:Rat):1≤qsz q:=by
 unfold qsz;have:=DY (n:=q.den) (by have:=q.den_pos;omega);omega
theorem YD{F G:Nat→Rat}{S:Nat}(fF:Af F)(fG:Af G)(zF:ZI F)(zG:ZI G)(qF:∀ i,qsz (F i)≤S)(qG:∀ i,qsz (G i)≤S):Ik F G (GR F G)∧∀ i,qsz (GR F G i)≤S+(S+1)*2^(pl F+pl G):=by
 obtain⟨A,h⟩:=(Gs.start fF fG zF zG qF qG).run (pl (pp G)) (Nat.le_refl _);have h1:=h.end_ fF fG zF zG rfl;have h2:=Tt h1;rw[h2];refine⟨h1,fun i=>?_⟩;have h3:=BR (((Nat.gcd (cn F) (cn G):Nat)):Rat) (A i);have h4:=(h.room rfl).1 i;have h5:qsz (((Nat.gcd (cn F) (cn G):Nat)):Rat)≤S:=by
  show qsz ((((Nat.gcd (cn F) (cn G):Nat):Int)):Rat)≤S;rw[Bi];have a1:=Cg (F 0);have a2:=qF 0;have b1:=FV qF (pl F);have b2:sz (Nat.gcd (cn F) (cn G))≤S:=by
   by_cases e:cn F=0
   ·have b3:=FV qG (pl G)
    rw[e,Nat.gcd_zero_left];exact b3
   ·exact Nat.le_trans (Bp (Nat.gcd_le_left _ (Nat.pos_of_ne_zero e))) b1
  simp only[Int.natAbs_natCast];omega
 show qsz ((((Nat.gcd (cn F) (cn G):Nat)):Rat)*A i)≤_;omega
structure LV(n:Nat)(E:(Nat→Nat→Rat)→Rat):Prop where
 lin:∀(A:Nat→Nat→Rat) (i:Nat),i < n→∀(a b:Rat) (u v:Nat→Rat),E (ED A i fun c=>a*u c+b*v c)=a*E (ED A i u)+b*E (ED A i v)
 alt:∀(A:Nat→Nat→Rat) (i j:Nat),i < n→j < n→i≠j→A i=A j→E A=0
 cong:∀(A B:Nat→Nat→Rat),(∀ i j,i < n→j < n→A i j=B i j)→E A=E B
 one:E (fun i j=>if i=j then 1 else 0)=0
theorem jL:∀(n:Nat) (s:Nat→Nat),(∀ i,i < n+1→s i < n)→∃ i j,i < j∧j < n+1∧s i=s j
 | 0,s,h=>absurd (h 0 Aa) Aa
 | n+1,s,h=>by
  by_cases e:∃ i,i < n+1∧s i=s (n+1)
  ·obtain⟨i,hi,e⟩:=e
   exact⟨i,n+1,hi,Aa,e⟩
  ·have e':∀ i,i < n+1→s i≠s (n+1):=fun i hi q=>e ⟨i,hi,q⟩
   obtain⟨i,j,hij,hj,q⟩:=jL n (fun i=>if s i < s (n+1)then s i else s i - 1) (fun i hi=>by
    have h1:=h i Aa;have h2:=h (n+1) Aa;have h3:=e' i hi;show(if s i < s (n+1)then s i else s i - 1) < n
    split<;>omega)
   refine⟨i,j,hij,Aa,?_⟩;have h1:=e' i Aa;have h2:=e' j hj;have q':(if s i < s (n+1)then s i else s i - 1)=(if s j < s (n+1)then s j else s j - 1):=q
   split at q'<;>split at q'<;>omega
theorem LV.swap{n:Nat}{E:(Nat→Nat→Rat)→Rat}(h:LV n E)(A:Nat→Nat→Rat){i j:Nat}(hi:i < n)(hj:j < n)(hne:i≠j):E (ED (ED A i (A j)) j (A i)) = - E A:=by
 obtain⟨u,hu⟩:∃ u,u=A i:=⟨_,rfl⟩
 obtain⟨v,hv⟩:∃ v,v=A j:=⟨_,rfl⟩
 have comm:∀ x y:Nat→Rat,ED (ED A i x) j y=ED (ED A j y) i x:=fun x y=>by
  funext r c;unfold ED
  by_cases a:r=j
  ·subst a;rw[if_pos rfl,if_neg (Ne.symm hne),if_pos rfl]
  ·rw[if_neg a]
   by_cases b:r=i
   ·rw[if_pos b,if_pos b]
   ·rw[if_neg b,if_neg b,if_neg a]
 have z:∀ x:Nat→Rat,E (ED (ED A i x) j x)=0:=fun x=>h.alt _ i j hi hj hne (by
  funext c
  show(if i=j then x c else if i=i then x c else A i c)=(if j=j then x c else _);rw[if_neg hne,if_pos rfl,if_pos rfl])
 have l2:∀ x a b (y1 y2:Nat→Rat),E (ED (ED A i x) j fun c=>a*y1 c+b*y2 c)=a*E (ED (ED A i x) j y1)+b*E (ED (ED A i x) j y2):=fun x a b y1 y2=>h.lin _ j hj a b y1 y2;have l1:∀ y a b (x1 x2:Nat→Rat),E (ED (ED A i fun c=>a*x1 c+b*x2 c) j y)=a*E (ED (ED A i x1) j y)+b*E (ED (ED A i x2) j y):=fun y a b x1 x2=>by
  rw[comm,comm,comm];exact h.lin _ i hi a b x1 x2
 have key:=z (fun c=>1*u c+1*v c);rw[l1,l2,l2,z u,z v]at key;have hA:ED (ED A i u) j v=A:=by rw[hu,Kr,hv,Kr]
 rw[hA]at key;rw[←hu,←hv];grind
theorem LV.sum{n:Nat}{E:(Nat→Nat→Rat)→Rat}(h:LV n E)(A:Nat→Nat→Rat){i:Nat}(hi:i < n)(t:Nat→Rat)(f:Nat→Nat→Rat):∀ N,E (ED A i fun c=>sm N fun k=>t k*f k c)=sm N fun k=>t k*E (ED A i (f k))
 | 0=>by
  have:=h.lin A i hi 0 0 (fun _=>0) (fun _=>0);have e:(fun c=>sm 0 fun k=>t k*f k c)=fun c:Nat=>(0:Rat)*(0:Rat)+0*0:=by funext c;rw[EY];grind
  rw[e,this,EY];grind
 | N+1=>by
  have e:(fun c=>sm (N+1) fun k=>t k*f k c)=fun c=>1*(sm N fun k=>t k*f k c)+t N*f N c:=by funext c;rw[BF];grind
  rw[e,h.lin A i hi,LV.sum h A hi t f N,BF];grind
def er(c:Nat):Nat→Rat:=fun k=>if k=c then 1 else 0
theorem LV.perm{n:Nat}{E:(Nat→Nat→Rat)→Rat}(h:LV n E):∀(d:Nat) (A:Nat→Nat→Rat) (s:Nat→Nat) (m:Nat),n=m+d→(∀ i,i < n→s i < n∧A i=er (s i))→(∀ i,i < m→s i=i)→E A=0
 | 0,A,s,m,hd,hA,hs=>by
  rw[←h.one];refine h.cong _ _ fun i j hi hj=>?_;rw[(hA i hi).2,hs i Aa];show(if j=i then(1:Rat)else 0)=if i=j then 1 else 0;by_cases e:i=j
  ·rw[if_pos e,if_pos e.symm]
  ·rw[if_neg e,if_neg (Ne.symm e)]
 | d+1,A,s,m,hd,hA,hs=>by
  by_cases hinj:∃ i j,i < n∧j < n∧i≠j∧s i=s j
  ·obtain⟨i,j,hi,hj,hne,e⟩:=hinj
   exact h.alt A i j hi hj hne (by rw[(hA i hi).2,(hA j hj).2,e])
  ·have hinj':∀ i j,i < n→j < n→s i=s j→i=j:=fun i j hi hj e=>Classical.byContradiction fun hne=>hinj ⟨i,j,hi,hj,hne,e⟩
   have hex:∃ j,j < n∧s j=m:=by
    refine Classical.byContradiction fun hno=>?_;have hno':∀ j,j < n→s j≠m:=fun j hj e=>hno ⟨j,hj,e⟩;obtain⟨n',rfl⟩:∃ n',n=n'+1:=⟨n - 1,Aa⟩
    obtain⟨i,j,hij,hj,q⟩:=jL n' (fun i=>if s i < m then s i else s i - 1) (fun i hi=>by
     have h1:=(hA i hi).1;have h2:=hno' i hi;show(if s i < m then s i else s i - 1) < n'
     split<;>omega)
    have h1:=hno' i Aa;have h2:=hno' j hj;have:s i=s j:=by
     have q':(if s i < m then s i else s i - 1)=(if s j < m then s j else s j - 1):=q
     split at q'<;>split at q'<;>omega
    have:=hinj' i j Aa hj this;omega
   obtain⟨j,hj,e⟩:=hex;have hjm:m≤j:=by
    rcases Nat.lt_or_ge j m with a | a
    ·have:=hs j a;omega
    ·exact a
   by_cases hjm':j=m
   ·subst hjm'
    refine LV.perm h d A s (j+1) Aa hA fun i hi=>?_;rcases Nat.lt_or_ge i j with a | a
    ·exact hs i a
    ·obtain rfl:i=j:=by omega
     exact e
   ·have h2:=LV.perm h d (ED (ED A m (A j)) j (A m)) (fun i=>if i=m then s j else if i=j then s m else s i) (m+1) Aa (fun i hi=>by
     by_cases a:i=m
     ·subst a
      simp only[if_pos];refine⟨by rw[e];exact hi,?_⟩
      funext c
      show(if i=j then A i c else if i=i then A j c else A i c)=_;rw[if_neg (Ne.symm hjm'),if_pos rfl,(hA j hj).2]
     ·by_cases b:i=j
      ·subst b
       rw[if_neg a,if_pos rfl];refine⟨(hA m Aa).1,?_⟩
       funext c
       show(if i=i then A m c else _)=_;rw[if_pos rfl,(hA m Aa).2]
      ·rw[if_neg a,if_neg b]
       refine⟨(hA i hi).1,?_⟩
       funext c
       show(if i=j then A m c else if i=m then A j c else A i c)=_;rw[if_neg b,if_neg a,(hA i hi).2]) (fun i hi=>by
     by_cases a:i=m
     ·simp only[if_pos a];rw[e,a]
     ·simp only[if_neg a]
      rw[if_neg Aa];exact hs i Aa)
    have h3:=h.swap A (i:=m) (j:=j) Aa hj (Ne.symm hjm');rw[h2]at h3;grind
theorem bO(v:Nat→Rat)(n c:Nat)(h:c < n):v c=sm n fun k=>v k*er k c:=by
 rw[WL (f:=fun k=>v k*er k c) h (fun i _ hne=>by show v i*(if c=i then 1 else 0)=0;rw[if_neg (Ne.symm hne)];grind)];show v c=v c*(if c=c then 1 else 0);rw[if_pos rfl];grind
theorem LV.all{n:Nat}{E:(Nat→Nat→Rat)→Rat}(h:LV n E):∀(m:Nat),m≤n→∀(A:Nat→Nat→Rat),(∀ i,m≤i→i < n→∃ c,c < n∧A i=er c)→E A=0
 | 0,_,A,hA=>by
  have hA':∀ i,∃ c,i < n→c < n∧A i=er c:=fun i=>by
   by_cases hi:i < n
   ·obtain⟨c,hc⟩:=hA i (Nat.zero_le _) hi;exact⟨c,fun _=>hc⟩
   ·exact⟨0,fun h=>absurd h hi⟩
  exact h.perm n A (fun i=>Classical.choose (hA' i)) 0 Aa (fun i hi=>Classical.choose_spec (hA' i) hi) (fun i hi=>Aa)
 | m+1,hm,A,hA=>by
  have e:E A=E (ED A m fun c=>sm n fun k=>A m k*er k c):=by
   refine h.cong _ _ fun i j hi hj=>?_;unfold ED
   split
   ·rename_i e;rw[e];exact bO _ _ _ hj
   ·rfl
  rw[e,h.sum A Aa];rw[show sm n (fun k=>A m k*E (ED A m (er k)))=sm n fun _=>0 from CJ fun k hk=>by
   rw[LV.all h m Aa (ED A m (er k)) fun i hi hin=>?_]
   ·grind
   ·by_cases a:i=m
    ·exact⟨k,hk,by subst a;funext c;show(if i=i then er k c else _)=_;rw[if_pos rfl]⟩
    ·obtain⟨c,hc1,hc2⟩:=hA i Aa hin
     exact⟨c,hc1,by rw[←hc2];funext x;show(if i=m then er k x else A i x)=_;rw[if_neg a]⟩]
  exact Nt n
theorem Yy(f:Nat→Rat):∀ n,sm (n+1) f=sm (n+1) fun i=>f (n - i)
 | 0=>by rw[BF,BF,EY,EY]
 | n+1=>by
  rw[BF,Yy f n,QP (n+1)];rw[show sm (n+1) (fun i=>f (n+1 - (i+1)))=sm (n+1) (fun i=>f (n - i))from CJ fun i _=>by congr 1;omega];rw[Nat.sub_zero];grind
theorem conv{N p q j:Nat}{X Y:Nat→Rat}(hp:p < N)(hX:BB (p+1) X) :
  sm N (fun c=>(if c≤p then X (p - c)else 0)*(if j≤q+c then Y (q+c - j)else 0))=if j≤p+q then cv X Y (p+q - j)else 0:=by
 have h1:sm N (fun c=>(if c≤p then X (p - c)else 0)*(if j≤q+c then Y (q+c - j)else 0))=sm (p+1) (fun c=>(if c≤p then X (p - c)else 0)*(if j≤q+c then Y (q+c - j)else 0)):=
  PH (fun i hi=>by rw[if_neg Aa];grind) Aa
 rw[h1,Yy];by_cases hj:j≤p+q
 ·rw[if_pos hj,Xw hX]
  refine CJ fun i hi=>?_;rw[if_pos Aa,show p - (p - i)=i from by omega];by_cases a:i≤p+q - j
  ·rw[if_pos Aa,if_pos a];congr 2;omega
  ·rw[if_neg Aa,if_neg a]
 ·rw[if_neg hj]
  rw[show sm (p+1) (fun i=>(if p - i≤p then X (p - (p - i))else 0)*(if j≤q+(p - i)then Y (q+(p - i) - j)else 0))=sm (p+1) fun _=>0 from CJ fun i hi=>by
   rw[if_neg (show ¬ j≤q+(p - i) by omega)];grind]
  exact Nt _
def gx(n k m:Nat)(G:Nat→Rat):Nat→Nat→Rat:=fun i c =>
 if i < k then(if c < n+k then(if c≤n+i then G (n+i - c)else 0)else 0)
 else if i < k+m then(if c=n+i then 1 else 0)else(if c+m=i then 1 else 0)
theorem Pw:pone≠pz:=fun e=>by have:=congrFun e 0;exact absurd this Ab
def We(s:Nat)(q:Rat):Prop:=∃ z:Int,q=(z:Rat)∧z.natAbs < bp s
theorem We.mul{s t:Nat}{p q:Rat}(h:We s p)(k:We t q):We (s+t) (p*q):=by
 obtain⟨x,rfl,hx⟩:=h;obtain⟨y,rfl,hy⟩:=k;refine⟨x*y,(Rat.intCast_mul x y).symm,?_⟩;rw[Int.natAbs_mul,IP];exact Nat.mul_lt_mul'' hx hy
theorem We.sg{s:Nat}{q:Rat}(h:We s q)(i:Nat):We s (Hp.sg i*q):=by
 obtain⟨x,rfl,hx⟩:=h;unfold Hp.sg
 split
 ·exact⟨x,Au,hx⟩
 ·exact⟨-x,by rw[Rat.intCast_neg];grind,by rw[Int.natAbs_neg];exact hx⟩
theorem We.up{s t:Nat}{q:Rat}(h:We s q)(k:s≤t):We t q:=by
 obtain⟨x,rfl,hx⟩:=h;exact⟨x,rfl,Nat.lt_of_lt_of_le hx (FY k)⟩
theorem We.zero(s:Nat):We s 0:=⟨0,rfl,I8 s⟩
end Go.Hp
