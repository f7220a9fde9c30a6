/- Lemmas: The walk of bigint.Sqrt. The greatest common divisor over the integers: what a round keeps; what comes out. Plain. Determinants are multiplicative. Plain. Resultants are multiplicative; when they are 0. Plain. How many digits a determinant, a resultant needs. Plain. Elimination: what a round does to the determinant. And: the leading coefficient divides the resultant with the derivative. Plain. Yun's rounds: what both sides compute, and why it is the square-free factorization. Plain. Sturm's chain: what both sides compute, and its sizes. Plain. Rows of the call's own that are appended to: where the grown row lies. Plain. Boxes through the rounds of a range over a function. Plain. How large the coefficients of a factor over the integers are. Plain. Yun's rounds: the product of the factors, and that they are coprime. Plain. Rows of factors. Plain. Rows of polynomials over the integers. Plain. The walk of zpoly.Resultant. Contracts of zpoly's functions over polynomials. The walks of the statements' helpers: Frac. The walks of the statements' helpers: awake, long. What an argument reads as: polynomials in any form; the walk of long. The walk of the statement QpolyPowerSums. The walk of the statement QpolyDivides. The walk of the statement QpolyOperations. Points: two fractions side by side; slices of points. What an argument reads as: slices of structs, once for all. Polynomials over the integers as arguments. The walks of the reference's polynomials over the integers: Normal, Degree, At, Lead. The walks of the reference's polynomials over the integers: Content, Over, Primitive. The walk of qpoly.Clear. The walk of the reference's Clear. The walks of Of: polynomials over the integers as polynomials over the fractions. The walk of SameInts. The walk of the statement QpolyClears. Products of integer polynomials: how many digits. Plain. The walks of realroots.reduced and realroots.chain. The walks of the reference's polynomials over the integers: Add, Scale, Sub. The walks of the reference's polynomials over the integers: Derivative, Mul; of the program's Derivative. The walks of the reference's Raised and Shift; its polynomials over the integers, over polynomials. The walks of the reference's signed and Chain. The walk of the reference's Chain. The walks of strings.Builder and of strconv.Itoa below 100, turned from the shelf's proofs. The walks of bigint.Abs, and of bigint.Format at one digit. The walk of slices.Backward over a slice of integers. -/
import Derived.Test.YtmhgnigpmompmaaGreatCk1
import Derived.Test.YtmhgnigpmompmaaGreatCk2
import Derived.Test.YtmhgnigpmompmaaGreatCk3
import Derived.RangeFuncNested
import Derived.RangeFuncBound
import Derived.RangeFuncCalls
import Derived.RangeFuncLeaves
import Derived.Shelf.Abstract
import Derived.Shelf.RegionOpen
import Derived.WalkKit
import Derived.OwnWalkIn
import Derived.TacticsInMore
import Derived.LoopNIn
import Derived.LoopIn
import Derived.ProofKit
import Derived.ChangeSlices
import Derived.Deep.Slices
import Derived.Deep.Cut
import Derived.Deep.DeepCutAuto
import Derived.Shelf.Strings.BuilderK
import Derived.Shelf.Strconv.Itoa3
import Derived.Test.YtmhgnigpmompmaaGreatChecked
import Derived.Laws.IdiomStrings
set_option linter.unusedVariables false
set_option linter.unusedSimpArgs false
namespace Go.Hp
open Go.RowKit
theorem BL.ex(n:Nat):∃ b,BL n b:=by
 induction n using Nat.strongRecOn with
 | _ n ih =>
  rcases Nat.eq_zero_or_pos n with h | h
  ·subst h;exact⟨0,BL.zero⟩
  ·obtain⟨b,h1,h2⟩:=ih (n / 2) Aa
   refine⟨b+1,by rw[Nat.pow_succ];omega,fun _=>?_⟩;rw[Nat.add_sub_cancel];rcases b with _ | b
   ·simp;omega
   ·have:=h2 Aa
    rw[Nat.add_sub_cancel]at this;rw[Nat.pow_succ];omega
def gJ(w:World)(r:Value):Prop:=∃ (r0:Value) (x:Int) (b:Bool),r = .tuple #[r0,.bool b,.int .i64 0]∧AC w r0 x∧0 < x∧sz x.natAbs≤20000
def ZK(t v:Value):Prop:=∃ a e,t = .tuple #[a,v,e]
theorem RZ{a x:Int}(ha:0 < a)(hx:0 < x):0 < (x+a / x) / 2:=by
 have h1:0≤a / x:=Int.ediv_nonneg Aa Aa;rcases Int.lt_or_le 1 x with h | h
 ·omega
 ·have:x=1:=by omega
  subst this;rw[Int.ediv_one];omega
end Go.Hp
namespace Go.Proofs.YtmhgnigpmompmaaGreat
open Go.RowKit Go.Hp
theorem VI{x y:Int}{v:Value}{w w':World}(h:Ng x y v w)(e:Ext w w'):Ng x y v w':=by
 obtain⟨a,b,h1,h2,h3⟩:=h;exact⟨a,b,h1,h2.ext_ e,h3.ext_ e⟩
set_option maxRecDepth 20000 in
set_option maxHeartbeats 8000000 in
theorem VV(v:Value)(Y:Int)(w:World)(hv:Bj w v Y)(h0:0 < Y)(hs:sz Y.natAbs≤1000):Calls Tryz.prog 175 #[v] w (Ad w fun r w'=>gJ w' r):=by
 have HV:=Lib.hid hv;obtain⟨b1,A1,n1,c1,rfl⟩:=hv.cells;clear hv;obtain⟨b,hb⟩:=BL.ex Y.natAbs;have hb9:b≤32000:=by have:=hb.sz;omega
 obtain⟨k,hk⟩:∃ k,k=(b+1) / 2:=⟨_,rfl⟩
 have hk9:k≤16001:=by omega
 have hki:(((b:Nat):Int)+1) / 2=(k:Nat):=by omega
 have hbits:∀ W u,Bj W u Y→Calls Tryz.prog 174 #[u] W (Ad W fun r _=>r = .int .i64 (b:Nat)):=fun W u hu =>
  Ad.imp (Sw u Y W hu) fun _ _ ⟨c,e,h⟩=>by rw[e,h.uniq hb]
 have HB:=Lib.hid hbits;clear hbits hb hk;have HA:=Lib.hid (And.intro h0 hs);clear h0 hs
 go_enter Tryz.func175,Tryz.ntmps175
 go_wp2_with fail
 refine Calls.mono (Iy _ Y _ (HV.out.ext (((Ext.refl w).alloc _).alloc _))) ?_;rintro e w1 ⟨r1,rfl,rfl,hx1⟩;rw[Int.sign_eq_one_of_pos HA.out.1];have ea:=((Be.new w 26 #[.bool b1,.slice A1 n1 c1] (by simp[Ag])).alloc (.cells #[.bool false,.slice none 0 0] 26)).ext hx1;have ez:=(Be.new (w.alloc (.cells #[.bool b1,.slice A1 n1 c1] 26)) 26 #[.bool false,.slice none 0 0] (by simp[Ag])).ext hx1;rw[World.size_alloc]at ez
 have hx:=hx1.a2;clear hx1;obtain⟨cea0,cea1⟩:=ea.cells2;have fea:=ea.frozen;have hsz1:=ez.lt
 go_wp2_with fail
 go_cut [5,6] (fun xv ev wx=>∃ gc,xv = .pointer (some ⟨gc,0,none⟩)∧ev = .int .i64 0∧Bh wx gc 26 (2^k)∧w.heap.size+1 < gc∧Ext w1 wx)
 case first =>
  refine BJ 10 8 1 [19,20,21,22,23,24,18,25,26,5] [[],[],[0,1],[0,1,2],[0,1,2,3],[0,1,2,3,4],[0,1,2,3,4,5],[0,1,2,3,4,5,6],[0,1,2,3,4,5,6],[],[0,1,2,3,4,5,6,7,9],[0,1,2,3,4,5,6,7,8,9,10]] [1] [_] [(fun γ=>γ 0),(kv ?_),(kv (.int .i64 (b:Nat))),(kv ?_),(kv ?_),(fun γ=>γ 5),(fun γ=>γ 5),(fun γ=>γ 7),(kv ?_),(fun γ=>γ 9)] (fun γ w'=>[AC w' (γ 0) 2,True,True,True,True,ER w' (γ 5) (2^k) 0,True,AC w' (γ 7) (2^k),True,AV w' (γ 9) w1.heap.size #[.bool false,.slice none 0 0] 26]) _ rfl Bd Ah Ah Ah Ah Ah Bb Ah Bc ?hmono1 ?hstep1 ?_ ?hlate1
  case hstep1 =>
   iterate 10 refine⟨?_,?_⟩
   trivial
   ·intro γ w' he hf;clear hf;refine⟨trivial,?_⟩;intro R hR
    go_simp;exact AX (Ji 2 w' Aa Aa) hR
   iterate 1 focus
    intro γ w' he hf;clear hf;refine⟨by trivial,?_⟩;intro R hR;have hc:=he.cells;have cq0:=he.cell cea0;have cq1:=he.cell cea1;go_simp;refine hR _ _ (Ext.refl _) ?_ trivial;rfl
   ·intro γ w' he hf;clear hf;refine⟨trivial,?_⟩;intro R hR
    go_simp;exact Q8 (HB.out w' _ (HV.out.ext (hx.trans he))) hR
   iterate 2 focus
    intro γ w' he hf;clear hf;refine⟨by trivial,?_⟩;intro R hR;have hc:=he.cells;go_simp;(try go_ints);(try(rw[if_neg Aa]));(try(rw[if_pos Aa]));(try go_simp);(try go_ints)
    refine hR _ _ (Ext.refl _) ?_ trivial;rfl
   ·intro γ w' he hf;have f0:AC w' (γ 0) 2:=hf 0 Ab;clear hf;refine⟨trivial,?_⟩;intro R hR
    go_simp;exact AX (RJ _ k w' (f0.has Ab) Aa) hR
   ·intro γ w' he hf;clear hf;refine⟨trivial,?_⟩;intro R hR
    have hc:=he.cells;go_simp
    (try go_ints);(try(rw[if_neg Aa]));(try(rw[if_pos Aa]));(try go_simp);(try go_ints)
    refine hR _ _ (Ext.refl _) ?_ trivial;rfl
   ·intro γ w' he hf;have f5:ER w' (γ 5) (2^k) 0:=hf 5 Ab;clear hf;refine⟨trivial,?_⟩;intro R hR
    obtain⟨a,e,ha⟩:=f5;go_simp;exact hR _ _ (Ext.refl _) rfl ha
   ·intro γ w' he hf;have f5:ER w' (γ 5) (2^k) 0:=hf 5 Ab;clear hf;refine⟨trivial,?_⟩;intro R hR
    obtain⟨a,e,ha⟩:=f5;have hc:=he.cells;go_simp
    (try go_ints);(try(rw[if_neg Aa]));(try(rw[if_pos Aa]));(try go_simp);(try go_ints)
    refine hR _ _ (Ext.refl _) ?_ trivial;rfl
   ·intro γ w' he hf;clear hf;refine⟨trivial,?_⟩;intro R hR
    go_simp;exact hR _ _ ((Ext.refl _).alloc _) rfl (AV.mk (Nat.le_trans Ac he.size) (by simp[Ag]))
  case hmono1 =>
   exact⟨⟨⟨⟨⟨⟨⟨⟨⟨⟨trivial,(fun γ wA w' e h=>(show AC wA (γ 0) 2 from h).ext e)⟩,(fun γ wA w' e h=>h)⟩,(fun γ wA w' e h=>h)⟩,(fun γ wA w' e h=>h)⟩,(fun γ wA w' e h=>h)⟩,(fun γ wA w' e h=>(show ER wA (γ 5) (2^k) 0 from h).ext e)⟩,(fun γ wA w' e h=>h)⟩,(fun γ w w' e h=>AC.ext_ h e)⟩,(fun γ wA w' e h=>h)⟩,(fun γ wA w' e h=>(show AV wA (γ 9) w1.heap.size #[.bool false,.slice none 0 0] 26 from h).ext e)⟩
  case hlate1 =>
   intro γ w2 hx2 hF;have p0:AC w2 (γ 0) 2:=(Au.get hF 0 Ab).resolve_left Ab;have p5:ER w2 (γ 5) (2^k) 0:=(Au.get hF 5 Ab).resolve_left Ab;have p7:AC w2 (γ 7) (2^k):=(Au.get hF 7 Ab).resolve_left Ab;have p9:AV w2 (γ 9) w1.heap.size #[.bool false,.slice none 0 0] 26:=(Au.get hF 9 Ab).resolve_left Ab;clear hF;simp only[AZ,Nat.reduceAdd,EB,Array.getD_eq_getD_getElem?,List.getElem?_toArray,List.getElem?_cons_succ,List.getElem?_cons_zero,Option.getD_some]
   generalize γ 0=g0 at *;generalize γ 5=g5 at *;generalize γ 7=g7 at *;generalize γ 9=g9 at *;clear γ;obtain⟨a5,rfl,-⟩:=p5;obtain⟨gc,rfl,hgc,ec⟩:=p9;obtain⟨b5,A5,n5,c5,rfl⟩:=p7.cells;clear cea0 cea1 p0;obtain⟨cec0,cec1⟩:=ec.cells2;have fec:=ec.frozen;go_wp2;refine⟨?_,trivial⟩;go_wp2;skip;obtain⟨W4,eW,ec',U⟩:=ec.put2 (.bool b5) (.slice A5 n5 c5) rfl rfl;rw[←eW];clear eW ec;replace p7:=p7.kd U.kd;replace hx2:=U.from_ hx2 Ai
   have ec:=ec';clear U ec'
   go_meet
   case rel=>exact⟨gc,rfl,rfl,Bh.mk ec p7,Aa,hx2⟩
  intro γ w2 hx2 hF;have p0:AC w2 (γ 0) 2:=Au.get hF 0 Ab;have p5:ER w2 (γ 5) (2^k) 0:=Au.get hF 5 Ab;have p7:AC w2 (γ 7) (2^k):=Au.get hF 7 Ab;have p9:AV w2 (γ 9) w1.heap.size #[.bool false,.slice none 0 0] 26:=Au.get hF 9 Ab;clear hF;simp only[AZ,Nat.reduceAdd];generalize γ 0=g0 at *;generalize γ 5=g5 at *;generalize γ 7=g7 at *;generalize γ 9=g9 at *;clear γ;obtain⟨a5,rfl,-⟩:=p5;obtain⟨gc,rfl,hgc,ec⟩:=p9
  obtain⟨b5,A5,n5,c5,rfl⟩:=p7.cells;clear cea0 cea1 p0;obtain⟨cec0,cec1⟩:=ec.cells2;have fec:=ec.frozen;go_wp2;skip;obtain⟨W4,eW,ec',U⟩:=ec.put2 (.bool b5) (.slice A5 n5 c5) rfl rfl;rw[←eW];clear eW ec;replace p7:=p7.kd U.kd;replace hx2:=U.from_ hx2 Ai;have ec:=ec';clear U ec'
  go_meet
  case rel=>exact⟨gc,rfl,rfl,Bh.mk ec p7,Aa,hx2⟩
 case rest =>
  clear cea0 cea1 fea hsz1;obtain⟨gx,rfl,rfl,ex,hgx,hx2⟩:=hcut;replace ea:=ea.ext hx2;replace ez:=ez.ext hx2;replace hx:=hx.trans hx2;clear hx2;rename_i wx
  go_wp2_with fail
  refine Calls.mono (Ji 2 _ Aa Aa) ?_;rintro e w3 ⟨r3,rfl,hr3,hx3⟩;obtain⟨b6,A6,n6,c6,rfl⟩:=hr3.cells;replace ea:=ea.ext hx3;replace ez:=ez.ext hx3;replace ex:=ex.ext hx3;replace hx:=hx.trans hx3;clear hx3;obtain⟨W0,eW,et,x0⟩:=Be.made w3 26 #[.bool b6,.slice A6 n6 c6] (by simp[Ag]);have ht:=Bh.mk et (hr3.kd x0.kd);have hgt:=ex.lt;replace ea:=ea.ext x0;replace ez:=ez.ext x0;replace ex:=ex.ext x0;replace hx:=hx.trans x0
  clear x0;clear et hr3;go_wp2;rw[←eW];clear eW;generalize w3.heap.size=gt at *
  go_loopw [13] (fun _ wr=>∃ x:Int,0 < x∧sz x.natAbs≤20000∧Be wr w.heap.size 26 #[.bool b1,.slice A1 n1 c1]∧Be wr (w.heap.size+1) 26 #[.bool false,.slice none 0 0]∧Bh wr gx 26 x∧Bh wr gt 26 2∧Ext w wr) (fun _ wr=>dG wr gx 26)
  case atStart=>exact⟨2^k,Int.pow_pos Ab,by have:=GG k;omega,ea,ez,ex,ht,hx⟩
  case round =>
   clear ea ez ex ht hx;obtain⟨x,hx0,hxs,ea,ez,⟨b7,A7,n7,c7,ex,hxz⟩,ht,hx⟩:=hrel;have Hb2:=Lib.hid (KG (Bh.mk ex hxz));have Hx:=Lib.hid (And.intro hx0 hxs);clear hx0 hxs;have Hxz:=Lib.hid hxz;clear hxz;obtain⟨cea0,cea1⟩:=ea.cells2;have fea:=ea.frozen;obtain⟨cex0,cex1⟩:=ex.cells2;have fex:=ex.frozen
   go_wp2_with fail
   refine Calls.mono (Kt _ _ Y x _ (HV.out.ext hx) (Hxz.out.has (by have:=Hx.out.2;omega))) ?_;rintro e w4 ⟨r4,rfl,⟨q0,m0,rfl,hq,hm⟩,hx4⟩;rw[if_neg (by have:=Hx.out.1;omega)];obtain⟨b8,A8,n8,c8,rfl⟩:=hq.cells;obtain⟨b9,A9,n9,c9,rfl⟩:=hm.cells;have HQ:=Lib.hid hq;have HXZ:=Lib.hid (Hxz.out.ext hx4);clear hm hq Hxz cea0 cea1 fea cex0 cex1 fex;replace ea:=ea.ext hx4;replace ez:=ez.ext hx4;replace ex:=ex.ext hx4
   replace ht:=ht.ext hx4;replace hx:=hx.trans hx4;clear hx4;obtain⟨W5,eW5,e8,x5⟩:=Be.made w4 26 #[.bool b8,.slice A8 n8 c8] (by simp[Ag]);obtain⟨W6,eW6,-,x6⟩:=Be.made W5 26 #[.bool b9,.slice A9 n9 c9] (by simp[Ag]);replace e8:=e8.ext x6;have x56:=x5.trans x6;have HQ6:=Lib.hid (And.intro (HQ.out.ext x56) (HXZ.out.ext x56));clear HQ HXZ;replace ea:=ea.ext x56;replace ez:=ez.ext x56;replace ex:=ex.ext x56
   replace ht:=ht.ext x56;replace hx:=hx.trans x56;clear x56;clear x5 x6
   go_upto_region 6 with(fail)
   rw[←eW5,←eW6];clear eW5 eW6;generalize w4.heap.size=g8 at *;obtain⟨b6,A6,n6,c6,et,htz⟩:=ht;have Htz:=Lib.hid htz;clear htz;have hsum:sz (x+Y / x).natAbs≤30000:=by
    have h1:=Bf (Int.natAbs_add_le x (Y / x));have h2:=G6 x.natAbs (Y / x).natAbs;have h3:=Bf (Int.natAbs_ediv_le_natAbs Y x);have:=Hx.out.2;have:=HA.out.2;omega
   have hq9:sz (Y / x).natAbs≤1000:=Nat.le_trans (Bf (Int.natAbs_ediv_le_natAbs Y x)) HA.out.2;have HS:=Lib.hid (And.intro hsum hq9);clear hsum hq9;have hlt6:=ez.lt;obtain⟨cex0,cex1⟩:=ex.cells2;have fex:=ex.frozen;obtain⟨ce80,ce81⟩:=e8.cells2;have fe8:=e8.frozen;obtain⟨cet0,cet1⟩:=et.cells2;have fet:=et.frozen
   go_cut [11,12,13] (fun pv qv ev wx=>∃ gc,pv = .pointer (some ⟨gc,0,none⟩)∧Bh wx gc 26 ((x+Y / x) / 2)∧w.heap.size+1 < gc∧Ext W6 wx)
   case first =>
    refine Lv 11 [7,8] (fun x=>if x=7 then 12 else 13) [36,37,38,39,40,35,41,42,43,11,12] [[],[],[0,1],[],[0,1,2,3],[0,1,2,3,4],[0,1,2,3,4,5],[0,1,2,3,4,5],[0,1,2,3,4,5],[],[],[0,1,2,3,4,5,6,9,10],[0,1,2,3,4,5,6,7,9,10,11],[0,1,2,3,4,5,6,7,8,9,10,11,12]] [5,8,7] [_,_,_] [(kv ?_),(kv ?_),(fun γ=>γ 2),(kv ?_),(fun γ=>γ 4),(fun γ=>γ 4),(fun γ=>γ 6),(fun γ=>γ 7),(kv ?_),(fun γ=>γ 9),(fun γ=>γ 10)] (fun γ w'=>[True,True,AC w' (γ 2) (x+Y / x),True,Ng (x+Y / x) 2 (γ 4) w',True,AC w' (γ 6) ((x+Y / x) / 2),ZK (γ 4) (γ 7),True,AV w' (γ 9) W6.heap.size #[.bool false,.slice none 0 0] 26,AV w' (γ 10) W6.heap.size #[.bool false,.slice none 0 0] 26]) Bd Ah Ah Ah Ah Ah Bb Ah Bc ?hmono2 ?hstep2 ?_ ?hlate2
    case hstep2 =>
     iterate 11 refine⟨?_,?_⟩
     trivial
     iterate 2 focus
      intro γ w' he hf;clear hf;refine⟨by trivial,?_⟩;intro R hR;have hc:=he.cells;have cq0:=he.cell cex0;have cq1:=he.cell cex1;have cq2:=he.cell ce80;have cq3:=he.cell ce81;have cq4:=he.cell cet0;have cq5:=he.cell cet1;go_simp;refine hR _ _ (Ext.refl _) ?_ trivial;rfl
     ·intro γ w' he hf;clear hf;refine⟨trivial,?_⟩;intro R hR
      go_simp;exact AX (Ml _ _ x (Y / x) w' ((HQ6.out.2.ext he).has (by have:=Hx.out.2;omega)) ((HQ6.out.1.ext he).has (by have:=HS.out.2;omega))) hR
     iterate 1 focus
      intro γ w' he hf;clear hf;refine⟨by trivial,?_⟩;intro R hR;have hc:=he.cells;have cq0:=he.cell cex0;have cq1:=he.cell cex1;have cq2:=he.cell ce80;have cq3:=he.cell ce81;have cq4:=he.cell cet0;have cq5:=he.cell cet1;go_simp;refine hR _ _ (Ext.refl _) ?_ trivial;rfl
     ·intro γ w' he hf;have f2:AC w' (γ 2) (x+Y / x):=hf 2 Ab;clear hf;refine⟨trivial,?_⟩;intro R hR
      go_simp;exact AX (Kt _ _ _ 2 w' (f2.has (by have:=HS.out.1;omega)) ((Htz.out.ext he).has Ab)) hR
     ·intro γ w' he hf;clear hf;refine⟨trivial,?_⟩;intro R hR
      have hc:=he.cells;go_simp
      (try go_ints);(try(rw[if_neg Aa]));(try(rw[if_pos Aa]));(try go_simp);(try go_ints)
      refine hR _ _ (Ext.refl _) ?_ trivial;rfl
     ·intro γ w' he hf;have f4:Ng (x+Y / x) 2 (γ 4) w':=hf 4 Ab;clear hf;refine⟨trivial,?_⟩;intro R hR
      obtain⟨q',m',e,ha,hb⟩:=f4;go_simp;exact hR _ _ (Ext.refl _) rfl ha
     ·intro γ w' he hf;have f4:Ng (x+Y / x) 2 (γ 4) w':=hf 4 Ab;clear hf;refine⟨trivial,?_⟩;intro R hR
      obtain⟨q',m',e,ha,hb⟩:=f4;go_simp;exact hR _ _ (Ext.refl _) rfl ⟨_,_,e⟩
     ·intro γ w' he hf;have f4:Ng (x+Y / x) 2 (γ 4) w':=hf 4 Ab;clear hf;refine⟨trivial,?_⟩;intro R hR
      obtain⟨q',m',e,ha⟩:=f4;have hc:=he.cells;go_simp
      (try go_ints);(try(rw[if_neg Aa]));(try(rw[if_pos Aa]));(try go_simp);(try go_ints)
      refine hR _ _ (Ext.refl _) ?_ trivial;rfl
     ·intro γ w' he hf;clear hf;refine⟨trivial,?_⟩;intro R hR
      go_simp;exact hR _ _ ((Ext.refl _).alloc _) rfl (AV.mk (Nat.le_trans Ac he.size) (by simp[Ag]))
     ·intro γ w' he hf;clear hf;refine⟨trivial,?_⟩;intro R hR
      go_simp;exact hR _ _ ((Ext.refl _).alloc _) rfl (AV.mk (Nat.le_trans Ac he.size) (by simp[Ag]))
    case hmono2 =>
     exact⟨⟨⟨⟨⟨⟨⟨⟨⟨⟨⟨trivial,(fun γ wA w' e h=>h)⟩,(fun γ wA w' e h=>h)⟩,(fun γ wA w' e h=>(show AC wA (γ 2) (x+Y / x)from h).ext e)⟩,(fun γ wA w' e h=>h)⟩,(fun γ w w' e h=>VI h e)⟩,(fun γ wA w' e h=>h)⟩,(fun γ w w' e h=>AC.ext_ h e)⟩,(fun γ w w' e h=>h)⟩,(fun γ wA w' e h=>h)⟩,(fun γ wA w' e h=>(show AV wA (γ 9) W6.heap.size #[.bool false,.slice none 0 0] 26 from h).ext e)⟩,(fun γ wA w' e h=>(show AV wA (γ 10) W6.heap.size #[.bool false,.slice none 0 0] 26 from h).ext e)⟩
    case hlate2 =>
     intro Pn hPs hPn;rcases dY hPs hPn with rfl | rfl | rfl<;>clear hPs hPn
     ·intro γ w7 hx7 hF hA
      have na9x10:γ 9≠γ 10:=hA 9 10 Ab Ab Ab Ab Ab ⟨_,_,rfl,rfl⟩ ⟨_,_,rfl,rfl⟩;clear hA;have p2:AC w7 (γ 2) (x+Y / x):=(Au.get hF 2 Ab).resolve_left Ab;have p4:Ng (x+Y / x) 2 (γ 4) w7:=(Au.get hF 4 Ab).resolve_left Ab;have p6:AC w7 (γ 6) ((x+Y / x) / 2):=(Au.get hF 6 Ab).resolve_left Ab;have p9:AV w7 (γ 9) W6.heap.size #[.bool false,.slice none 0 0] 26:=(Au.get hF 9 Ab).resolve_left Ab;have p10:AV w7 (γ 10) W6.heap.size #[.bool false,.slice none 0 0] 26:=(Au.get hF 10 Ab).resolve_left Ab
      clear hF;show Bp _ _ _ _ 4 [7] 11 _ _;simp only[AZ,Nat.reduceAdd,DK,Array.getD_eq_getD_getElem?,List.getElem?_toArray,List.getElem?_cons_succ,List.getElem?_cons_zero,Option.getD_some];generalize γ 2=g2 at *;generalize γ 4=g4 at *;generalize γ 6=g6 at *;generalize γ 9=g9 at *;generalize γ 10=g10 at *;clear γ;obtain⟨q4,m4,rfl,ha4,hb4⟩:=p4;obtain⟨bm,Am,nm,cm,rfl⟩:=hb4.cells
      (try(obtain⟨_,_,h7⟩:=p7;cases h7))
      obtain⟨gc,rfl,hgc,ec⟩:=p9;obtain⟨gd,rfl,hgd,ed⟩:=p10;have hcd:gc≠gd:=fun e=>na9x10 (by rw[e]);clear na9x10;obtain⟨bq,Aq,nq,cq,rfl⟩:=p6.cells;clear cex0 cex1 ce80 ce81 cet0 cet1 p2 ha4 hb4;obtain⟨cec0,cec1⟩:=ec.cells2;have fec:=ec.frozen;obtain⟨ced0,ced1⟩:=ed.cells2;have fed:=ed.frozen;refine Bp.mk 3 ⟨?_,trivial⟩ (fun _=>?_)
      ·simp only[BR,List.toList_toArray,List.drop_succ_cons,List.drop_zero,List.take_succ_cons,List.take_zero]
       go_wp2;show Bp _ _ _ _ _ [] _ _ _;refine Bp.nil ?_;simp only[List.toList_toArray,List.drop_succ_cons,List.drop_zero];go_wp2;skip;obtain⟨W4,eW,ec',U⟩:=ec.put2 (.bool bq) (.slice Aq nq cq) rfl rfl;rw[←eW];clear eW ec;replace p6:=p6.kd U.kd;replace ed:=ed.upd U Ai;replace hx7:=U.from_ hx7 Ai;have ec:=ec';clear U ec';obtain⟨W8,eW,ed',U⟩:=ed.put2 (.bool bm) (.slice Am nm cm) rfl rfl;rw[←eW];clear eW ed
       replace p6:=p6.kd U.kd;replace ec:=ec.upd U Ai;replace hx7:=U.from_ hx7 Ai;have ed:=ed';clear U ed'
       go_meet
       case rel=>exact⟨gc,rfl,Bh.mk ec p6,Aa,hx7⟩
      ·simp only[BR,List.toList_toArray,List.drop_succ_cons,List.drop_zero,List.take_succ_cons,List.take_zero]
       go_wp2;refine Bp.mk 2 ⟨?_,trivial⟩ (fun h=>by cases(show false=true from h))
       ·simp only[BR,List.toList_toArray,List.drop_succ_cons,List.drop_zero,List.take_succ_cons,List.take_zero]
        go_wp2;show Bp _ _ _ _ _ [] _ _ _;refine Bp.nil ?_;simp only[List.toList_toArray,List.drop_succ_cons,List.drop_zero];go_wp2;skip;obtain⟨W4,eW,ec',U⟩:=ec.put2 (.bool bq) (.slice Aq nq cq) rfl rfl;rw[←eW];clear eW ec;replace p6:=p6.kd U.kd;replace ed:=ed.upd U Ai;replace hx7:=U.from_ hx7 Ai;have ec:=ec';clear U ec';obtain⟨W8,eW,ed',U⟩:=ed.put2 (.bool bm) (.slice Am nm cm) rfl rfl;rw[←eW];clear eW ed
        replace p6:=p6.kd U.kd;replace ec:=ec.upd U Ai;replace hx7:=U.from_ hx7 Ai;have ed:=ed';clear U ed'
        go_meet
        case rel=>exact⟨gc,rfl,Bh.mk ec p6,Aa,hx7⟩
     ·intro γ w7 hx7 hF hA
      have na9x10:γ 9≠γ 10:=hA 9 10 Ab Ab Ab Ab Ab ⟨_,_,rfl,rfl⟩ ⟨_,_,rfl,rfl⟩;clear hA;have p2:AC w7 (γ 2) (x+Y / x):=(Au.get hF 2 Ab).resolve_left Ab;have p4:Ng (x+Y / x) 2 (γ 4) w7:=(Au.get hF 4 Ab).resolve_left Ab;have p6:AC w7 (γ 6) ((x+Y / x) / 2):=(Au.get hF 6 Ab).resolve_left Ab;have p7:ZK (γ 4) (γ 7):=(Au.get hF 7 Ab).resolve_left Ab;have p9:AV w7 (γ 9) W6.heap.size #[.bool false,.slice none 0 0] 26:=(Au.get hF 9 Ab).resolve_left Ab
      have p10:AV w7 (γ 10) W6.heap.size #[.bool false,.slice none 0 0] 26:=(Au.get hF 10 Ab).resolve_left Ab;clear hF;show Bp _ _ _ _ 4 [8] 11 _ _;simp only[AZ,Nat.reduceAdd,DK,Array.getD_eq_getD_getElem?,List.getElem?_toArray,List.getElem?_cons_succ,List.getElem?_cons_zero,Option.getD_some];generalize γ 2=g2 at *;generalize γ 4=g4 at *;generalize γ 6=g6 at *;generalize γ 7=g7 at *;generalize γ 9=g9 at *
      generalize γ 10=g10 at *;clear γ;obtain⟨q4,m4,rfl,ha4,hb4⟩:=p4;obtain⟨bm,Am,nm,cm,rfl⟩:=hb4.cells
      (try(obtain⟨_,_,h7⟩:=p7;cases h7))
      obtain⟨gc,rfl,hgc,ec⟩:=p9;obtain⟨gd,rfl,hgd,ed⟩:=p10;have hcd:gc≠gd:=fun e=>na9x10 (by rw[e]);clear na9x10;obtain⟨bq,Aq,nq,cq,rfl⟩:=p6.cells;clear cex0 cex1 ce80 ce81 cet0 cet1 p2 ha4 hb4;obtain⟨cec0,cec1⟩:=ec.cells2;have fec:=ec.frozen;obtain⟨ced0,ced1⟩:=ed.cells2;have fed:=ed.frozen;refine Bp.mk 3 ⟨?_,trivial⟩ (fun _=>?_)
      ·simp only[BR,List.toList_toArray,List.drop_succ_cons,List.drop_zero,List.take_succ_cons,List.take_zero]
       go_wp2;show Bp _ _ _ _ _ [] _ _ _;refine Bp.nil ?_;simp only[List.toList_toArray,List.drop_succ_cons,List.drop_zero];go_wp2;skip;obtain⟨W4,eW,ec',U⟩:=ec.put2 (.bool bq) (.slice Aq nq cq) rfl rfl;rw[←eW];clear eW ec;replace p6:=p6.kd U.kd;replace ed:=ed.upd U Ai;replace hx7:=U.from_ hx7 Ai;have ec:=ec';clear U ec';obtain⟨W8,eW,ed',U⟩:=ed.put2 (.bool bm) (.slice Am nm cm) rfl rfl;rw[←eW];clear eW ed
       replace p6:=p6.kd U.kd;replace ec:=ec.upd U Ai;replace hx7:=U.from_ hx7 Ai;have ed:=ed';clear U ed'
       go_meet
       case rel=>exact⟨gc,rfl,Bh.mk ec p6,Aa,hx7⟩
      ·simp only[BR,List.toList_toArray,List.drop_succ_cons,List.drop_zero,List.take_succ_cons,List.take_zero]
       go_wp2;refine Bp.mk 2 ⟨?_,trivial⟩ (fun _=>?_)
       ·simp only[BR,List.toList_toArray,List.drop_succ_cons,List.drop_zero,List.take_succ_cons,List.take_zero]
        go_wp2;show Bp _ _ _ _ _ [] _ _ _;refine Bp.nil ?_;simp only[List.toList_toArray,List.drop_succ_cons,List.drop_zero];go_wp2;skip;obtain⟨W4,eW,ec',U⟩:=ec.put2 (.bool bq) (.slice Aq nq cq) rfl rfl;rw[←eW];clear eW ec;replace p6:=p6.kd U.kd;replace ed:=ed.upd U Ai;replace hx7:=U.from_ hx7 Ai;have ec:=ec';clear U ec';obtain⟨W8,eW,ed',U⟩:=ed.put2 (.bool bm) (.slice Am nm cm) rfl rfl;rw[←eW];clear eW ed
        replace p6:=p6.kd U.kd;replace ec:=ec.upd U Ai;replace hx7:=U.from_ hx7 Ai;have ed:=ed';clear U ed'
        go_meet
        case rel=>exact⟨gc,rfl,Bh.mk ec p6,Aa,hx7⟩
       ·simp only[BR,List.toList_toArray,List.drop_succ_cons,List.drop_zero,List.take_succ_cons,List.take_zero]
        go_wp2;refine Bp.mk 1 ⟨?_,trivial⟩ (fun h=>by cases(show false=true from h))
        ·simp only[BR,List.toList_toArray,List.drop_succ_cons,List.drop_zero,List.take_succ_cons,List.take_zero]
         go_wp2;show Bp _ _ _ _ _ [] _ _ _;refine Bp.nil ?_;simp only[List.toList_toArray,List.drop_succ_cons,List.drop_zero];go_wp2;skip;obtain⟨W4,eW,ec',U⟩:=ec.put2 (.bool bq) (.slice Aq nq cq) rfl rfl;rw[←eW];clear eW ec;replace p6:=p6.kd U.kd;replace ed:=ed.upd U Ai;replace hx7:=U.from_ hx7 Ai;have ec:=ec';clear U ec';obtain⟨W8,eW,ed',U⟩:=ed.put2 (.bool bm) (.slice Am nm cm) rfl rfl;rw[←eW];clear eW ed
         replace p6:=p6.kd U.kd;replace ec:=ec.upd U Ai;replace hx7:=U.from_ hx7 Ai;have ed:=ed';clear U ed'
         go_meet
         case rel=>exact⟨gc,rfl,Bh.mk ec p6,Aa,hx7⟩
     ·intro γ w7 hx7 hF hA
      have na9x10:γ 9≠γ 10:=hA 9 10 Ab Ab Ab Ab Ab ⟨_,_,rfl,rfl⟩ ⟨_,_,rfl,rfl⟩;clear hA;have p2:AC w7 (γ 2) (x+Y / x):=(Au.get hF 2 Ab).resolve_left Ab;have p4:Ng (x+Y / x) 2 (γ 4) w7:=(Au.get hF 4 Ab).resolve_left Ab;have p6:AC w7 (γ 6) ((x+Y / x) / 2):=(Au.get hF 6 Ab).resolve_left Ab;have p9:AV w7 (γ 9) W6.heap.size #[.bool false,.slice none 0 0] 26:=(Au.get hF 9 Ab).resolve_left Ab;have p10:AV w7 (γ 10) W6.heap.size #[.bool false,.slice none 0 0] 26:=(Au.get hF 10 Ab).resolve_left Ab
      clear hF;show Bp _ _ _ _ 5 [7,8] 11 _ _;simp only[AZ,Nat.reduceAdd,DK,Array.getD_eq_getD_getElem?,List.getElem?_toArray,List.getElem?_cons_succ,List.getElem?_cons_zero,Option.getD_some];generalize γ 2=g2 at *;generalize γ 4=g4 at *;generalize γ 6=g6 at *;generalize γ 9=g9 at *;generalize γ 10=g10 at *;clear γ;obtain⟨q4,m4,rfl,ha4,hb4⟩:=p4;obtain⟨bm,Am,nm,cm,rfl⟩:=hb4.cells
      (try(obtain⟨_,_,h7⟩:=p7;cases h7))
      obtain⟨gc,rfl,hgc,ec⟩:=p9;obtain⟨gd,rfl,hgd,ed⟩:=p10;have hcd:gc≠gd:=fun e=>na9x10 (by rw[e]);clear na9x10;obtain⟨bq,Aq,nq,cq,rfl⟩:=p6.cells;clear cex0 cex1 ce80 ce81 cet0 cet1 p2 ha4 hb4;obtain⟨cec0,cec1⟩:=ec.cells2;have fec:=ec.frozen;obtain⟨ced0,ced1⟩:=ed.cells2;have fed:=ed.frozen;refine Bp.mk 4 ⟨?_,?_,trivial⟩ (fun _=>?_)
      ·simp only[BR,List.toList_toArray,List.drop_succ_cons,List.drop_zero,List.take_succ_cons,List.take_zero]
       go_wp2;show Bp _ _ _ _ _ [8] _ _ _;refine Bp.mk 3 ⟨?_,trivial⟩ (fun _=>?_)
       ·simp only[BR,List.toList_toArray,List.drop_succ_cons,List.drop_zero,List.take_succ_cons,List.take_zero]
        go_wp2;show Bp _ _ _ _ _ [] _ _ _;refine Bp.nil ?_;simp only[List.toList_toArray,List.drop_succ_cons,List.drop_zero];go_wp2;skip;obtain⟨W4,eW,ec',U⟩:=ec.put2 (.bool bq) (.slice Aq nq cq) rfl rfl;rw[←eW];clear eW ec;replace p6:=p6.kd U.kd;replace ed:=ed.upd U Ai;replace hx7:=U.from_ hx7 Ai;have ec:=ec';clear U ec';obtain⟨W8,eW,ed',U⟩:=ed.put2 (.bool bm) (.slice Am nm cm) rfl rfl;rw[←eW];clear eW ed
        replace p6:=p6.kd U.kd;replace ec:=ec.upd U Ai;replace hx7:=U.from_ hx7 Ai;have ed:=ed';clear U ed'
        go_meet
        case rel=>exact⟨gc,rfl,Bh.mk ec p6,Aa,hx7⟩
       ·simp only[BR,List.toList_toArray,List.drop_succ_cons,List.drop_zero,List.take_succ_cons,List.take_zero]
        go_wp2;refine Bp.mk 2 ⟨?_,trivial⟩ (fun _=>?_)
        ·simp only[BR,List.toList_toArray,List.drop_succ_cons,List.drop_zero,List.take_succ_cons,List.take_zero]
         go_wp2;show Bp _ _ _ _ _ [] _ _ _;refine Bp.nil ?_;simp only[List.toList_toArray,List.drop_succ_cons,List.drop_zero];go_wp2;skip;obtain⟨W4,eW,ec',U⟩:=ec.put2 (.bool bq) (.slice Aq nq cq) rfl rfl;rw[←eW];clear eW ec;replace p6:=p6.kd U.kd;replace ed:=ed.upd U Ai;replace hx7:=U.from_ hx7 Ai;have ec:=ec';clear U ec';obtain⟨W8,eW,ed',U⟩:=ed.put2 (.bool bm) (.slice Am nm cm) rfl rfl;rw[←eW];clear eW ed
         replace p6:=p6.kd U.kd;replace ec:=ec.upd U Ai;replace hx7:=U.from_ hx7 Ai;have ed:=ed';clear U ed'
         go_meet
         case rel=>exact⟨gc,rfl,Bh.mk ec p6,Aa,hx7⟩
        ·simp only[BR,List.toList_toArray,List.drop_succ_cons,List.drop_zero,List.take_succ_cons,List.take_zero]
         go_wp2;refine Bp.mk 1 ⟨?_,trivial⟩ (fun h=>by cases(show false=true from h))
         ·simp only[BR,List.toList_toArray,List.drop_succ_cons,List.drop_zero,List.take_succ_cons,List.take_zero]
          go_wp2;show Bp _ _ _ _ _ [] _ _ _;refine Bp.nil ?_;simp only[List.toList_toArray,List.drop_succ_cons,List.drop_zero];go_wp2;skip;obtain⟨W4,eW,ec',U⟩:=ec.put2 (.bool bq) (.slice Aq nq cq) rfl rfl;rw[←eW];clear eW ec;replace p6:=p6.kd U.kd;replace ed:=ed.upd U Ai;replace hx7:=U.from_ hx7 Ai;have ec:=ec';clear U ec';obtain⟨W8,eW,ed',U⟩:=ed.put2 (.bool bm) (.slice Am nm cm) rfl rfl;rw[←eW];clear eW ed
          replace p6:=p6.kd U.kd;replace ec:=ec.upd U Ai;replace hx7:=U.from_ hx7 Ai;have ed:=ed';clear U ed'
          go_meet
          case rel=>exact⟨gc,rfl,Bh.mk ec p6,Aa,hx7⟩
      ·simp only[BR,List.toList_toArray,List.drop_succ_cons,List.drop_zero,List.take_succ_cons,List.take_zero]
       go_wp2;show Bp _ _ _ _ _ [7] _ _ _;refine Bp.mk 3 ⟨?_,trivial⟩ (fun _=>?_)
       ·simp only[BR,List.toList_toArray,List.drop_succ_cons,List.drop_zero,List.take_succ_cons,List.take_zero]
        go_wp2;show Bp _ _ _ _ _ [] _ _ _;refine Bp.nil ?_;simp only[List.toList_toArray,List.drop_succ_cons,List.drop_zero];go_wp2;skip;obtain⟨W4,eW,ec',U⟩:=ec.put2 (.bool bq) (.slice Aq nq cq) rfl rfl;rw[←eW];clear eW ec;replace p6:=p6.kd U.kd;replace ed:=ed.upd U Ai;replace hx7:=U.from_ hx7 Ai;have ec:=ec';clear U ec';obtain⟨W8,eW,ed',U⟩:=ed.put2 (.bool bm) (.slice Am nm cm) rfl rfl;rw[←eW];clear eW ed
        replace p6:=p6.kd U.kd;replace ec:=ec.upd U Ai;replace hx7:=U.from_ hx7 Ai;have ed:=ed';clear U ed'
        go_meet
        case rel=>exact⟨gc,rfl,Bh.mk ec p6,Aa,hx7⟩
       ·simp only[BR,List.toList_toArray,List.drop_succ_cons,List.drop_zero,List.take_succ_cons,List.take_zero]
        go_wp2;refine Bp.mk 2 ⟨?_,trivial⟩ (fun h=>by cases(show false=true from h))
        ·simp only[BR,List.toList_toArray,List.drop_succ_cons,List.drop_zero,List.take_succ_cons,List.take_zero]
         go_wp2;show Bp _ _ _ _ _ [] _ _ _;refine Bp.nil ?_;simp only[List.toList_toArray,List.drop_succ_cons,List.drop_zero];go_wp2;skip;obtain⟨W4,eW,ec',U⟩:=ec.put2 (.bool bq) (.slice Aq nq cq) rfl rfl;rw[←eW];clear eW ec;replace p6:=p6.kd U.kd;replace ed:=ed.upd U Ai;replace hx7:=U.from_ hx7 Ai;have ec:=ec';clear U ec';obtain⟨W8,eW,ed',U⟩:=ed.put2 (.bool bm) (.slice Am nm cm) rfl rfl;rw[←eW];clear eW ed
         replace p6:=p6.kd U.kd;replace ec:=ec.upd U Ai;replace hx7:=U.from_ hx7 Ai;have ed:=ed';clear U ed'
         go_meet
         case rel=>exact⟨gc,rfl,Bh.mk ec p6,Aa,hx7⟩
      ·simp only[BR,List.toList_toArray,List.drop_succ_cons,List.drop_zero,List.take_succ_cons,List.take_zero]
       go_wp2;refine Bp.mk 3 ⟨?_,?_,trivial⟩ (fun h=>by cases(show false=true from h))
       ·simp only[BR,List.toList_toArray,List.drop_succ_cons,List.drop_zero,List.take_succ_cons,List.take_zero]
        go_wp2;show Bp _ _ _ _ _ [8] _ _ _;refine Bp.mk 2 ⟨?_,trivial⟩ (fun _=>?_)
        ·simp only[BR,List.toList_toArray,List.drop_succ_cons,List.drop_zero,List.take_succ_cons,List.take_zero]
         go_wp2;show Bp _ _ _ _ _ [] _ _ _;refine Bp.nil ?_;simp only[List.toList_toArray,List.drop_succ_cons,List.drop_zero];go_wp2;skip;obtain⟨W4,eW,ec',U⟩:=ec.put2 (.bool bq) (.slice Aq nq cq) rfl rfl;rw[←eW];clear eW ec;replace p6:=p6.kd U.kd;replace ed:=ed.upd U Ai;replace hx7:=U.from_ hx7 Ai;have ec:=ec';clear U ec';obtain⟨W8,eW,ed',U⟩:=ed.put2 (.bool bm) (.slice Am nm cm) rfl rfl;rw[←eW];clear eW ed
         replace p6:=p6.kd U.kd;replace ec:=ec.upd U Ai;replace hx7:=U.from_ hx7 Ai;have ed:=ed';clear U ed'
         go_meet
         case rel=>exact⟨gc,rfl,Bh.mk ec p6,Aa,hx7⟩
        ·simp only[BR,List.toList_toArray,List.drop_succ_cons,List.drop_zero,List.take_succ_cons,List.take_zero]
         go_wp2;refine Bp.mk 1 ⟨?_,trivial⟩ (fun h=>by cases(show false=true from h))
         ·simp only[BR,List.toList_toArray,List.drop_succ_cons,List.drop_zero,List.take_succ_cons,List.take_zero]
          go_wp2;show Bp _ _ _ _ _ [] _ _ _;refine Bp.nil ?_;simp only[List.toList_toArray,List.drop_succ_cons,List.drop_zero];go_wp2;skip;obtain⟨W4,eW,ec',U⟩:=ec.put2 (.bool bq) (.slice Aq nq cq) rfl rfl;rw[←eW];clear eW ec;replace p6:=p6.kd U.kd;replace ed:=ed.upd U Ai;replace hx7:=U.from_ hx7 Ai;have ec:=ec';clear U ec';obtain⟨W8,eW,ed',U⟩:=ed.put2 (.bool bm) (.slice Am nm cm) rfl rfl;rw[←eW];clear eW ed
          replace p6:=p6.kd U.kd;replace ec:=ec.upd U Ai;replace hx7:=U.from_ hx7 Ai;have ed:=ed';clear U ed'
          go_meet
          case rel=>exact⟨gc,rfl,Bh.mk ec p6,Aa,hx7⟩
       ·simp only[BR,List.toList_toArray,List.drop_succ_cons,List.drop_zero,List.take_succ_cons,List.take_zero]
        go_wp2;show Bp _ _ _ _ _ [7] _ _ _;refine Bp.mk 2 ⟨?_,trivial⟩ (fun h=>by cases(show false=true from h))
        ·simp only[BR,List.toList_toArray,List.drop_succ_cons,List.drop_zero,List.take_succ_cons,List.take_zero]
         go_wp2;show Bp _ _ _ _ _ [] _ _ _;refine Bp.nil ?_;simp only[List.toList_toArray,List.drop_succ_cons,List.drop_zero];go_wp2;skip;obtain⟨W4,eW,ec',U⟩:=ec.put2 (.bool bq) (.slice Aq nq cq) rfl rfl;rw[←eW];clear eW ec;replace p6:=p6.kd U.kd;replace ed:=ed.upd U Ai;replace hx7:=U.from_ hx7 Ai;have ec:=ec';clear U ec';obtain⟨W8,eW,ed',U⟩:=ed.put2 (.bool bm) (.slice Am nm cm) rfl rfl;rw[←eW];clear eW ed
         replace p6:=p6.kd U.kd;replace ec:=ec.upd U Ai;replace hx7:=U.from_ hx7 Ai;have ed:=ed';clear U ed'
         go_meet
         case rel=>exact⟨gc,rfl,Bh.mk ec p6,Aa,hx7⟩
    intro γ w7 hx7 hF hA;have na9x10:γ 9≠γ 10:=hA 9 10 Ab Ab Ab ⟨_,_,rfl,rfl⟩ ⟨_,_,rfl,rfl⟩;clear hA;have p2:AC w7 (γ 2) (x+Y / x):=Au.get hF 2 Ab;have p4:Ng (x+Y / x) 2 (γ 4) w7:=Au.get hF 4 Ab;have p6:AC w7 (γ 6) ((x+Y / x) / 2):=Au.get hF 6 Ab;have p7:ZK (γ 4) (γ 7):=Au.get hF 7 Ab;have p9:AV w7 (γ 9) W6.heap.size #[.bool false,.slice none 0 0] 26:=Au.get hF 9 Ab;have p10:AV w7 (γ 10) W6.heap.size #[.bool false,.slice none 0 0] 26:=Au.get hF 10 Ab
    clear hF;simp only[AZ,Nat.reduceAdd];generalize γ 2=g2 at *;generalize γ 4=g4 at *;generalize γ 6=g6 at *;generalize γ 7=g7 at *;generalize γ 9=g9 at *;generalize γ 10=g10 at *;clear γ;obtain⟨q4,m4,rfl,ha4,hb4⟩:=p4;obtain⟨bm,Am,nm,cm,rfl⟩:=hb4.cells
    (try(obtain⟨_,_,h7⟩:=p7;cases h7))
    obtain⟨gc,rfl,hgc,ec⟩:=p9;obtain⟨gd,rfl,hgd,ed⟩:=p10;have hcd:gc≠gd:=fun e=>na9x10 (by rw[e]);clear na9x10;obtain⟨bq,Aq,nq,cq,rfl⟩:=p6.cells;clear cex0 cex1 ce80 ce81 cet0 cet1 p2 ha4 hb4;obtain⟨cec0,cec1⟩:=ec.cells2;have fec:=ec.frozen;obtain⟨ced0,ced1⟩:=ed.cells2;have fed:=ed.frozen;go_wp2;skip;obtain⟨W4,eW,ec',U⟩:=ec.put2 (.bool bq) (.slice Aq nq cq) rfl rfl;rw[←eW];clear eW ec;replace p6:=p6.kd U.kd
    replace ed:=ed.upd U Ai;replace hx7:=U.from_ hx7 Ai;have ec:=ec';clear U ec';obtain⟨W8,eW,ed',U⟩:=ed.put2 (.bool bm) (.slice Am nm cm) rfl rfl;rw[←eW];clear eW ed;replace p6:=p6.kd U.kd;replace ec:=ec.upd U Ai;replace hx7:=U.from_ hx7 Ai;have ed:=ed';clear U ed'
    go_meet
    case rel=>exact⟨gc,rfl,Bh.mk ec p6,Aa,hx7⟩
   case rest =>
    clear cex0 cex1 fex ce80 ce81 fe8 cet0 cet1 fet hlt6;obtain⟨gc,rfl,⟨bq,Aq,nq,cq,ec,hy⟩,hgc,hx7⟩:=hcut;rename_i wy;have Hy:=Lib.hid (And.intro hy (And.intro (HQ6.out.2.ext hx7) (RZ HA.out.1 Hx.out.1)));have HT:=Lib.hid (Htz.out.ext hx7);clear hy HQ6 e8 Htz;replace ea:=ea.ext hx7;replace ez:=ez.ext hx7;replace ex:=ex.ext hx7;replace et:=et.ext hx7;replace hx:=hx.trans hx7;clear hx7;obtain⟨cex0,cex1⟩:=ex.cells2
    have fex:=ex.frozen;obtain⟨cec0,cec1⟩:=ec.cells2;have fec:=ec.frozen
    go_wp2_with fail
    refine Calls.mono (ZE _ _ ((x+Y / x) / 2) x _ (Hy.out.1.has (by have h1:=Int.natAbs_ediv_le_natAbs (x+Y / x) 2;have h2:=Bf h1;have:=HS.out.1;omega)) (Hy.out.2.1.has (by have:=Hx.out.2;omega))) ?_;rintro e w10 ⟨r10,rfl,rfl,hx10⟩;have Hy':=Lib.hid (Hy.out.1.ext_ hx10);have Hx':=Lib.hid (Hy.out.2.1.ext_ hx10);have HT':=Lib.hid (HT.out.ext_ hx10);clear cex0 cex1 fex cec0 cec1 fec HT;replace ea:=ea.ext hx10
    replace ez:=ez.ext hx10;replace ex:=ex.ext hx10;replace et:=et.ext hx10;replace ec:=ec.ext hx10;replace hx:=hx.trans hx10;clear hx10;by_cases hge:(x+Y / x) / 2 < x
    ·have hsg:((x+Y / x) / 2 - x).sign = -1:=Int.sign_eq_neg_one_of_neg Aa
     rw[hsg];obtain⟨cex0,cex1⟩:=ex.cells2;have fex:=ex.frozen;obtain⟨cec0,cec1⟩:=ec.cells2;have fec:=ec.frozen
     go_upto_region 8 with(fail)
     have hy:=Hy'.out;have ht:=HT'.out;go_wp2;have hxg:=ex.lt;obtain⟨W11,eW,ex',U⟩:=ex.put2 (.bool bq) (.slice Aq nq cq) rfl rfl;rw[←eW];clear eW ex;replace hy:=hy.kd U.kd;replace ht:=ht.kd U.kd;replace ea:=ea.upd U Ai;replace ez:=ez.upd U Ai;replace et:=et.upd U Ai;replace hx:=U.from_ hx Ai;have ex:=ex';clear U ex';have hb1:=KG (Bh.mk ex hy);have hpos:=Hy.out.2.2;have hx0:=Hx.out.1;have hmul:((x+Y / x) / 2).natAbs < x.natAbs:=by omega
     go_roundw
     case rel=>exact⟨(x+Y / x) / 2,hpos,Nat.le_trans (Bf (Nat.le_of_lt hmul)) Hx.out.2,ea,ez,Bh.mk ex hy,Bh.mk et ht,hx⟩
     case measure=>rw[hb1,Hb2.out];exact hmul
    ·have hsg:0≤((x+Y / x) / 2 - x).sign:=by
      rcases Int.lt_or_eq_of_le (show 0≤(x+Y / x) / 2 - x by omega)with q | q
      ·rw[Int.sign_eq_one_of_pos q];decide
      ·rw[←q];decide
     generalize ((x+Y / x) / 2 - x).sign=sg at *;have hmz:sz (x*x).natAbs≤1099511627776:=by
      rw[Int.natAbs_mul];have:=BU x.natAbs x.natAbs;have:=Hx.out.2;omega
     have HM:=Lib.hid hmz;clear hmz;obtain⟨cex0,cex1⟩:=ex.cells2;have fex:=ex.frozen;obtain⟨cea0,cea1⟩:=ea.cells2;have fea:=ea.frozen;obtain⟨cez0,cez1⟩:=ez.cells2;have fez:=ez.frozen
     go_upto_region 9 with(fail)
     have hxz:=Hx'.out;clear ec hge hgc;refine BJ 7 6 1 [49,50,51,52,53,54,55] [[],[],[],[1,2],[],[1,2,3,4],[1,2,3,4,5],[0,1,2,3,4,5],[0,1,2,3,4,5,6,7],[0,1,2,3,4,5,6,7,8]] [5,1] [_,_] [(kv ?_),(kv ?_),(kv ?_),(fun γ=>γ 3),(kv ?_),(kv (.int .i64 (x*x - Y).sign)),(kv (.bool ((x*x - Y).sign==0)))] (fun γ w'=>[True,True,True,AC w' (γ 3) (x*x),True,True,True]) _ rfl Bd Ah Ah Ah Ah Ah Bb Ah Bc Bg ?hstep3 ?_ ?hlate3
     case hstep3 =>
      iterate 7 refine⟨?_,?_⟩
      trivial
      iterate 3 focus
       intro γ w' he hf;clear hf;refine⟨by trivial,?_⟩;intro R hR;have hc:=he.cells;have cq0:=he.cell cex0;have cq1:=he.cell cex1;have cq2:=he.cell cea0;have cq3:=he.cell cea1;go_simp;refine hR _ _ (Ext.refl _) ?_ trivial;rfl
      ·intro γ w' he hf;clear hf;refine⟨trivial,?_⟩;intro R hR
       go_simp;exact AX (Dh _ _ x x w' ((Hx'.out.ext_ he).has (by have:=Hx.out.2;omega)) ((Hx'.out.ext_ he).has (by have:=Hx.out.2;omega))) hR
      iterate 1 focus
       intro γ w' he hf;clear hf;refine⟨by trivial,?_⟩;intro R hR;have hc:=he.cells;have cq0:=he.cell cex0;have cq1:=he.cell cex1;have cq2:=he.cell cea0;have cq3:=he.cell cea1;go_simp;refine hR _ _ (Ext.refl _) ?_ trivial;rfl
      ·intro γ w' he hf;have f3:AC w' (γ 3) (x*x):=hf 3 Ab;clear hf;refine⟨trivial,?_⟩;intro R hR
       go_simp;exact Q8 (ZE _ _ (x*x) Y w' (f3.has HM.out) (HV.out.ext (hx.trans he))) hR
      ·intro γ w' he hf;clear hf;refine⟨trivial,?_⟩;intro R hR
       have hc:=he.cells;go_simp
       (try go_ints);(try(rw[if_neg Aa]));(try(rw[if_pos Aa]));(try go_simp);(try go_ints)
       refine hR _ _ (Ext.refl _) ?_ trivial;rfl
     case hlate3 =>
      intro γ w11 hx11 hF;have p3:AC w11 (γ 3) (x*x):=(Au.get hF 3 Ab).resolve_left Ab;clear hF;simp only[AZ,Nat.reduceAdd,EB,Array.getD_eq_getD_getElem?,List.getElem?_toArray,List.getElem?_cons_succ,List.getElem?_cons_zero,Option.getD_some];generalize γ 3=g3 at *;clear γ;skip;clear cex0 cex1 fex cea0 cea1 fea cez0 cez1 fez p3;replace hxz:=hxz.ext_ hx11;replace ez:=ez.ext hx11;replace hx:=hx.trans hx11
      clear hx11;obtain⟨cez0,cez1⟩:=ez.cells2;have fez:=ez.frozen;go_wp2;refine⟨?_,trivial⟩;go_wp2;skip;obtain⟨W12,eW,ez',U⟩:=ez.put2 (.bool b7) (.slice A7 n7 c7) rfl rfl;rw[←eW];clear eW ez;replace hxz:=hxz.kd U.kd;replace hx:=U.from_ hx Ai;have ez:=ez';clear U ez';clear cez0 cez1 fez;obtain⟨cez0,cez1⟩:=ez.cells2;have fez:=ez.frozen;refine bodyPost_ret (v := .tuple #[.agg #[.bool b7,.slice A7 n7 c7],.bool ((x*x - Y).sign==0),.int .i64 0]) (by simp[results,Tryz.results175,go_sem,cez0,cez1]) rfl ?_
      exact Ad.mk ⟨_,x,_,rfl,hxz,Hx.out.1,Hx.out.2⟩ hx
     intro γ w11 hx11 hF;have p3:AC w11 (γ 3) (x*x):=Au.get hF 3 Ab;clear hF;simp only[AZ,Nat.reduceAdd];generalize γ 3=g3 at *;clear γ;skip;clear cex0 cex1 fex cea0 cea1 fea cez0 cez1 fez p3;replace hxz:=hxz.ext_ hx11;replace ez:=ez.ext hx11;replace hx:=hx.trans hx11;clear hx11;obtain⟨cez0,cez1⟩:=ez.cells2;have fez:=ez.frozen;go_wp2;skip;obtain⟨W12,eW,ez',U⟩:=ez.put2 (.bool b7) (.slice A7 n7 c7) rfl rfl
     rw[←eW];clear eW ez;replace hxz:=hxz.kd U.kd;replace hx:=U.from_ hx Ai;have ez:=ez';clear U ez';clear cez0 cez1 fez;obtain⟨cez0,cez1⟩:=ez.cells2;have fez:=ez.frozen;refine bodyPost_ret (v := .tuple #[.agg #[.bool b7,.slice A7 n7 c7],.bool ((x*x - Y).sign==0),.int .i64 0]) (by simp[results,Tryz.results175,go_sem,cez0,cez1]) rfl ?_;exact Ad.mk ⟨_,x,_,rfl,hxz,Hx.out.1,Hx.out.2⟩ hx
end Go.Proofs.YtmhgnigpmompmaaGreat
namespace Go.Hp
def GY(F G D:Nat→Rat):Prop:=Af D∧ZI D∧(D≠pz→0 < ld D)∧cn D=Nat.gcd (cn F) (cn G)∧Ld F G (mn D)
structure Ia(F0 G0:Nat→Rat)(D S:Nat)(A B:Nat→Rat):Prop where
 fA:Af A
 fB:Af B
 zA:ZI A
 zB:ZI B
 pA:pp A=A
 pB:pp B=B
 dv:∀ E,Af E→(Dv E A∧Dv E B↔Dv E F0∧Dv E G0)
 deg:pl A+pl B≤D
 qA:∀ i,qsz (A i)+1≤(S+1)*2^(D - (pl A+pl B))
 qB:∀ i,qsz (B i)+1≤(S+1)*2^(D - (pl A+pl B))
theorem Fw{a:Rat}(ha:a≠0){E F:Nat→Rat}:Dv E (psc a F)↔Dv E F:=
 ⟨fun h=>by have:=h.psc (1 / a);rwa[Y6 ha]at this,fun h=>h.psc a⟩
theorem KT{E F:Nat→Rat}(z:ZI F)(f:Af F):Dv E (pp F)↔Dv E F:=by
 by_cases h0:F=pz
 ·rw[h0,Gq]
 ·have hn:(1:Rat) / (pcn F:Rat)≠0:=MM (by have:=Ef z f h0;exact_mod_cast this)
  exact Fw hn
theorem Ia.start{F G:Nat→Rat}{S:Nat}(fF:Af F)(fG:Af G)(zF:ZI F)(zG:ZI G)(qF:∀ i,qsz (F i)≤S)(qG:∀ i,qsz (G i)≤S):Ia F G (pl F+pl G) S (pp F) (pp G) where
 fA:=Dm fF
 fB:=Dm fG
 zA:=I8 zF fF
 zB:=I8 zG fG
 pA:=Wp zF fF
 pB:=Wp zG fG
 dv:=fun E _=>by rw[KT zF fF,KT zG fG]
 deg:=by rw[Ep zF fF,Ep zG fG];exact Nat.le_refl _
 qA:=fun i=>by have:=Fj zF fF qF i;have h:0 < 2^(pl F+pl G - (pl (pp F)+pl (pp G))):=Nat.pow_pos Ab;have:=Nat.le_mul_of_pos_right (S+1) h;omega
 qB:=fun i=>by have:=Fj zG fG qG i;have h:0 < 2^(pl F+pl G - (pl (pp F)+pl (pp G))):=Nat.pow_pos Ab;have:=Nat.le_mul_of_pos_right (S+1) h;omega
theorem Ia.room{F0 G0 A B:Nat→Rat}{D S:Nat}(h:Ia F0 G0 D S A B){R:Nat→Rat}(hR:R=CX A B (pl A+1 - pl B)) :
  (∀ i,qsz (A i)≤(S+1)*2^D)∧(∀ i,qsz (B i)≤(S+1)*2^D)∧(∀ i,qsz (R i)+1≤(S+1)*2^(D - (pl A+pl B)+(pl A+1 - pl B))):=by
 have up:∀ a:Nat,a≤D→(S+1)*2^a≤(S+1)*2^D:=fun a ha=>Nat.mul_le_mul_left _ (Nat.pow_le_pow_right Ab ha);have h1:=up (D - (pl A+pl B)) Aa;refine⟨fun i=>by have:=h.qA i;omega,fun i=>by have:=h.qB i;omega,fun i=>?_⟩;obtain⟨M,hM⟩:∃ M,M=(S+1)*2^(D - (pl A+pl B)):=⟨_,rfl⟩
 have hp:0 < M:=by rw[hM];exact Nat.mul_pos Aa (Nat.pow_pos Ab)
 have h2:=Gz (s:=M - 1) (t:=M - 1) h.zA h.zB (fun i=>by have:=h.qA i;omega) (fun i=>by have:=h.qB i;omega) (pl A+1 - pl B) i;rw[←hR]at h2;rw[Nat.pow_add,←Nat.mul_assoc,←hM];have h3:=Ma (pl A+1 - pl B);have h4:M*(pl A+1 - pl B+1)≤M*2^(pl A+1 - pl B):=Nat.mul_le_mul_left _ h3;rw[Nat.mul_succ,Nat.mul_comm M]at h4;rw[show M - 1+1=M from by omega]at h2;omega
theorem Tx{F G:Nat→Rat}(hF:Af F)(hG:Af G)(h0:G≠pz):Af (CX F G (pl F+1 - pl G)):=by
 rw[(JO hF hG h0).2];exact(Ex hF hG).psc _
theorem U5{F G:Nat→Rat}(hF:Af F)(hG:Af G)(h0:G≠pz):pl (CX F G (pl F+1 - pl G)) < pl G:=by
 have hp:=AY hG h0;have:=BB (((DJ hF hG h0).psc (ld G^(pl F+1 - pl G))));rw[←(JO hF hG h0).2]at this;omega
theorem Ia.step{F0 G0 A B:Nat→Rat}{D S:Nat}(h:Ia F0 G0 D S A B)(h0:B≠pz){R:Nat→Rat}(hR:R=CX A B (pl A+1 - pl B)) :
  Ia F0 G0 D S B (pp R)∧pl (pp R) < pl B:=by
 have hfR:Af R:=by rw[hR];exact Tx h.fA h.fB h0
 have hzR:ZI R:=by rw[hR];exact ET h.zA h.zB _
 have htop:pl R < pl B:=by rw[hR];exact U5 h.fA h.fB h0
 have hplR:=Ep hzR hfR;have hq:∀ i,qsz (R i)+1≤(S+1)*2^(D - (pl B+pl (pp R)))∧pl B+pl (pp R)≤D:=fun i=>by
  rw[hplR];have hd:=h.deg;rcases Nat.lt_or_ge (pl A) (pl B)with a | a
  ·have e:R=A:=by rw[hR,show pl A+1 - pl B=0 from by omega];rfl
   rw[e];have:=h.qA i;rw[Nat.add_comm (pl B)];exact⟨this,hd⟩
  ·have h2:=(h.room hR).2.2 i
   exact⟨Nat.le_trans h2 (Nat.mul_le_mul_left _ (Nat.pow_le_pow_right Ab Aa)),Aa⟩
 refine⟨⟨h.fB,Dm hfR,h.zB,I8 hzR hfR,h.pB,Wp hzR hfR,fun E hE=>?_,(hq 0).2,fun i=>?_,fun i=>?_⟩,Aa⟩
 ·rw[KT hzR hfR,←h.dv E hE]
  have hl:=SN (Dc h.fB h0) (pl A+1 - pl B);rw[hR,(JO h.fA h.fB h0).2,Fw hl,LJ]
 ·have h1:=h.qB i
  have:=h.deg;have h2:=(hq 0).2;refine Nat.le_trans h1 (Nat.mul_le_mul_left _ (Nat.pow_le_pow_right Ab ?_));rcases Nat.lt_or_ge (pl A) (pl B)with a | a
  ·have e:R=A:=by rw[hR,show pl A+1 - pl B=0 from by omega];rfl
   rw[hplR,e];omega
  ·omega
 ·have h1:=Fj hzR hfR (s:=(S+1)*2^(D - (pl B+pl (pp R))) - 1) (fun i=>by have:=(hq i).1;omega) i
  have:=(hq i).1;omega
theorem Ry{a:Rat}(ha:a≠0){F:Nat→Rat}(h:Af F):mn (psc a F)=mn F:=by
 by_cases h0:F=pz
 ·rw[h0,Fe]
 ·have hl:=Dc h h0
  unfold mn;rw[Jy ha h,Ci];congr 1;grind
theorem PI(F:Nat→Rat):psc 0 F=pz:=by funext n;simp only[psc,pz];grind
theorem QH{F:Nat→Rat}(h:Af F)(e:mn F=pz):F=pz:=(BF h).1 (by rw[←Qt h,e,BV])
theorem Ia.end_{F0 G0 A B:Nat→Rat}{D S:Nat}(h:Ia F0 G0 D S A B)(fF:Af F0)(fG:Af G0)(zF:ZI F0)(zG:ZI G0)(h0:B=pz) :
  GY F0 G0 (psc ((Nat.gcd (cn F0) (cn G0):Nat):Rat) A):=by
 have hg:Ld F0 G0 (mn A):=by
  subst h0;exact(Ld.zero h.fA).of h.dv
 obtain⟨c,hc⟩:∃ c,c=Nat.gcd (cn F0) (cn G0):=⟨_,rfl⟩
 rw[←hc];by_cases hc0:c=0
 ·have e1:cn F0=0:=Nat.eq_zero_of_gcd_eq_zero_left (hc.symm.trans hc0)
  have e2:cn G0=0:=Nat.eq_zero_of_gcd_eq_zero_right (hc.symm.trans hc0);have z1:F0=pz:=Classical.byContradiction fun hn=>Io zF fF hn e1;have z2:G0=pz:=Classical.byContradiction fun hn=>Io zG fG hn e2;rw[hc0];show GY F0 G0 (psc ((0:Nat):Rat) A);rw[show((0:Nat):Rat)=0 from rfl,PI,z1,z2];refine⟨Af.pz,ZI.pz,fun hn=>absurd rfl hn,by rw[Mw];rfl,?_⟩;exact Ld.zero Af.pz
 ·have hcr:((c:Nat):Rat)≠0:=by exact_mod_cast hc0
  have hA:A≠pz:=fun e=>by
   rw[e,Me]at hg;have z1:=MU hg.2.2.1;have z2:=MU hg.2.2.2.1;rw[z1,z2,Mw]at hc;exact hc0 hc
  have e1:cn A=1:=by rw[←h.pA];exact QA h.zA h.fA hA
  have e2:0 < ld A:=by rw[←h.pA];exact LA h.zA h.fA hA
  have ci:((c:Nat):Rat)=(((c:Nat):Int):Rat):=rfl;refine⟨h.fA.psc _,by rw[ci];exact h.zA.psc _,fun _=>?_,?_,by rw[Ry hcr h.fA];exact hg⟩
  ·rw[Jy hcr h.fA]
   refine Rat.mul_pos ?_ e2;exact_mod_cast Nat.pos_of_ne_zero hc0
  ·rw[ci,Gy (by exact_mod_cast hc0) h.zA h.fA,e1,←hc];simp
theorem GY.uniq{F G D E:Nat→Rat}(h:GY F G D)(k:GY F G E):D=E:=by
 obtain⟨f1,z1,l1,c1,g1⟩:=h;obtain⟨f2,z2,l2,c2,g2⟩:=k;have e:=g1.uniq g2;by_cases hD:D=pz
 ·have:E=pz:=QH f2 (by rw[←e,hD,Me])
  rw[hD,this]
 have hE:E≠pz:=fun hE=>hD (QH f1 (by rw[e,hE,Me]));have hcD:=Io z1 f1 hD
 -- E=a D with a positive;the contents agree
 have lD:=l1 hD;have lE:=l2 hE;have hDl:=Dc f1 hD;have hEl:=Dc f2 hE;have e1:psc (ld E) D=psc (ld D) E:=by
  funext n
  have:=congrFun e n;show ld E*D n=ld D*E n;simp only[mn,psc]at this;have h1:ld D*ld E*(1 / ld D*D n)=ld D*ld E*(1 / ld E*E n):=by rw[this]
  grind
 obtain⟨x,hx⟩:∃ x:Int,ld D=(x:Rat):=z1 _;obtain⟨y,hy⟩:∃ y:Int,ld E=(y:Rat):=z2 _;have hx0:0 < x:=by rw[hx]at lD;exact_mod_cast lD
 have hy0:0 < y:=by rw[hy]at lE;exact_mod_cast lE
 have e2:cn (psc (ld E) D)=cn (psc (ld D) E):=by rw[e1]
 rw[hx,hy,Gy Aa z1 f1,Gy Aa z2 f2,c1,c2,←c1]at e2;have e3:y.natAbs=x.natAbs:=Nat.eq_of_mul_eq_mul_right (Nat.pos_of_ne_zero hcD) e2;have e4:x=y:=by omega
 have:ld D=ld E:=by rw[hx,hy,e4]
 rw[this]at e1
 funext n
 have:=congrFun e1 n;simp only[psc]at this;grind
theorem Ti{F Q D:Nat→Rat}(zF:ZI F)(fF:Af F)(zD:ZI D)(fD:Af D)(hD:D≠pz)(fQ:Af Q)(e:F=cv Q D)(hc:cn D∣cn F):ZI Q:=by
 obtain⟨n,hs⟩:=fQ;have fQ:Af Q:=⟨n,hs⟩
 have zC:=DZ hs;have fC:=De (n:=n) fQ;have e1:psc (((dl n Q:Nat):Int):Rat) F=cv (Cv n Q) D:=by
  rw[e];unfold Cv;rw[CP];rfl
 have hdl:=KL Q n;have e2:cn (psc (((dl n Q:Nat):Int):Rat) F)=cn (cv (Cv n Q) D):=by rw[e1]
 rw[Gy Aa zF fF,NP zC zD fC fD,Int.natAbs_natCast]at e2;obtain⟨m,hm⟩:=hc;have hcD:=Nat.pos_of_ne_zero (Io zD fD hD);have e3:dl n Q*m=cn (Cv n Q):=by
  refine Nat.eq_of_mul_eq_mul_right hcD ?_;rw[←e2,hm,Nat.mul_assoc,Nat.mul_comm m]
 intro i;have h1:=IK fC i;have h2:((dl n Q:Nat):Int)∣(Cv n Q i).num:=Int.dvd_trans ⟨(m:Int),by rw[←e3];simp⟩ h1;obtain⟨k,hk⟩:=h2;refine⟨k,?_⟩;have h3:=zC.num i;rw[hk,Rat.intCast_mul]at h3;have h4:Cv n Q i=((dl n Q:Nat):Rat)*Q i:=rfl;rw[h4]at h3;have h5:=U0 n Q;have h6:(((dl n Q:Nat):Int):Rat)=((dl n Q:Nat):Rat):=rfl;rw[h6]at h3;grind
theorem GY.zdv{F G D:Nat→Rat}(h:GY F G D)(zF:ZI F)(fF:Af F)(hD:D≠pz):J8 F D:=by
 obtain⟨f1,z1,l1,c1,g1⟩:=h;obtain⟨Q,fQ,e⟩:=g1.2.2.1;have e1:F=cv (psc (1 / ld D) Q) D:=by rw[e];unfold mn;rw[Pt,CP]
 exact⟨_,Ti zF fF z1 f1 hD (fQ.psc _) e1 (by rw[c1];exact Nat.gcd_dvd_left _ _),fQ.psc _,e1⟩
theorem Ld.symm_{F G D:Nat→Rat}(h:Ld F G D):Ld G F D:=⟨h.1,h.2.1,h.2.2.2.1,h.2.2.1,fun E hE a b=>h.2.2.2.2 E hE b a⟩
theorem GY.symm_{F G D:Nat→Rat}(h:GY F G D):GY G F D:=⟨h.1,h.2.1,h.2.2.1,by rw[Nat.gcd_comm];exact h.2.2.2.1,h.2.2.2.2.symm_⟩
theorem XX:∀(n:Nat) {F G:Nat→Rat},Af F→Af G→pl G≤n→∃ U V D,Af U∧Af V∧Ld F G D∧pad (cv U F) (cv V G)=D:=by
 intro n;induction n with
 | zero =>
  intro F G fF fG hn;have:G=pz:=(BF fG).1 Aa;subst this;refine⟨psc (1 / ld F) pone,pz,mn F,Af.psc _ ⟨1,(Bq.pz 0).cs 1⟩,Af.pz,Ld.zero fF,?_⟩;rw[CP,CR,Cy]
  funext m;simp only[pad,pz,mn];grind
 | succ n ih =>
  intro F G fF fG hn;by_cases h0:G=pz
  ·exact ih fF fG (by rw[h0,BV];omega)
  ·have hp:=AY fG h0
   have hr:=BB (DJ fF fG h0);obtain⟨U,V,D,fU,fV,hg,e⟩:=ih fG (Ex fF fG) Aa;refine⟨V,psb U (cv V (pq F G)),D,fV,fU.psb (fV.cv (Dl F G)),hg.of fun E hE=>LJ,?_⟩;rw[←e];have e1:cv V F=pad (cv V (cv (pq F G) G)) (cv V (pr F G)):=by
    have h2:cv V F=cv V (pad (cv (pq F G) G) (pr F G)):=by rw[←Ki F G]
    rw[h2,Fs]
   rw[e1,Fp,Av]
   funext m;simp only[pad,psb];grind
theorem Ld.bez{F G D:Nat→Rat}(fF:Af F)(fG:Af G)(h:Ld F G D):∃ U V,Af U∧Af V∧pad (cv U F) (cv V G)=D:=by
 obtain⟨U,V,D',fU,fV,hg,e⟩:=XX (pl G) fF fG (Nat.le_refl _);exact⟨U,V,fU,fV,by rw[h.uniq hg];exact e⟩
theorem Dv.cvr{D F:Nat→Rat}(h:Dv D F)(H:Nat→Rat):Dv (Hp.cv D H) (Hp.cv F H):=by
 obtain⟨Q,fQ,e⟩:=h;exact⟨Q,fQ,by rw[e,Av]⟩
theorem Rp{F G D H P:Nat→Rat}(fF:Af F)(fG:Af G)(fH:Af H)(h:Ld F G (mn D))(fD:Af D){a:Rat}(ha:a≠0)(hP:P=psc a (cv D H)):Ld (cv F H) (cv G H) (mn P):=by
 have fP:Af P:=by rw[hP];exact(fD.cv fH).psc a
 refine⟨KW fP,fun hn=>Ub fP (fun e=>hn (by rw[e,Me])),?_,?_,fun E hE k1 k2=>?_⟩
 ·have h1:Dv (cv D H) (cv F H):=((Lp D).trans h.2.2.1).cvr H
  have h2:Dv (mn P) (cv D H):=by
   rw[hP,Ry ha (fD.cv fH)];exact Lg (fD.cv fH)
  exact h2.trans h1
 ·have h1:Dv (cv D H) (cv G H):=((Lp D).trans h.2.2.2.1).cvr H
  have h2:Dv (mn P) (cv D H):=by
   rw[hP,Ry ha (fD.cv fH)];exact Lg (fD.cv fH)
  exact h2.trans h1
 ·obtain⟨U,V,fU,fV,e⟩:=h.bez fF fG
  have h1:Dv E (cv (mn D) H):=by
   rw[←e,D5,Av,Av];exact(k1.mul fU).pad (k2.mul fV)
  have h2:Dv E (cv D H):=by
   obtain⟨Q,fQ,e2⟩:=Lg fD;rw[e2,Av];exact h1.mul fQ
  rw[NT fP,hP,Fw ha];exact h2
theorem GY.common{F G D H E:Nat→Rat}(fF:Af F)(fG:Af G)(zF:ZI F)(zG:ZI G)(fH:Af H)(zH:ZI H)(h:GY F G D)(k:GY (cv F H) (cv G H) E):E=cv D H∨E=psc ((-1:Int):Rat) (cv D H):=by
 obtain⟨f1,z1,l1,c1,g1⟩:=h;have hcn:∀ a:Int,a.natAbs=1→cn (psc (a:Rat) (cv D H))=Nat.gcd (cn (cv F H)) (cn (cv G H)):=fun a ha=>by
  rw[Gy Aa (z1.cv zH) (f1.cv fH),ha,Nat.one_mul,NP z1 zH f1 fH,NP zF zH fF fH,NP zG zH fG fH,c1,Nat.gcd_mul_right]
 have key:∀ a:Int,a.natAbs=1→(cv D H≠pz→0 < (a:Rat)*ld (cv D H))→E=psc (a:Rat) (cv D H):=fun a ha hl=>by
  have ha0:(a:Rat)≠0:=by
   have:a≠0:=by omega
   exact_mod_cast this
  refine k.uniq ⟨(f1.cv fH).psc _,(z1.cv zH).psc a,fun hn=>?_,hcn a ha,Rp fF fG fH g1 f1 ha0 rfl⟩;rw[Jy ha0 (f1.cv fH)];exact hl fun e=>hn (by rw[e,Fe])
 by_cases hp:0 < ld (cv D H)
 ·refine .inl ?_
  have:=key 1 rfl (fun _=>by simpa using hp);rwa[show(((1:Int)):Rat)=1 from rfl,Ca]at this
 ·refine .inr (key (-1) rfl (fun hn=>?_))
  have:=Dc (f1.cv fH) hn;have e:(((-1:Int)):Rat) = -1:=rfl;rw[e];have h2:ld (cv D H) < 0:=Rat.lt_of_le_of_ne (Rat.not_lt.1 hp) this;grind
theorem Ia.run{F0 G0:Nat→Rat}{D S:Nat}:∀(n:Nat) {A B:Nat→Rat},Ia F0 G0 D S A B→pl B≤n→∃ A',Ia F0 G0 D S A' pz:=by
 intro n;induction n with
 | zero =>
  intro A B h hn;have:B=pz:=(BF h.fB).1 Aa;subst this;exact⟨A,h⟩
 | succ n ih =>
  intro A B h hn;by_cases h0:B=pz
  ·subst h0;exact⟨A,h⟩
  ·obtain⟨h1,h2⟩:=h.step h0 rfl
   exact ih h1 Aa
open Classical in
/-- The greatest common divisor over the integers. -/
noncomputable def Ic(F G:Nat→Rat):Nat→Rat:=if h:∃ D,GY F G D then h.choose else pz
theorem WC{F G D:Nat→Rat}(h:GY F G D):Ic F G=D:=by
 have hx:∃ D,GY F G D:=⟨D,h⟩
 unfold Ic;rw[dif_pos hx];exact hx.choose_spec.uniq h
theorem CO(q:Rat):1≤qsz q:=by
 unfold qsz;have:=DL (n:=q.den) (by have:=q.den_pos;omega);omega
theorem Zb{F G:Nat→Rat}{S:Nat}(fF:Af F)(fG:Af G)(zF:ZI F)(zG:ZI G)(qF:∀ i,qsz (F i)≤S)(qG:∀ i,qsz (G i)≤S):GY F G (Ic F G)∧∀ i,qsz (Ic F G i)≤S+(S+1)*2^(pl F+pl G):=by
 obtain⟨A,h⟩:=(Ia.start fF fG zF zG qF qG).run (pl (pp G)) (Nat.le_refl _);have h1:=h.end_ fF fG zF zG rfl;have h2:=WC h1;rw[h2];refine⟨h1,fun i=>?_⟩;have h3:=Cq (((Nat.gcd (cn F) (cn G):Nat)):Rat) (A i);have h4:=(h.room rfl).1 i;have h5:qsz (((Nat.gcd (cn F) (cn G):Nat)):Rat)≤S:=by
  show qsz ((((Nat.gcd (cn F) (cn G):Nat):Int)):Rat)≤S;rw[Ba];have a1:=CO (F 0);have a2:=qF 0;have b1:=Gh qF (pl F);have b2:sz (Nat.gcd (cn F) (cn G))≤S:=by
   by_cases e:cn F=0
   ·have b3:=Gh qG (pl G)
    rw[e,Nat.gcd_zero_left];exact b3
   ·exact Nat.le_trans (Bf (Nat.gcd_le_left _ (Nat.pos_of_ne_zero e))) b1
  simp only[Int.natAbs_natCast];omega
 show qsz ((((Nat.gcd (cn F) (cn G):Nat)):Rat)*A i)≤_;omega
structure Lt(n:Nat)(E:(Nat→Nat→Rat)→Rat):Prop where
 lin:∀(A:Nat→Nat→Rat) (i:Nat),i < n→∀(a b:Rat) (u v:Nat→Rat),E (Ei A i fun c=>a*u c+b*v c)=a*E (Ei A i u)+b*E (Ei A i v)
 alt:∀(A:Nat→Nat→Rat) (i j:Nat),i < n→j < n→i≠j→A i=A j→E A=0
 cong:∀(A B:Nat→Nat→Rat),(∀ i j,i < n→j < n→A i j=B i j)→E A=E B
 one:E (fun i j=>if i=j then 1 else 0)=0
theorem gN:∀(n:Nat) (s:Nat→Nat),(∀ i,i < n+1→s i < n)→∃ i j,i < j∧j < n+1∧s i=s j
 | 0,s,h=>absurd (h 0 Aa) Aa
 | n+1,s,h=>by
  by_cases e:∃ i,i < n+1∧s i=s (n+1)
  ·obtain⟨i,hi,e⟩:=e
   exact⟨i,n+1,hi,Aa,e⟩
  ·have e':∀ i,i < n+1→s i≠s (n+1):=fun i hi q=>e ⟨i,hi,q⟩
   obtain⟨i,j,hij,hj,q⟩:=gN n (fun i=>if s i < s (n+1)then s i else s i - 1) (fun i hi=>by
    have h1:=h i Aa;have h2:=h (n+1) Aa;have h3:=e' i hi;show(if s i < s (n+1)then s i else s i - 1) < n
    split<;>omega)
   refine⟨i,j,hij,Aa,?_⟩;have h1:=e' i Aa;have h2:=e' j hj;have q':(if s i < s (n+1)then s i else s i - 1)=(if s j < s (n+1)then s j else s j - 1):=q
   split at q'<;>split at q'<;>omega
theorem Lt.swap{n:Nat}{E:(Nat→Nat→Rat)→Rat}(h:Lt n E)(A:Nat→Nat→Rat){i j:Nat}(hi:i < n)(hj:j < n)(hne:i≠j):E (Ei (Ei A i (A j)) j (A i)) = - E A:=by
 obtain⟨u,hu⟩:∃ u,u=A i:=⟨_,rfl⟩
 obtain⟨v,hv⟩:∃ v,v=A j:=⟨_,rfl⟩
 have comm:∀ x y:Nat→Rat,Ei (Ei A i x) j y=Ei (Ei A j y) i x:=fun x y=>by
  funext r c;unfold Ei
  by_cases a:r=j
  ·subst a;rw[if_pos rfl,if_neg (Ne.symm hne),if_pos rfl]
  ·rw[if_neg a]
   by_cases b:r=i
   ·rw[if_pos b,if_pos b]
   ·rw[if_neg b,if_neg b,if_neg a]
 have z:∀ x:Nat→Rat,E (Ei (Ei A i x) j x)=0:=fun x=>h.alt _ i j hi hj hne (by
  funext c
  show(if i=j then x c else if i=i then x c else A i c)=(if j=j then x c else _);rw[if_neg hne,if_pos rfl,if_pos rfl])
 have l2:∀ x a b (y1 y2:Nat→Rat),E (Ei (Ei A i x) j fun c=>a*y1 c+b*y2 c)=a*E (Ei (Ei A i x) j y1)+b*E (Ei (Ei A i x) j y2):=fun x a b y1 y2=>h.lin _ j hj a b y1 y2;have l1:∀ y a b (x1 x2:Nat→Rat),E (Ei (Ei A i fun c=>a*x1 c+b*x2 c) j y)=a*E (Ei (Ei A i x1) j y)+b*E (Ei (Ei A i x2) j y):=fun y a b x1 x2=>by
  rw[comm,comm,comm];exact h.lin _ i hi a b x1 x2
 have key:=z (fun c=>1*u c+1*v c);rw[l1,l2,l2,z u,z v]at key;have hA:Ei (Ei A i u) j v=A:=by rw[hu,Ky,hv,Ky]
 rw[hA]at key;rw[←hu,←hv];grind
theorem Lt.sum{n:Nat}{E:(Nat→Nat→Rat)→Rat}(h:Lt n E)(A:Nat→Nat→Rat){i:Nat}(hi:i < n)(t:Nat→Rat)(f:Nat→Nat→Rat):∀ N,E (Ei A i fun c=>sm N fun k=>t k*f k c)=sm N fun k=>t k*E (Ei A i (f k))
 | 0=>by
  have:=h.lin A i hi 0 0 (fun _=>0) (fun _=>0);have e:(fun c=>sm 0 fun k=>t k*f k c)=fun c:Nat=>(0:Rat)*(0:Rat)+0*0:=by funext c;rw[F3];grind
  rw[e,this,F3];grind
 | N+1=>by
  have e:(fun c=>sm (N+1) fun k=>t k*f k c)=fun c=>1*(sm N fun k=>t k*f k c)+t N*f N c:=by funext c;rw[BH];grind
  rw[e,h.lin A i hi,Lt.sum h A hi t f N,BH];grind
def er(c:Nat):Nat→Rat:=fun k=>if k=c then 1 else 0
theorem Lt.perm{n:Nat}{E:(Nat→Nat→Rat)→Rat}(h:Lt n E):∀(d:Nat) (A:Nat→Nat→Rat) (s:Nat→Nat) (m:Nat),n=m+d→(∀ i,i < n→s i < n∧A i=er (s i))→(∀ i,i < m→s i=i)→E A=0
 | 0,A,s,m,hd,hA,hs=>by
  rw[←h.one];refine h.cong _ _ fun i j hi hj=>?_;rw[(hA i hi).2,hs i Aa];show(if j=i then(1:Rat)else 0)=if i=j then 1 else 0;by_cases e:i=j
  ·rw[if_pos e,if_pos e.symm]
  ·rw[if_neg e,if_neg (Ne.symm e)]
 | d+1,A,s,m,hd,hA,hs=>by
  by_cases hinj:∃ i j,i < n∧j < n∧i≠j∧s i=s j
  ·obtain⟨i,j,hi,hj,hne,e⟩:=hinj
   exact h.alt A i j hi hj hne (by rw[(hA i hi).2,(hA j hj).2,e])
  ·have hinj':∀ i j,i < n→j < n→s i=s j→i=j:=fun i j hi hj e=>Classical.byContradiction fun hne=>hinj ⟨i,j,hi,hj,hne,e⟩
   have hex:∃ j,j < n∧s j=m:=by
    refine Classical.byContradiction fun hno=>?_;have hno':∀ j,j < n→s j≠m:=fun j hj e=>hno ⟨j,hj,e⟩;obtain⟨n',rfl⟩:∃ n',n=n'+1:=⟨n - 1,Aa⟩
    obtain⟨i,j,hij,hj,q⟩:=gN n' (fun i=>if s i < m then s i else s i - 1) (fun i hi=>by
     have h1:=(hA i hi).1;have h2:=hno' i hi;show(if s i < m then s i else s i - 1) < n'
     split<;>omega)
    have h1:=hno' i Aa;have h2:=hno' j hj;have:s i=s j:=by
     have q':(if s i < m then s i else s i - 1)=(if s j < m then s j else s j - 1):=q
     split at q'<;>split at q'<;>omega
    have:=hinj' i j Aa hj this;omega
   obtain⟨j,hj,e⟩:=hex;have hjm:m≤j:=by
    rcases Nat.lt_or_ge j m with a | a
    ·have:=hs j a;omega
    ·exact a
   by_cases hjm':j=m
   ·subst hjm'
    refine Lt.perm h d A s (j+1) Aa hA fun i hi=>?_;rcases Nat.lt_or_ge i j with a | a
    ·exact hs i a
    ·obtain rfl:i=j:=by omega
     exact e
   ·have h2:=Lt.perm h d (Ei (Ei A m (A j)) j (A m)) (fun i=>if i=m then s j else if i=j then s m else s i) (m+1) Aa (fun i hi=>by
     by_cases a:i=m
     ·subst a
      simp only[if_pos];refine⟨by rw[e];exact hi,?_⟩
      funext c
      show(if i=j then A i c else if i=i then A j c else A i c)=_;rw[if_neg (Ne.symm hjm'),if_pos rfl,(hA j hj).2]
     ·by_cases b:i=j
      ·subst b
       rw[if_neg a,if_pos rfl];refine⟨(hA m Aa).1,?_⟩
       funext c
       show(if i=i then A m c else _)=_;rw[if_pos rfl,(hA m Aa).2]
      ·rw[if_neg a,if_neg b]
       refine⟨(hA i hi).1,?_⟩
       funext c
       show(if i=j then A m c else if i=m then A j c else A i c)=_;rw[if_neg b,if_neg a,(hA i hi).2]) (fun i hi=>by
     by_cases a:i=m
     ·simp only[if_pos a];rw[e,a]
     ·simp only[if_neg a]
      rw[if_neg Aa];exact hs i Aa)
    have h3:=h.swap A (i:=m) (j:=j) Aa hj (Ne.symm hjm');rw[h2]at h3;grind
theorem ZL(v:Nat→Rat)(n c:Nat)(h:c < n):v c=sm n fun k=>v k*er k c:=by
 rw[XF (f:=fun k=>v k*er k c) h (fun i _ hne=>by show v i*(if c=i then 1 else 0)=0;rw[if_neg (Ne.symm hne)];grind)];show v c=v c*(if c=c then 1 else 0);rw[if_pos rfl];grind
theorem Lt.all{n:Nat}{E:(Nat→Nat→Rat)→Rat}(h:Lt n E):∀(m:Nat),m≤n→∀(A:Nat→Nat→Rat),(∀ i,m≤i→i < n→∃ c,c < n∧A i=er c)→E A=0
 | 0,_,A,hA=>by
  have hA':∀ i,∃ c,i < n→c < n∧A i=er c:=fun i=>by
   by_cases hi:i < n
   ·obtain⟨c,hc⟩:=hA i (Nat.zero_le _) hi;exact⟨c,fun _=>hc⟩
   ·exact⟨0,fun h=>absurd h hi⟩
  exact h.perm n A (fun i=>Classical.choose (hA' i)) 0 Aa (fun i hi=>Classical.choose_spec (hA' i) hi) (fun i hi=>Aa)
 | m+1,hm,A,hA=>by
  have e:E A=E (Ei A m fun c=>sm n fun k=>A m k*er k c):=by
   refine h.cong _ _ fun i j hi hj=>?_;unfold Ei
   split
   ·rename_i e;rw[e];exact ZL _ _ _ hj
   ·rfl
  rw[e,h.sum A Aa];rw[show sm n (fun k=>A m k*E (Ei A m (er k)))=sm n fun _=>0 from Cu fun k hk=>by
   rw[Lt.all h m Aa (Ei A m (er k)) fun i hi hin=>?_]
   ·grind
   ·by_cases a:i=m
    ·exact⟨k,hk,by subst a;funext c;show(if i=i then er k c else _)=_;rw[if_pos rfl]⟩
    ·obtain⟨c,hc1,hc2⟩:=hA i Aa hin
     exact⟨c,hc1,by rw[←hc2];funext x;show(if i=m then er k x else A i x)=_;rw[if_neg a]⟩]
  exact M3 n
theorem VW(f:Nat→Rat):∀ n,sm (n+1) f=sm (n+1) fun i=>f (n - i)
 | 0=>by rw[BH,BH,F3,F3]
 | n+1=>by
  rw[BH,VW f n,Qy (n+1)];rw[show sm (n+1) (fun i=>f (n+1 - (i+1)))=sm (n+1) (fun i=>f (n - i))from Cu fun i _=>by congr 1;omega];rw[Nat.sub_zero];grind
theorem Gr{N p q j:Nat}{X Y:Nat→Rat}(hp:p < N)(hX:Bq (p+1) X) :
  sm N (fun c=>(if c≤p then X (p - c)else 0)*(if j≤q+c then Y (q+c - j)else 0))=if j≤p+q then cv X Y (p+q - j)else 0:=by
 have h1:sm N (fun c=>(if c≤p then X (p - c)else 0)*(if j≤q+c then Y (q+c - j)else 0))=sm (p+1) (fun c=>(if c≤p then X (p - c)else 0)*(if j≤q+c then Y (q+c - j)else 0)):=
  Pq (fun i hi=>by rw[if_neg Aa];grind) Aa
 rw[h1,VW];by_cases hj:j≤p+q
 ·rw[if_pos hj,We hX]
  refine Cu fun i hi=>?_;rw[if_pos Aa,show p - (p - i)=i from by omega];by_cases a:i≤p+q - j
  ·rw[if_pos Aa,if_pos a];congr 2;omega
  ·rw[if_neg Aa,if_neg a]
 ·rw[if_neg hj]
  rw[show sm (p+1) (fun i=>(if p - i≤p then X (p - (p - i))else 0)*(if j≤q+(p - i)then Y (q+(p - i) - j)else 0))=sm (p+1) fun _=>0 from Cu fun i hi=>by
   rw[if_neg (show ¬ j≤q+(p - i) by omega)];grind]
  exact M3 _
def gx(n k m:Nat)(G:Nat→Rat):Nat→Nat→Rat:=fun i c =>
 if i < k then(if c < n+k then(if c≤n+i then G (n+i - c)else 0)else 0)
 else if i < k+m then(if c=n+i then 1 else 0)else(if c+m=i then 1 else 0)
theorem OL:pone≠pz:=fun e=>by have:=congrFun e 0;exact absurd this Ab
def Vv(s:Nat)(q:Rat):Prop:=∃ z:Int,q=(z:Rat)∧z.natAbs < bp s
theorem Vv.mul{s t:Nat}{p q:Rat}(h:Vv s p)(k:Vv t q):Vv (s+t) (p*q):=by
 obtain⟨x,rfl,hx⟩:=h;obtain⟨y,rfl,hy⟩:=k;refine⟨x*y,(Rat.intCast_mul x y).symm,?_⟩;rw[Int.natAbs_mul,Im];exact Nat.mul_lt_mul'' hx hy
theorem Vv.sg{s:Nat}{q:Rat}(h:Vv s q)(i:Nat):Vv s (Hp.sg i*q):=by
 obtain⟨x,rfl,hx⟩:=h;unfold Hp.sg
 split
 ·exact⟨x,Aj,hx⟩
 ·exact⟨-x,by rw[Rat.intCast_neg];grind,by rw[Int.natAbs_neg];exact hx⟩
theorem Vv.up{s t:Nat}{q:Rat}(h:Vv s q)(k:s≤t):Vv t q:=by
 obtain⟨x,rfl,hx⟩:=h;exact⟨x,rfl,Nat.lt_of_lt_of_le hx (Fz k)⟩
theorem Vv.zero(s:Nat):Vv s 0:=⟨0,rfl,GM s⟩
/-! ### the resultant with the derivative -/
theorem EM{F:Nat→Rat}(h:ZI F):ZI (pd F):=fun i=>by
 obtain⟨n,e⟩:=h (i+1);exact⟨((i+1:Nat):Int)*n,by unfold pd;rw[e,Rat.intCast_mul];rfl⟩
theorem OE{F:Nat→Rat}{n:Nat}(h:Bq (n+1) F):Bq n (pd F):=fun i hi=>by unfold pd;rw[h (i+1) Aa];exact Rat.mul_zero _
theorem NE{F:Nat→Rat}(fF:Af F):pl (pd F)=pl F - 1:=by
 by_cases h:pl F=0
 ·rw[(BF fF).1 h]
  have:pd pz=pz:=by funext i;exact Rat.mul_zero _
  rw[this,BV]
 ·obtain⟨m,hm⟩:∃ m,pl F=m+1:=⟨pl F - 1,Aa⟩
  have hs:Bq (m+1) F:=hm▸AJ fF;have ht:=ES fF Aa;rw[hm]at ht ⊢;refine Le (OE hs) fun h0=>?_;obtain⟨k,rfl⟩:∃ k,m=k+1:=⟨m - 1,Aa⟩
  show((k+1:Nat):Rat)*F (k+1)≠0;intro e;rcases Rat.mul_eq_zero.1 e with e | e
  ·have:((k+1:Nat):Rat)=((0:Nat):Rat):=e
   have:=Rat.natCast_inj.1 this;omega
  ·exact ht e
structure BI(F:Nat→Rat):Prop where
 z:ZI F
 f:Af F
 n:F≠pz
 l:0 < ld F
 c:cn F=1
theorem BI.pp{F:Nat→Rat}(hz:ZI F)(h:Af F)(h0:F≠pz):BI (Hp.pp F):=⟨I8 hz h,Dm h,WO hz h h0,LA hz h h0,QA hz h h0⟩
theorem BI.pcn{F:Nat→Rat}(h:BI F):Hp.pcn F=1:=by
 have:=h.l;unfold Hp.pcn;rw[if_neg Aj,h.c];rfl
theorem BI.self{F:Nat→Rat}(h:BI F):Hp.pp F=F:=by
 have e:=Qh h.z h.f h.n;rw[h.pcn]at e;rw[show(((1:Int)):Rat)=1 from rfl,Ca]at e;exact e.symm
theorem BI.pos{F:Nat→Rat}(h:BI F):0 < pl F:=AY h.f h.n
theorem Ee{F:Nat→Rat}(h:Af F):∃ S,∀ i,qsz (F i)≤S:=by
 obtain⟨n,h⟩:=h;induction n generalizing F with
 | zero=>exact⟨1,fun i=>by rw[h i (Nat.zero_le _)];decide⟩
 | succ n ih =>
  obtain⟨S,hS⟩:=ih h.tl;refine⟨max S (qsz (F 0)),fun i=>?_⟩
  match i with
  | 0=>exact Nat.le_max_right _ _
  | i+1=>exact Nat.le_trans (hS i) (Nat.le_max_left _ _)
theorem VJ{F G:Nat→Rat}(fF:Af F)(fG:Af G)(zF:ZI F)(zG:ZI G):GY F G (Ic F G):=by
 obtain⟨S,hS⟩:=Ee fF;obtain⟨T,hT⟩:=Ee fG;exact(Zb fF fG zF zG (S:=max S T) (fun i=>Nat.le_trans (hS i) (Nat.le_max_left _ _)) (fun i=>Nat.le_trans (hT i) (Nat.le_max_right _ _))).1
theorem Zh{F G:Nat→Rat}(h:Af F)(k:Af G)(hF:F≠pz)(hG:G≠pz):ld (cv F G)=ld F*ld G:=by
 have h1:=Gv h k hF hG;have h2:=AY h hF;have h3:=AY k hG;unfold ld;rw[h1];have:=Sy (n:=pl F - 1) (m:=pl G - 1) (by rw[show pl F - 1+1=pl F by omega];exact AJ h) (by rw[show pl G - 1+1=pl G by omega];exact AJ k);rw[show pl F+pl G - 1 - 1=pl F - 1+(pl G - 1) by omega];exact this
theorem BI.mul{F G:Nat→Rat}(h:BI F)(k:BI G):BI (cv F G):=
 ⟨h.z.cv k.z,h.f.cv k.f,fun e=>by rcases JE h.f k.f e with e | e;exact h.n e;exact k.n e,by rw[Zh h.f k.f h.n k.n];exact Rat.mul_pos h.l k.l,by rw[NP h.z k.z h.f k.f,h.c,k.c]⟩
theorem JP:BI pone:=by
 have e:pl pone=1:=Le Eg fun _=>by show(1:Rat)≠0;decide
 refine⟨fun i=>?_,Dj,OL,?_,?_⟩
 ·match i with
  | 0=>exact⟨1,rfl⟩
  | i+1=>exact⟨0,rfl⟩
 ·unfold ld;rw[e];show(0:Rat) < 1;decide
 ·unfold cn;rw[e];rfl
theorem BI.one{F:Nat→Rat}(h:BI F)(h1:pl F≤1):F=pone:=by
 have hp:=h.pos;have e1:pl F=1:=by omega
 have hc:=h.c;have hl:=h.l;unfold ld at hl;unfold cn at hc;rw[e1]at hl hc;have hc':Int.gcd ((0:Nat):Int) (F 0).num=1:=hc;obtain⟨z,hz⟩:=h.z 0;rw[hz]at hc' hl;have hn:((z:Int):Rat).num=z:=rfl;rw[hn]at hc';have hz0:0 < z:=by exact_mod_cast hl
 have h2:z.natAbs=1:=by simpa[Int.gcd] using hc'
 have h3:z=1:=by omega
 funext i
 match i with
 | 0=>rw[hz,h3];rfl
 | i+1=>exact(AJ h.f) (i+1) Aa
theorem BI.gcd{F G:Nat→Rat}(h:BI F)(zG:ZI G)(fG:Af G):BI (Ic F G)∧J8 F (Ic F G)∧J8 G (Ic F G)∧Dv (Ic F G) F∧Dv (Ic F G) G∧∃ U V,Af U∧Af V∧pad (cv U F) (cv V G)=Ic F G:=by
 have k:=VJ h.f fG h.z zG;obtain⟨D,hD⟩:∃ D,D=Ic F G:=⟨_,rfl⟩
 rw[←hD]at k ⊢;obtain⟨f1,z1,l1,c1,g1⟩:=k;have k':GY F G D:=⟨f1,z1,l1,c1,g1⟩
 have hn:D≠pz:=fun e=>by
  have:=g1.2.2.1;rw[e,Me]at this;exact h.n (MU this)
 refine⟨⟨z1,f1,hn,l1 hn,by rw[c1,h.c,Nat.gcd_one_left]⟩,k'.zdv h.z h.f hn,k'.symm_.zdv zG fG hn,(Lp D).trans g1.2.2.1,(Lp D).trans g1.2.2.2.1,?_⟩;obtain⟨U,V,fU,fV,e⟩:=g1.bez h.f fG;refine⟨psc (ld D) U,psc (ld D) V,fU.psc _,fV.psc _,?_⟩;have e2:psc (ld D) (pad (cv U F) (cv V G))=psc (ld D) (mn D):=by rw[e]
 have e3:psc (ld D) (mn D)=D:=by
  unfold mn;rw[Ci];have:=Dc f1 hn;rw[show ld D*(1 / ld D)=1 by grind,Ca]
 rw[e3]at e2;rw[CP,CP,←e2]
 funext n;simp only[pad,psc];grind
theorem PP{F D:Nat→Rat}(fD:Af D)(nD:D≠pz)(h:J8 F D):ZI (pq F D)∧Af (pq F D)∧F=cv (pq F D) D:=by
 obtain⟨Q,zQ,fQ,e⟩:=h;have:=(ME fQ fD nD).1;rw[←e]at this;rw[this];exact⟨zQ,fQ,e⟩
theorem BI.quot{F D:Nat→Rat}(h:BI F)(k:BI D)(hd:J8 F D):BI (pq F D)∧F=cv (pq F D) D:=by
 obtain⟨zQ,fQ,e⟩:=PP k.f k.n hd;have nQ:pq F D≠pz:=fun e2=>h.n (by rw[e,e2,Cy]);have h1:ld F=ld (pq F D)*ld D:=by rw[←Zh fQ k.f nQ k.n,←e]
 have h2:cn F=cn (pq F D)*cn D:=by rw[←NP zQ k.z fQ k.f,←e]
 refine⟨⟨zQ,fQ,nQ,?_,?_⟩,e⟩
 ·have a:=h.l;have b:=k.l
  rw[h1]at a;rcases Std.lt_trichotomy 0 (ld (pq F D))with c | c | c
  ·exact c
  ·rw[←c]at a;rw[Rat.zero_mul]at a;exact absurd a Ab
  ·exfalso
   have:=Rat.mul_neg_iff_of_pos_right b |>.2 c
   grind
 ·rw[h.c,k.c]at h2;omega
def DU(F G:Nat→Rat):Prop:=∃ U V,Af U∧Af V∧pad (cv U F) (cv V G)=pone
theorem DU.symm{F G:Nat→Rat}(h:DU F G):DU G F:=by
 obtain⟨U,V,a,b,e⟩:=h;exact⟨V,U,b,a,by rw[←e];funext n;simp only[pad];grind⟩
theorem DU.dv{F G D:Nat→Rat}(h:DU F G)(k:Dv D F):DU D G:=by
 obtain⟨U,V,a,b,e⟩:=h;obtain⟨Q,fQ,rfl⟩:=k;exact⟨cv U Q,V,a.cv fQ,b,by rw[Av];exact e⟩
theorem DU.euclid{F G H:Nat→Rat}(h:DU F G)(fH:Af H)(k:Dv F (cv G H)):Dv F H:=by
 obtain⟨U,V,a,b,e⟩:=h;have h1:Dv F (cv (pad (cv U F) (cv V G)) H):=by
  rw[D5];refine Dv.pad ?_ ?_
  ·rw[Av,Bl F H,←Av]
   exact(Dv.refl F).mul (a.cv fH)
  ·rw[Av];exact k.mul b
 rw[e,CR]at h1;exact h1
theorem DU.self{F:Nat→Rat}(fF:Af F)(h:DU F F):pl F=1:=by
 obtain⟨U,V,a,b,e⟩:=h;have h1:Dv F pone:=by rw[←e];exact((Dv.refl F).mul a).pad ((Dv.refl F).mul b)
 have hn:F≠pz:=fun e2=>OL (MU (by rw[e2]at h1;exact h1));have h2:=Dv.le fF Dj OL h1;have h3:pl pone≤1:=BB Eg;have:=AY fF hn;omega
theorem DU.of_gcd{F G:Nat→Rat}(h:BI F)(zG:ZI G)(fG:Af G)(h1:pl (Ic F G)≤1):DU F G:=by
 obtain⟨k,-,-,-,-,U,V,a,b,e⟩:=h.gcd zG fG;rw[k.one h1]at e;exact⟨U,V,a,b,e⟩
theorem DU.gcd{F G:Nat→Rat}(c:DU F G)(h:BI F)(zG:ZI G)(fG:Af G):Ic F G=pone:=by
 obtain⟨k,-,-,d1,d2,-⟩:=h.gcd zG fG;have h1:=DU.self k.f ((c.dv d1).symm.dv d2);exact k.one Aa
theorem BS{F:Nat→Rat}(h:Af F):Af (pd F):=by
 obtain⟨n,h⟩:=h;exact⟨n,OE (h.mono (Nat.le_succ n))⟩
theorem cK{F:Nat→Rat}(fF:Af F)(hn:F≠pz)(h:Dv F (pd F)):pl F=1:=by
 have h1:=NE fF;have h2:=AY fF hn;rcases Nat.lt_or_ge 1 (pl F)with h3 | h3
 ·have h4:pd F≠pz:=fun e=>by rw[e,BV]at h1;omega
  have:=Dv.le fF (BS fF) h4 h;omega
 ·omega
def pw(F:Nat→Rat):Nat→Nat→Rat
 | 0=>pone
 | n+1=>cv (pw F n) F
theorem Ro{F:Nat→Rat}(h:Af F):∀ n,Af (pw F n)
 | 0=>Dj
 | n+1=>(Ro h n).cv h
theorem R9{F:Nat→Rat}(h:BI F):∀ n,BI (pw F n)
 | 0=>JP
 | n+1=>(R9 h n).mul h
theorem Zn{F:Nat→Rat}(h:BI F):∀ n,pl (pw F n)=n*(pl F - 1)+1
 | 0=>by show pl pone=_;rw[show pl pone=1 from Le Eg fun _=>by show(1:Rat)≠0;decide];omega
 | n+1=>by
  have h1:=Gv (R9 h n).f h.f (R9 h n).n h.n;have h2:=h.pos;show pl (cv (pw F n) F)=_;rw[h1,Zn h n,Nat.succ_mul];omega
/-! ### the rounds -/
noncomputable def yw(W C:Nat→Rat):Nat→(Nat→Rat)×(Nat→Rat)
 | 0=>(W,C)
 | k+1=>(Ic (yw W C k).1 (yw W C k).2,pq (yw W C k).2 (Ic (yw W C k).1 (yw W C k).2))
noncomputable def ya(W C:Nat→Rat)(k:Nat):Nat→Rat:=pq (yw W C k).1 (yw W C (k+1)).1
section
variable{W C:Nat→Rat}
theorem OJ(hW:BI W)(hC:BI C):∀ k,BI (yw W C k).1∧BI (yw W C k).2
 | 0=>⟨hW,hC⟩
 | k+1=>by
  obtain⟨h1,h2⟩:=OJ hW hC k;obtain⟨k1,k2,k3,-⟩:=h1.gcd h2.z h2.f;exact⟨k1,(h2.quot k1 k3).1⟩
theorem bW(hW:BI W)(hC:BI C)(k:Nat):BI (ya W C k)∧(yw W C k).1=cv (ya W C k) (yw W C (k+1)).1∧(yw W C k).2=cv (yw W C (k+1)).2 (yw W C (k+1)).1∧J8 (yw W C k).1 (yw W C (k+1)).1∧J8 (yw W C k).2 (yw W C (k+1)).1:=by
 obtain⟨h1,h2⟩:=OJ hW hC k;obtain⟨k1,k2,k3,-⟩:=h1.gcd h2.z h2.f;have q1:=h1.quot k1 k2;have q2:=h2.quot k1 k3;exact⟨q1.1,q1.2,q2.2,k2,k3⟩
theorem Ja{A B D:Nat→Rat}(h:J8 A B)(k:J8 B D):J8 A D:=by
 obtain⟨Q,a,b,rfl⟩:=h;obtain⟨R,c,d,rfl⟩:=k;exact⟨cv Q R,a.cv c,b.cv d,(Av _ _ _).symm⟩
theorem M5{A B:Nat→Rat}(h:J8 A B):Dv B A:=by
 obtain⟨Q,a,b,rfl⟩:=h;exact⟨Q,b,rfl⟩
theorem X6(hW:BI W)(hC:BI C):∀ k,J8 W (yw W C k).1∧J8 C (yw W C k).2
 | 0=>⟨⟨pone,JP.z,Dj,(CR _).symm⟩,⟨pone,JP.z,Dj,(CR _).symm⟩⟩
 | k+1=>by
  obtain⟨h1,h2⟩:=X6 hW hC k;obtain⟨p,e1,e2,d1,d2⟩:=bW hW hC k;have q:=(OJ hW hC (k+1)).1;exact⟨Ja h1 d1,Ja h2 ⟨(yw W C (k+1)).1,q.z,q.f,by rw[Bl];exact e2⟩⟩
end
noncomputable def rd(F:Nat→Rat):Nat→Rat:=psc (1 / ((cn F:Nat):Rat)) F
theorem Xm:rd pz=pz:=Fe _
theorem PQ(F:Nat→Rat):rd F=psc (if ld F < 0 then -1 else 1) (pp F):=by
 unfold rd pp pcn
 split
 ·rw[Ci]
  congr 1;have:(((-(cn F:Int):Int)):Rat) = -((cn F:Nat):Rat):=by simp;rfl
  rw[this];grind
 ·rw[Ca];rfl
theorem JD(p:Prop)[Decidable p]:(if p then(-1:Rat)else 1)=1∨(if p then(-1:Rat)else 1) = -1:=by split;exact .inr rfl;exact .inl rfl
theorem Jn{e:Rat}(h:e=1∨e = -1):e≠0:=by rcases h with rfl | rfl<;>decide
theorem Y4{e:Rat}{F:Nat→Rat}(h:e=1∨e = -1)(z:ZI F):ZI (psc e F):=by
 rcases h with rfl | rfl
 ·rw[Ca];exact z
 ·exact z.psc (-1)
theorem Wo{e:Rat}{F:Nat→Rat}(h:e=1∨e = -1)(i:Nat):qsz (psc e F i)=qsz (F i):=by
 rcases h with rfl | rfl
 ·rw[Ca]
 ·have:psc (-1) F i = - F i:=by show -1*F i=_;grind
  rw[this,FW]
noncomputable def nx(A B:Nat→Rat):Nat→Rat:=
 open Classical in if pr A B=pz then pz else psc (if 0 < ld (pr A B)then -1 else 1) (pp (Cv (pl (pr A B)) (pr A B)))
theorem J7{A B:Nat→Rat}(h:pr A B=pz):nx A B=pz:=by unfold nx;rw[if_pos h]
theorem TY{A B:Nat→Rat}(h:pr A B≠pz):nx A B=psc (if 0 < ld (pr A B)then -1 else 1) (pp (Cv (pl (pr A B)) (pr A B))):=by unfold nx;rw[if_neg h]
section
variable{A B:Nat→Rat}
theorem Tz{R:Nat→Rat}{n:Nat}(hs:Bq n R)(h0:R≠pz):(0 < Kv n R↔0 < ld R)∧Kv n R≠0:=by
 have fR:Af R:=⟨n,hs⟩
 obtain⟨-,e⟩:=SL hs h0;have hp:=LA (DZ hs) (De (n:=n) fR) (Nh (n:=n) fR h0);have hc:Kv n R≠0:=fun e0=>h0 (by rw[←e,e0,PI]);have hl:ld R=Kv n R*ld (pp (Cv n R)):=by
  conv=>lhs;rw[←e]
  exact Jy hc (Dm (De (n:=n) fR))
 refine⟨?_,hc⟩;rw[hl];constructor
 ·intro h;exact Rat.mul_pos h hp
 ·intro h
  rcases Std.lt_trichotomy 0 (Kv n R)with a | a | a
  ·exact a
  ·exact absurd a.symm hc
  ·exfalso
   have:=(Rat.mul_neg_iff_of_pos_right hp).2 a;grind
theorem JC(fA:Af A)(fB:Af B)(h0:B≠pz):ZI (nx A B)∧Af (nx A B)∧pl (nx A B)=pl (pr A B)∧pl (nx A B) < pl B∧(pr A B≠pz→∃ c:Rat,0 < c∧pr A B=psc (-c) (nx A B)):=by
 have hp:=AY fB h0;have hs:=DJ fA fB h0;have fR:=Ex fA fB;have hlt:=BB hs;by_cases hR:pr A B=pz
 ·rw[J7 hR,hR]
  exact⟨ZI.pz,Af.pz,rfl,by rw[BV];omega,fun h=>absurd rfl h⟩
 ·obtain⟨R,hRe⟩:∃ R,R=pr A B:=⟨_,rfl⟩
  rw[TY hR];rw[←hRe]at hR fR hlt ⊢;have hsR:=AJ fR;have zc:=DZ hsR;have fc:=De (n:=pl R) fR;have nc:=Nh (n:=pl R) fR hR;have hpm:=JD (0 < ld R);have hpl:pl (psc (if 0 < ld R then(-1:Rat)else 1) (pp (Cv (pl R) R)))=pl R:=by
   rw[DI (Jn hpm) (Dm fc),Ep zc fc,KY fR]
  refine⟨Y4 hpm (I8 zc fc),(Dm fc).psc _,hpl,by rw[hpl];omega,fun _=>?_⟩;obtain⟨-,e⟩:=SL hsR hR;obtain⟨k1,k2⟩:=Tz hsR hR;by_cases hl:0 < ld R
  ·refine⟨Kv (pl R) R,k1.2 hl,?_⟩
   rw[if_pos hl,Ci]
   conv=>lhs;rw[←e]
   congr 1;grind
  ·refine⟨-Kv (pl R) R,?_,?_⟩
   ·have:¬ 0 < Kv (pl R) R:=fun q=>hl (k1.1 q)
    grind
   ·rw[if_neg hl,Ci]
    conv=>lhs;rw[←e]
    congr 1;grind
end
theorem TF{P Q:Nat→Rat}{q:Rat}(zP:ZI P)(zQ:ZI Q)(fQ:Af Q)(nQ:Q≠pz)(hq:q≠0)(e:P=psc q Q):pp P=pp Q:=by
 have fP:Af P:=by rw[e];exact fQ.psc q
 have nP:P≠pz:=fun h=>nQ ((BF fQ).1 (by rw[←DI hq fQ,←e,h,BV]));have h1:=BI.pp zP fP nP;have h2:=BI.pp zQ fQ nQ;have hcP:(pcn P:Rat)≠0:=fun h=>Ef zP fP nP (by exact_mod_cast h);have hcQ:(pcn Q:Rat)≠0:=fun h=>Ef zQ fQ nQ (by exact_mod_cast h);obtain⟨r,hr⟩:∃ r:Rat,r=1 / (pcn P:Rat)*q*(pcn Q:Rat):=⟨_,rfl⟩
 have hr0:r≠0:=by rw[hr];grind
 have e2:pp P=psc r (pp Q):=by
  have e3:=Qh zQ fQ nQ
  conv=>lhs;unfold pp;rw[e,e3]
  rw[Ci,Ci,hr];congr 1;rw[←e3,←e]
 have hrp:0 < r:=by
  have a:=h1.l;rw[e2,Jy hr0 h2.f]at a;have b:=h2.l;rcases Std.lt_trichotomy 0 r with c | c | c
  ·exact c
  ·exact absurd c.symm hr0
  ·exfalso
   have:=(Rat.mul_neg_iff_of_pos_right b).2 c;grind
 have e4:psc ((r.den:Int):Rat) (pp P)=psc ((r.num:Int):Rat) (pp Q):=by
  rw[e2,Ci];congr 1;have:=JF r;have hd:((r.den:Nat):Rat)≠0:=Jg r.den_pos;have h5:(((r.den:Int)):Rat)=((r.den:Nat):Rat):=rfl;rw[h5]
  conv=>lhs;rw[this]
  grind
 have hn:r.num≠0:=fun h=>hr0 (Rat.num_eq_zero.1 h);have hdn:(r.den:Int)≠0:=by have:=r.den_pos;omega
 have c1:=Gy hdn h1.z h1.f;have c2:=Gy hn h2.z h2.f;rw[e4,c2,h1.c,h2.c]at c1;have hnp:0≤r.num:=Rat.num_nonneg.2 Aj;have hr1:r=1:=by
  have h3:r.num=(r.den:Int):=by omega
  rw[JF r,h3];have hd:((r.den:Nat):Rat)≠0:=Jg r.den_pos;show((r.den:Nat):Rat) / ((r.den:Nat):Rat)=1;grind
 rw[e2,hr1,Ca]
theorem aW{A B:Nat→Rat}(fA:Af A)(fB:Af B)(h0:B≠pz)(e:Rat){d:Rat}(hd:d≠0):pr (psc e A) (psc d B)=psc e (pr A B):=by
 have h1:psc d B≠pz:=fun h=>h0 ((BF fB).1 (by rw[←DI hd fB,h,BV]));have h2:=(Il (fA.psc e) (fB.psc d) h1 (Q:=psc (e / d) (pq A B)) (R:=psc e (pr A B)) ((Dl A B).psc _) (by
  rw[CP,Pt,Ci,show e / d*d=e by grind]
  funext i
  have:=congrFun (Ki A B) i;simp only[psc,pad]at this ⊢;rw[this];grind) (by rw[DI hd fB];exact(DJ fA fB h0).psc e)).2
 exact h2.symm
def F5(F0 G0:Nat→Rat)(D S:Nat)(A B:Nat→Rat):Prop:=∃ A' B' e d,Ia F0 G0 D S A' B'∧A=psc e A'∧B=psc d B'∧(e=1∨e = -1)∧(d=1∨d = -1)
section
variable{F0 G0 A B:Nat→Rat}{D S:Nat}
theorem F5.start(fF:Af F0)(fG:Af G0)(zF:ZI F0)(zG:ZI G0)(qF:∀ i,qsz (F0 i)≤S)(qG:∀ i,qsz (G0 i)≤S):F5 F0 G0 (pl F0+pl G0) S (rd F0) (rd G0):=
 ⟨_,_,_,_,Ia.start fF fG zF zG qF qG,PQ F0,PQ G0,JD _,JD _⟩
theorem F5.facts(h:F5 F0 G0 D S A B):Af A∧Af B∧ZI A∧ZI B∧pl A+pl B≤D∧(∀ i,qsz (A i)≤(S+1)*2^D)∧(∀ i,qsz (B i)≤(S+1)*2^D):=by
 obtain⟨A',B',e,d,h,rfl,rfl,he,hd⟩:=h;have hr:=h.room rfl;refine⟨h.fA.psc _,h.fB.psc _,Y4 he h.zA,Y4 hd h.zB,?_,fun i=>by rw[Wo he];exact hr.1 i,fun i=>by rw[Wo hd];exact hr.2.1 i⟩;rw[DI (Jn he) h.fA,DI (Jn hd) h.fB];exact h.deg
theorem F5.step(h:F5 F0 G0 D S A B)(h0:B≠pz):F5 F0 G0 D S B (nx A B):=by
 obtain⟨A',B',e,d,h,rfl,rfl,he,hd⟩:=h;have hB':B'≠pz:=fun q=>h0 (by rw[q,Fe]);have hst:=(h.step hB' (R:=CX A' B' (pl A'+1 - pl B')) rfl).1;have hend:=(JO h.fA h.fB hB').2;have hl:=SN (Dc h.fB hB') (pl A'+1 - pl B');have hpr:=aW h.fA h.fB hB' e (Jn hd);by_cases hR:pr A' B'=pz
 ·have e1:nx (psc e A') (psc d B')=pz:=J7 (by rw[hpr,hR,Fe])
  rw[hend,hR,Fe,Gq]at hst;exact⟨B',pz,d,1,hst,rfl,by rw[e1,Fe],hd,.inl rfl⟩
 ·have fR:=Ex h.fA h.fB
  have hR2:pr (psc e A') (psc d B')≠pz:=fun q=>hR (by
   rw[hpr]at q;exact(BF fR).1 (by rw[←DI (Jn he) fR,q,BV]))
  refine⟨B',_,d,_,hst,rfl,?_,hd,JD (0 < ld (pr (psc e A') (psc d B')))⟩;rw[TY hR2];congr 1;have fR2:Af (pr (psc e A') (psc d B')):=by rw[hpr];exact fR.psc e
  refine TF (q:=((dl (pl (pr (psc e A') (psc d B'))) (pr (psc e A') (psc d B')):Nat):Rat)*e*(1 / ld B'^(pl A'+1 - pl B'))) (DZ (AJ fR2)) (ET h.zA h.zB _) (Tx h.fA h.fB hB') (fun q=>hR ?_) ?_ ?_
  ·rw[q]at hend
   exact(BF fR).1 (by rw[←DI hl fR,←hend,BV])
  ·have h1:=U0 (pl (pr (psc e A') (psc d B'))) (pr (psc e A') (psc d B'))
   have h2:=Jn he;grind
  ·rw[hend,Ci]
   unfold Cv
   conv=>lhs;arg 2;rw[hpr]
   rw[Ci];congr 1;grind
end
noncomputable def fM(F G:Nat→Rat):Nat→(Nat→Rat)×(Nat→Rat)
 | 0=>(rd F,rd G)
 | k+1=>((fM F G k).2,nx (fM F G k).1 (fM F G k).2)
noncomputable def C9(F G:Nat→Rat)(k:Nat):Nat→Rat:=(fM F G k).1
theorem JW(F G:Nat→Rat)(k:Nat):C9 F G (k+2)=nx (C9 F G k) (C9 F G (k+1)):=rfl
noncomputable def F4(F G:Nat→Rat)(K:Nat):List (Nat→Rat):=(List.range K).map (C9 F G)
theorem Co(F G:Nat→Rat)(K:Nat):(F4 F G K).length=K:=by simp[F4]
theorem PO(F G:Nat→Rat)(K:Nat):F4 F G (K+1)=F4 F G K ++ [C9 F G K]:=by simp[F4,List.range_succ]
theorem OT{F G:Nat→Rat}{K i:Nat}(h:i < (F4 F G K).length):(F4 F G K)[i]=C9 F G i:=by simp[F4]
def Nv(F G:Nat→Rat)(K:Nat):Prop:=1≤K∧C9 F G K=pz∧∀ j,1≤j→j < K→C9 F G j≠pz
theorem Nv.uniq{F G:Nat→Rat}{K L:Nat}(h:Nv F G K)(k:Nv F G L):K=L:=by
 rcases Nat.lt_trichotomy K L with a | a | a
 ·exact absurd h.2.1 (k.2.2 K h.1 a)
 ·exact a
 ·exact absurd k.2.1 (h.2.2 L k.1 a)
theorem JG{F G:Nat→Rat}{S:Nat}(fF:Af F)(fG:Af G)(zF:ZI F)(zG:ZI G)(qF:∀ i,qsz (F i)≤S)(qG:∀ i,qsz (G i)≤S):∀ k,(∀ j,1≤j→j≤k→C9 F G j≠pz)→F5 F G (pl F+pl G) S (C9 F G k) (C9 F G (k+1))
 | 0,_=>F5.start fF fG zF zG qF qG
 | k+1,h=>(JG fF fG zF zG qF qG k fun j a b=>h j a Aa).step (h (k+1) Aa Aa)
theorem LH{F G:Nat→Rat}{S:Nat}(fF:Af F)(fG:Af G)(zF:ZI F)(zG:ZI G)(qF:∀ i,qsz (F i)≤S)(qG:∀ i,qsz (G i)≤S)(k:Nat)(h:∀ j,1≤j→j≤k→C9 F G j≠pz):pl (C9 F G (k+1))+k≤pl G:=by
 induction k with
 | zero =>
  show pl (rd G)+0≤_;by_cases h0:G=pz
  ·rw[h0,Xm,BV];omega
  ·rw[PQ,DI (Jn (JD _)) (Dm fG),Ep zG fG];omega
 | succ k ih =>
  have h1:=ih fun j a b=>h j a Aa;obtain⟨f1,f2,-⟩:=(JG fF fG zF zG qF qG k fun j a b=>h j a Aa).facts;have h2:=(JC f1 f2 (h (k+1) Aa Aa)).2.2.2.1;rw[JW];omega
theorem IC{F G:Nat→Rat}{S:Nat}(fF:Af F)(fG:Af G)(zF:ZI F)(zG:ZI G)(qF:∀ i,qsz (F i)≤S)(qG:∀ i,qsz (G i)≤S):∃ K,Nv F G K∧K≤pl G+1:=by
 have hx:∃ k,C9 F G (k+1)=pz:=Classical.byContradiction fun hn=>by
  have h1:=LH fF fG zF zG qF qG (pl G) fun j a b=>fun e=>hn ⟨j - 1,by rw[show j - 1+1=j by omega];exact e⟩;exact hn ⟨pl G,by
   obtain⟨f1,f2,-⟩:=(JG fF fG zF zG qF qG (pl G) fun j a b=>fun e=>hn ⟨j - 1,by rw[show j - 1+1=j by omega];exact e⟩).facts;exact(BF f2).1 Aa⟩
 obtain⟨k,h1,h2⟩:=ML hx;have hne:∀ j,1≤j→j < k+1→C9 F G j≠pz:=fun j a b e=>h2 (j - 1) Aa (by rw[show j - 1+1=j by omega];exact e);refine⟨k+1,⟨Aa,h1,hne⟩,?_⟩;have:=LH fF fG zF zG qF qG k fun j a b=>hne j a Aa;omega
end Go.Hp
namespace Go.Hp
open Go.RowKit
def QZ:Value→Bool
 | .bool _=>true
 | _=>false
def Nt(w:World)(v:Value):Prop:=∀ g∈blk v,∀ i c,w.cell? ⟨g,i,none⟩≠some (.bool c)
theorem Pj{w:World}{g:Nat}{t:TypeId}{cur:Array Value}{n c:Nat}(hb:w.heap[g]? = some (.cells cur t (0,0)))(h:∀ u∈cur.toList,QZ u=false):Nt w (.slice (some ⟨g,0,none⟩) n c):=by
 intro g' hg i b e;have:g'=g:=by simpa[blk,Value.ownBlock] using hg
 subst this;rw[cell_of_row w g' i cur t (0,0) hb]at e;have:=h (.bool b) (by
  have:=Array.mem_of_getElem? e;simpa using this)
 cases this
theorem Wj{w:World}{g:Nat}{t:TypeId}{cur:Array Value}{n c:Nat}(hb:w.heap[g]? = some (.cells cur t (0,0)))(h:Nt w (.slice (some ⟨g,0,none⟩) n c)):∀ u∈cur.toList,QZ u=false:=by
 intro u hu;obtain⟨i,hi,rfl⟩:=List.getElem_of_mem hu;have h1:=h g (by simp[blk,Value.ownBlock]) i;rw[cell_of_row w g i cur t (0,0) hb]at h1;have hi':i < cur.size:=by simpa using hi
 rw[Array.getElem?_eq_getElem hi']at h1;rw[Array.getElem_toList];cases hc:cur[i]with
 | bool b=>exact absurd (by rw[hc]) (h1 b)
 | _=>rfl
section
variable{P:Program}
theorem MF(w:World)(k base:Nat)(t ty e:TypeId)(i:TypeInfo)(z:Value)(bytes:Nat)(ht:P.underlying t=some (.slice e))(hi:P.info? e=some i)(hz:i.zero=some z)
  (hsize:i.size=k) (hby:i.bytes=bytes) (hzs:z.cells.size=k) (hzd:nodig z.cells=true) (hsz:0 < k)
  (v:Value) (n:Nat) (xs:List Value) (hown:Lr k base e w v n xs)
  (a:Addr) (c:Nat) (news:List Value) (hl:news.length=k) (hnews:∀ j u,news[j]? = some u→w.cell? (a.add j)=some u) (h1:∀ u∈news,u.oneCell'=true) (hnd:∀ u∈news,Ag u=false)
  (h63:n+1≤maxLen) (hbytes:(n+1)*bytes≤140737488355328) (hbase:base≤w.heap.size) (hvb:Nt w v) (hnb:∀ u∈news,QZ u=false) (hzB:∀ u∈z.cells.toList,QZ u=false) :
  ∃ v' w',(Builtin.append_ #[t,t] ty #[v,.slice (some a) 1 c]).run P w = .ok v' w'∧Lr k base e w' v' (n+1) (xs ++ news)∧Ch (blk v) w w'∧Nt w' v':=by
 subst hsize;subst hby;have hl':news.length=1*i.size:=by rw[Nat.one_mul];exact hl
 have hlen:(xs ++ news).length=(n+1)*i.size:=by rw[List.length_append,hown.1,hl,Nat.succ_mul]
 have hsmall:n+1≤9223372036854775807:=by simp only[maxLen]at h63;omega
 have hzl:=BP.1 hzd;have hzc:∀ m,∀ u∈(Builtin.zeroCells z.cells m).toList,Ag u=false:=by
  intro m u hu;simp only[Builtin.zeroCells,Array.toList_map,Array.toList_range,List.mem_map,List.mem_range]at hu;obtain⟨j,hj,rfl⟩:=hu;have:j % z.cells.size < z.cells.size:=Nat.mod_lt _ Aa;rw[getElem!_pos z.cells _ this];exact hzl _ Ac
 have hzb:∀ m,∀ u∈(Builtin.zeroCells z.cells m).toList,QZ u=false:=by
  intro m u hu;simp only[Builtin.zeroCells,Array.toList_map,Array.toList_range,List.mem_map,List.mem_range]at hu;obtain⟨j,hj,rfl⟩:=hu;have:j % z.cells.size < z.cells.size:=Nat.mod_lt _ Aa;rw[getElem!_pos z.cells _ this];exact hzB _ Ac
 have hxb:∀ u∈xs,QZ u=false:=by
  rcases hown.2 with⟨_,h0⟩ | ⟨g,cap,cur,ev,_,hb,_,_,_,htake⟩
  ·intro u hu
   have:xs=[]:=List.eq_nil_of_length_eq_zero (by rw[hown.1,h0,Nat.zero_mul]);rw[this]at hu;cases hu
  ·intro u hu
   rw[←htake]at hu;exact Wj hb.1 (by rw[ev]at hvb;exact hvb) _ (List.mem_of_mem_take hu)
 have hxd:∀ u∈xs,Ag u=false:=by
  rcases hown.2 with⟨_,h0⟩ | ⟨g,cap,cur,_,_,hb,_,_,_,htake⟩
  ·intro u hu
   have:xs=[]:=List.eq_nil_of_length_eq_zero (by rw[hown.1,h0,Nat.zero_mul]);rw[this]at hu;cases hu
  ·intro u hu
   rw[←htake]at hu;exact BP.1 hb.2 _ (List.mem_of_mem_take hu)
 have grown:∀(old:Nat),old < n+1 →
   Lr i.size base e (w.drew.alloc (.cells (xs.toArray ++ news.toArray ++ Builtin.zeroCells z.cells (grownCap w (n+1) old e - (n+1))) e)) (.slice (some ⟨w.heap.size,0,none⟩) (n+1) (grownCap w (n+1) old e)) (n+1) (xs ++ news) ∧
   (∀ G,Ch G w (w.drew.alloc (.cells (xs.toArray ++ news.toArray ++ Builtin.zeroCells z.cells (grownCap w (n+1) old e - (n+1))) e))) ∧
   Nt (w.drew.alloc (.cells (xs.toArray ++ news.toArray ++ Builtin.zeroCells z.cells (grownCap w (n+1) old e - (n+1))) e)) (.slice (some ⟨w.heap.size,0,none⟩) (n+1) (grownCap w (n+1) old e)):=by
  intro old ho;have hge:=grownCap_ge w (n+1) old e;have hcm:grownCap w (n+1) old e≤maxLen:=grownCap_le_maxLen w (n+1) old e h63;refine⟨⟨hlen,.inr ⟨w.heap.size,_,_,rfl,hbase,⟨heap_alloc_new w.drew _,?_⟩,hge,hcm,?_,?_⟩⟩,fun G=>Ch.of_ext ((Ext.refl w).drew.alloc _),Pj (heap_alloc_new w.drew _) ?_⟩
  ·rw[BP]
   intro u hu;simp only[Array.toList_append,List.mem_append]at hu;rcases hu with(hu | hu) | hu
   ·exact hxd u (by simpa using hu)
   ·exact hnd u (by simpa using hu)
   ·exact hzc _ u hu
  ·simp only[Array.size_append,List.size_toArray,size_zeroCells,hzs,hown.1,hl]
   rw[←Nat.succ_mul,←Nat.add_mul];congr 1;omega
  ·simp only[Array.toList_append,List.append_assoc]
   rw[←List.append_assoc,←hlen];exact List.take_left
  ·intro u hu
   simp only[Array.toList_append,List.mem_append]at hu;rcases hu with(hu | hu) | hu
   ·exact hxb u (by simpa using hu)
   ·exact hnb u (by simpa using hu)
   ·exact hzb _ u hu
 rcases hown.2 with⟨rfl,rfl⟩ | ⟨g,cap,cur,rfl,hbg,hb,hnc,hcm,hcs,htake⟩
 ·have hx:xs=[]:=List.eq_nil_of_length_eq_zero (by simpa using hown.1)
  subst hx;have hr:=run_append_nil (P:=P) w t ty e i z ht hi hz a 1 c news hl' hnews Aa Aa (by have hb:=hbytes;simp only[Nat.zero_add]at hb;omega);have hgr:=grown 0 Aa;simp only[Nat.zero_add,List.nil_append,Array.empty_append]at hgr ⊢;exact⟨_,_,hr,hgr.1,hgr.2.1 _,hgr.2.2⟩
 ·have hg:=hb.1
  by_cases hroom:n+1≤cap
  ·have hfit:n*i.size+news.length≤cur.size:=by rw[hl,hcs,←Nat.succ_mul];exact Nat.mul_le_mul_right _ hroom
   have hr:=run_append_room (P:=P) w t ty e i ht hi g n cap cur hg a 1 c news hl' hnews h1 hroom hfit;have hnew:∀ u∈cur.toList.take (n*i.size) ++ news ++ cur.toList.drop (n*i.size+news.length),Ag u=false:=by
    intro u hu;simp only[List.mem_append]at hu;rcases hu with(hu | hu) | hu
    ·exact BP.1 hb.2 _ (List.mem_of_mem_take hu)
    ·exact hnd u hu
    ·exact BP.1 hb.2 _ (List.mem_of_mem_drop hu)
   have hbx:Be (w.setRow g (cur.toList.take (n*i.size) ++ news ++ cur.toList.drop (n*i.size+news.length)).toArray) g e _:=⟨setRow_heap w g cur _ e _ hg,BP.2 (by simpa using hnew)⟩
   refine⟨_,_,hr,⟨hlen,.inr ⟨g,cap,_,rfl,hbg,hbx,hroom,hcm,?_,?_⟩⟩,⟨fun g' o hg' ho=>?_,Md hb fun h hne _=>setRow_other w g h _ hne,fun a' ha hG=>?_⟩,Pj hbx.1 ?_⟩
   ·simp only[List.size_toArray,List.length_append,List.length_take,List.length_drop,Array.length_toList]
    omega
   ·rw[htake,←hlen]
    exact List.take_left
   ·rw[setRow_other w g g' _ (fun e=>hg' (by simp[blk,Value.ownBlock,e]))];exact ho
   ·have hga:a'.heap.size≤g:=hG g (by simp[blk,Value.ownBlock])
    exact ha.grown (row:=some g) ⟨rfl,rfl,rfl,by simp[World.setRow],fun k _ hk=>setRow_other w g k _ (fun e=>hk (by rw[e]))⟩ (fun k hk=>by cases hk;exact hga)
   ·intro u hu
    have hcb:=Wj hb.1 hvb;have hu':u∈cur.toList.take (n*i.size) ++ news ++ cur.toList.drop (n*i.size+news.length):=by simpa using hu
    simp only[List.mem_append]at hu';rcases hu' with(hu | hu) | hu
    ·exact hcb _ (List.mem_of_mem_take hu)
    ·exact hnb u hu
    ·exact hcb _ (List.mem_of_mem_drop hu)
  ·have holds:∀ j u,xs[j]? = some u→w.cell? ((⟨g,0,none⟩:Addr).add j)=some u:=hown.owns.cells (g:=g) rfl
   have hr:=run_append_grow (P:=P) w t ty e i z ht hi hz ⟨g,0,none⟩ n cap xs hown.1 holds a 1 c news hl' hnews Aa Aa (growslice_fits Aa hbytes);have hgr:=grown cap Aa;exact⟨_,_,hr,hgr.1,hgr.2.1 _,hgr.2.2⟩
end
section
variable{α:Type}{k:Nat}{rd:World→Value→α→Prop}{base:Nat}{e:TypeId}{w w':World}{v:Value}{l:List α}
theorem BD.append_blk{P:Program}(h:BD k rd base e w v l)(t ty:TypeId)(i:TypeInfo)(z:Value)(bytes:Nat)(ht:P.underlying t=some (.slice e))(hi:P.info? e=some i)(hz:i.zero=some z)
  (hsize:i.size=k) (hby:i.bytes=bytes) (hzs:z.cells.size=k) (hzd:nodig z.cells=true) (hsz:0 < k) {x:α}
  (a:Addr) (c:Nat) (news:Array Value) (hl:news.size=k) (hx:rd w (.agg news) x) (hnews:∀ j u,news.toList[j]? = some u→w.cell? (a.add j)=some u) (h1:∀ u∈news.toList,u.oneCell'=true) (hnd:nodig news=true)
  (h63:l.length+1≤maxLen) (hbytes:(l.length+1)*bytes≤140737488355328) (hbase:base≤w.heap.size) (hr:∀ w' u y,KD w w'→rd w u y→rd w' u y) (hvb:Nt w v) (hnb:∀ u∈news.toList,QZ u=false) (hzB:∀ u∈z.cells.toList,QZ u=false) :
  ∃ v' w',(Builtin.append_ #[t,t] ty #[v,.slice (some a) 1 c]).run P w = .ok v' w'∧BD k rd base e w' v' (l ++ [x])∧Ch (blk v) w w'∧Nt w' v':=by
 obtain⟨ess,g1,g2,g3,g5⟩:=h;obtain⟨v',w',hrun,hown,hupd,hblk⟩:=MF (P:=P) w k base t ty e i z bytes ht hi hz hsize hby hzs hzd hsz v l.length _ g3 a c news.toList (by simpa using hl) hnews h1 (BP.1 hnd) h63 hbytes hbase hvb hnb hzB;refine⟨v',w',hrun,⟨ess ++ [news],by simp[g1],?_,?_,?_⟩,hupd,hblk⟩
 ·intro d hd
  rcases List.mem_append.1 hd with hd | hd
  ·exact g2 d hd
  ·simp at hd;subst hd;exact hl
 ·have e1:(ess ++ [news]).flatMap Array.toList=ess.flatMap Array.toList ++ news.toList:=by simp
  rw[e1,List.length_append];exact hown
 ·intro j hj hj'
  rcases Nat.lt_or_ge j l.length with hlt | hge
  ·rw[List.getElem_append_left hlt,List.getElem_append_left Aa]
   exact hr _ _ _ hupd.kd (g5 j hlt Aa)
  ·have:j=l.length:=by simp at hj;omega
   subst this;rw[List.getElem_append_right Aa,List.getElem_append_right Aa];simpa using hr _ _ _ hupd.kd hx
end
theorem KD.own{A B:World}{row:Option Nat}(hg:A.grownBy B row)(hr:∀ r,row=some r→∃ o:Obj,A.heap[r]? = some o∧o.isCells=false):KD A B:=fun _ _ e=>cell_kept e hg hr
theorem Be.own{A B:World}{row:Option Nat}{g:Nat}{t:TypeId}{cs:Array Value}(h:Be A g t cs)(hg:A.grownBy B row)(hr:∀ r,row=some r→∃ o:Obj,A.heap[r]? = some o∧o.isCells=false):Be B g t cs:=
 ⟨(hg.block g h.lt (fun e=>by obtain⟨o,h1,h2⟩:=hr g e.symm;rw[h.1]at h1;cases h1;cases h2)).trans h.1,h.2⟩
theorem eP{A B C:World}{g:Nat}{u v x y:Value}(B0:Nat)(e:Ext A B)(h:C=(((B.setCell ⟨g,0,none⟩ u).setCell ⟨g,1,none⟩ v).setCell ⟨g,2,none⟩ x).setCell ⟨g,3,none⟩ y):KeepsFrom B0 A C:=by
 subst h;have k1:KeepsFrom B0 A B:=⟨e.size,fun k o _ h0 _=>e.blk h0⟩
 exact k1.trans (((((KeepsOthers.setCell _ _ _).trans (KeepsOthers.setCell _ _ _)).trans (KeepsOthers.setCell _ _ _)).trans (KeepsOthers.setCell _ _ _)).from _)
theorem aR{A B C:World}{g n₀:Nat}{u v x y:Value}(e:Below n₀ A B)(h:C=(((B.setCell ⟨g,0,none⟩ u).setCell ⟨g,1,none⟩ v).setCell ⟨g,2,none⟩ x).setCell ⟨g,3,none⟩ y)(hg:n₀≤g):Below n₀ A C:=by
 subst h;exact(((e.setCell (p:=⟨g,0,none⟩) hg _).setCell (p:=⟨g,1,none⟩) hg _).setCell (p:=⟨g,2,none⟩) hg _).setCell (p:=⟨g,3,none⟩) hg _
theorem PK{A B:World}{G:List Nat}{g i:Nat}{v:Value}(U:Ch G A B)(hg:g∉G)(h:A.cell? ⟨g,i,none⟩=some v):B.cell? ⟨g,i,none⟩=some v:=by
 obtain⟨o,ho,hc⟩:=cells_of_cell h;exact(World.cell?_of_block ((U.1 g o hg ho).trans ho.symm)).trans h
theorem CL.own{A B:World}{row:Option Nat}{g:Nat}{t:TypeId}{q:Rat}(h:CL A g t q)(hg:A.grownBy B row)(hr:∀ r,row=some r→∃ o:Obj,A.heap[r]? = some o∧o.isCells=false):CL B g t q:=by
 obtain⟨b,A1,n,c,b',A1',n',c',h1,h2⟩:=h;exact CL.mk (h1.own hg hr) (h2.kd (KD.own hg hr))
end Go.Hp
namespace Go.Hp
theorem bL{F:Nat→Rat}(z:ZI F)(x:Int):∀ n,∃ y:Int,CK n F (x:Rat)=(y:Rat):=by
 intro n;induction n generalizing F with
 | zero=>exact⟨0,rfl⟩
 | succ n ih =>
  obtain⟨y,hy⟩:=ih (F:=tl F) fun i=>z (i+1);obtain⟨a,ha⟩:=z 0;exact⟨a+x*y,by rw[DD,hy,ha];simp⟩
theorem LZ{F:Nat→Rat}(z:ZI F)(x:Int):∃ y:Int,ev F (x:Rat)=(y:Rat):=bL z x _
theorem NF{F:Nat→Rat}{n:Nat}(fF:Af F)(h0:F≠pz)(hn:pl F≤n):∃ X:Nat→Rat,L6 X n∧∀ k,k < n→ev F (X k)≠0∧∃ m:Nat,m < 2*n∧X k=((m:Int):Rat):=by
 classical
 obtain⟨l,hl⟩:∃ l,l=(List.range (2*n)).map (fun k:Nat=>(((k:Nat):Int):Rat)):=⟨_,rfl⟩
 have hnd:l.Nodup:=by
  rw[hl,List.nodup_iff_pairwise_ne,List.pairwise_map];refine List.Pairwise.imp (R:=fun a b=>a < b) ?_ List.pairwise_lt_range;intro a b hab e;have:((a:Nat):Int)=((b:Nat):Int):=by exact_mod_cast e
  omega
 obtain⟨R,hR⟩:∃ R,R=l.filter fun x=>decide (ev F x=0):=⟨_,rfl⟩
 obtain⟨N,hN⟩:∃ N,N=l.filter fun x=>!decide (ev F x=0):=⟨_,rfl⟩
 have hlen:R.length+N.length=2*n:=by
  have h1:R.length+N.length=l.length:=by
   rw[hR,hN];clear hR hN hl hnd;induction l with
   | nil=>rfl
   | cons a l ih =>
    simp only[List.filter_cons];by_cases e:ev F a=0
    ·simp[e];omega
    ·simp[e];omega
  rw[h1,hl];simp
 have hRl:R.length < pl F:=by
  rcases Nat.lt_or_ge R.length (pl F)with a | a
  ·exact a
  ·exact absurd (I4 ((AJ fF).mono a) (by rw[hR];exact hnd.sublist (List.filter_sublist)) (fun x hx=>by rw[hR,List.mem_filter]at hx;simpa using hx.2)) h0
 have hNn:N.Nodup:=by rw[hN];exact hnd.sublist (List.filter_sublist)
 have hNg:∀ k (h:k < n),∃ h':k < N.length,N.getD k 0=N[k]:=fun k h=>⟨Aa,by rw[List.getD_eq_getElem?_getD,List.getElem?_eq_getElem Aa];rfl⟩
 refine⟨fun k=>N.getD k 0,fun i k hi hk=>?_,fun k hk=>?_⟩
 ·obtain⟨a1,a2⟩:=hNg i hi
  obtain⟨b1,b2⟩:=hNg k Aa;show N.getD i 0≠N.getD k 0;rw[a2,b2];intro e;rw[List.nodup_iff_pairwise_ne,List.pairwise_iff_getElem]at hNn;exact hNn k i b1 a1 hk e.symm
 ·obtain⟨a1,a2⟩:=hNg k hk
  show ev F (N.getD k 0)≠0∧∃ m:Nat,m < 2*n∧N.getD k 0=_;rw[a2];obtain⟨y,hy⟩:∃ y,y=N[k]:=⟨_,rfl⟩
  have hm:y∈N:=by rw[hy];exact List.getElem_mem a1
  rw[←hy];clear hy a2;rw[hN,List.mem_filter,hl]at hm;obtain⟨b1,b2⟩:=hm;obtain⟨m,c1,c2⟩:=List.mem_map.1 b1;refine⟨by simpa using b2,m,List.mem_range.1 c1,c2.symm⟩
theorem TM{F D:Nat→Rat}{n s:Nat}(zF:ZI F)(fF:Af F)(h0:F≠pz)(zD:ZI D)(fD:Af D)(hd:J8 F D)(hn:pl F≤n)(hn9:n≤16)(hs:∀ i,qsz (F i)≤s)(hs9:s≤5)(i:Nat):qsz (D i)≤36000:=by
 obtain⟨X,hA,hX⟩:=NF fF h0 hn;have hX1:∀ k,k < n→qsz (X k)≤1:=fun k hk=>by
  obtain⟨-,m,h1,h2⟩:=hX k hk;have h3:bp 1=4294967296:=rfl;have h4:sz ((m:Nat):Int).natAbs≤1:=C8 (by rw[h3];omega);rw[h2,Ba];omega
 have hX2:∀ k,k < n→qsz (X k)≤2:=fun k hk=>Nat.le_trans (hX1 k hk) Aa;obtain⟨Q,zQ,fQ,e⟩:=hd;have hY:∀ k,k < n→qsz (ev D (X k))≤113:=fun k hk=>by
  have h1:=RA ((AJ fF).mono hn) hs (hX1 k hk);have h2:n*(s+1+1)≤16*7:=Nat.mul_le_mul hn9 Aa;obtain⟨h3,m,-,h4⟩:=hX k hk;have h5:ev F (X k)=ev Q (X k)*ev D (X k):=by rw[e,FT fQ fD]
  rw[h4]at h1 h3 h5 ⊢;obtain⟨a,ha⟩:=LZ zF (m:Int);obtain⟨b,hb⟩:=LZ zQ (m:Int);obtain⟨c,hc⟩:=LZ zD (m:Int);rw[ha]at h1 h3;rw[ha,hb,hc]at h5;rw[hc];have h6:a=b*c:=by exact_mod_cast h5
  have h7:a≠0:=fun e=>h3 (by rw[e];rfl);rw[Ba]at h1 ⊢;have h8:c.natAbs≤a.natAbs:=Nat.le_of_dvd Aa (Int.natAbs_dvd_natAbs.2 ⟨b,by rw[h6,Int.mul_comm]⟩);have:=Bf h8;omega
 have hDn:D≠pz:=fun e2=>h0 (by rw[e,e2,La]);have hDl:pl D≤pl F:=Dv.le fD fF h0 ⟨Q,fQ,e⟩;obtain⟨Y,hYe⟩:∃ Y,Y=fun k=>ev D (X k):=⟨_,rfl⟩
 have hD:D=Z8 X Y n n:=Ka hA ((AJ fD).mono Aa) (OD X Y n n (Nat.le_refl _)) fun k hk=>by
  rw[VG hA hk n (Nat.le_refl _),if_pos hk,hYe]
 have hc:∀ j,j < n→CD 2235 (aX X Y n j):=fun j hj=>by
  have h1:=ZW j n hX2 Aa;have h2:=RA (Oh X j n).1 (fun j=>h1.elem j) (hX1 j hj);have h3:(n+1)*(3+7*n+1+1)≤17*117:=Nat.mul_le_mul Aa Aa;have h4:=F8 (Y j) (ev (lgp X j n) (X j));have h5:=hY j hj;have h6:qsz (Y j)≤113:=by rw[hYe];exact h5
  exact(h1.psc _).mono Aa
 have hl:∀ m,m≤n→CD (1+m*2236) (Z8 X Y n m):=by
  intro m;induction m with
  | zero=>intro _;exact CD.pz
  | succ m ih=>intro h;exact((ih Aa).pad (hc m h)).mono Aa
 rw[hD];have h9:n*2236≤16*2236:=Nat.mul_le_mul_right _ hn9;exact Nat.le_trans ((hl n (Nat.le_refl _)).elem i) Aa
theorem DU.mul{F G H:Nat→Rat}(fF:Af F)(fG:Af G)(fH:Af H)(h:DU F G)(k:DU F H):DU F (cv G H):=by
 obtain⟨U,V,a,b,e⟩:=h;obtain⟨X,Y,c,d,e'⟩:=k;refine⟨pad (cv (pad (cv U F) (cv V G)) X) (cv U (cv Y H)),cv V Y,(((a.cv fF).pad (b.cv fG)).cv c).pad (a.cv (d.cv fH)),b.cv d,?_⟩;have h1:cv (pad (cv U F) (cv V G)) (pad (cv X F) (cv Y H))=pone:=by rw[e,e',CR]
 rw[←h1,Fs,D5 (cv U F) (cv V G) (cv Y H),D5 _ _ F];have e1:cv (cv (pad (cv U F) (cv V G)) X) F=cv (pad (cv U F) (cv V G)) (cv X F):=Av _ _ _;have e2:cv (cv U (cv Y H)) F=cv (cv U F) (cv Y H):=by rw[Av,Bl (cv Y H) F,←Av]
 have e3:cv (cv V Y) (cv G H)=cv (cv V G) (cv Y H):=by rw[Av,Av,←Av Y G H,Bl Y G,Av]
 rw[e1,e2,e3]
 funext n;simp only[pad];grind
theorem DU.one(F:Nat→Rat):DU F pone:=⟨pz,pone,Af.pz,Dj,by rw[Cy,CR];funext n;simp only[pad,pz];grind⟩
theorem DU.pw{F G:Nat→Rat}(fF:Af F)(fG:Af G)(h:DU F G):∀ n,DU F (pw G n)
 | 0=>DU.one F
 | n+1=>DU.mul fF (Ro fG n) fG (DU.pw fF fG h n) h
theorem Uq{W:Nat→Rat}(hW:BI W):∀(n:Nat) {C:Nat→Rat},BI C→pl C≤n→∃ P R N,BI P∧BI R∧C=cv P R∧DU P W∧Dv R (pw W N):=by
 intro n;induction n with
 | zero=>intro C hC hn;have:=hC.pos;omega
 | succ n ih =>
  intro C hC hn;obtain⟨k,z1,-,-,d2,-⟩:=hC.gcd hW.z hW.f;by_cases h1:pl (Ic C W)≤1
  ·exact⟨C,pone,0,hC,JP,(Kh C).symm,DU.of_gcd hC hW.z hW.f h1,Dv.refl _⟩
  ·obtain⟨q1,q2⟩:=hC.quot k z1
   have h2:=Gv q1.f k.f q1.n k.n;rw[←q2]at h2;obtain⟨P,R,N,a,b,c,d,e⟩:=ih q1 Aa;refine⟨P,cv R (Ic C W),N+1,a,b.mul k,by rw[←Av,←c];exact q2,d,?_⟩;obtain⟨X,fX,eX⟩:=e;obtain⟨Y,fY,eY⟩:=d2;refine⟨cv X Y,fX.cv fY,?_⟩;show cv (pw W N) W=_;rw[eX]
   conv=>lhs;rw[eY]
   rw[Av,Av X Y,←Av R Y,Bl R Y,Av Y R]
theorem UJ{D A B:Nat→Rat}(fD:Af D)(nD:D≠pz)(fA:Af A)(fB:Af B)(h:cv D A=cv D B):A=B:=by
 have h1:=(ME fA fD nD).1;have h2:=(ME fB fD nD).1;rw[Bl]at h1 h2;rw[h]at h1;exact h1.symm.trans h2
noncomputable def yc(g:Nat→Rat):Nat→Rat:=Ic g (pd g)
noncomputable def y0(g:Nat→Rat):Nat→Rat:=pq g (yc g)
section
variable{g:Nat→Rat}
theorem FX(h:BI g):BI (yc g)∧BI (y0 g)∧g=cv (y0 g) (yc g)∧J8 g (yc g)∧J8 (pd g) (yc g):=by
 obtain⟨k,z1,z2,-⟩:=h.gcd (EM h.z) (BS h.f);obtain⟨q1,q2⟩:=h.quot k z1;exact⟨k,q1,q2,z1,z2⟩
theorem ZV(h:BI g):∃ V,Af V∧pd g=cv V (yc g)∧DU (y0 g) V:=by
 obtain⟨k,z1,z2,d1,d2,U,V,a,b,e⟩:=h.gcd (EM h.z) (BS h.f);obtain⟨q1,q2⟩:=h.quot k z1;obtain⟨zQ,fQ,eQ⟩:=PP k.f k.n z2;refine⟨pq (pd g) (yc g),fQ,eQ,U,V,a,b,?_⟩;refine UJ k.f k.n ((a.cv q1.f).pad (b.cv fQ)) Dj ?_;rw[Kh];show cv (yc g) (pad (cv U (y0 g)) (cv V (pq (pd g) (yc g))))=yc g
 conv=>rhs;unfold yc;rw[←e]
 rw[Fs];congr 1
 ·rw[Bl,Av];congr 1;exact q2.symm
 ·rw[Bl,Av];congr 1;exact eQ.symm
theorem dI(h:BI g):Dv (yc g) (cv (y0 g) (pd (yc g))):=by
 obtain⟨k,q1,q2,z1,z2⟩:=FX h;have h1:=M5 z2;rw[q2,Lf,←q2]at h1;have h2:Dv (yc g) (psb (pad (cv (pd (y0 g)) (yc g)) (cv (y0 g) (pd (yc g)))) (cv (pd (y0 g)) (yc g))):=h1.psb ((Dv.refl _).mul (BS q1.f));have e:psb (pad (cv (pd (y0 g)) (yc g)) (cv (y0 g) (pd (yc g)))) (cv (pd (y0 g)) (yc g))=cv (y0 g) (pd (yc g)):=by
  funext n;simp only[psb,pad];grind
 rw[e]at h2;exact h2
theorem ZC(h:BI g):∃ N,Dv (yc g) (pw (y0 g) N):=by
 obtain⟨k,q1,q2,z1,z2⟩:=FX h;obtain⟨P,R,N,a,b,c,d,e⟩:=Uq q1 _ k (Nat.le_refl _);have h1:=dI h;have hP:Dv P (cv (y0 g) (cv (pd P) R)):=by
  have h2:Dv P (cv (y0 g) (pd (yc g))):=Dv.trans ⟨R,b.f,by rw[Bl];exact c⟩ h1;rw[c,Lf,Fs]at h2;have h3:Dv P (cv (y0 g) (cv P (pd R))):=by
   rw[Bl P,←Av];exact(Dv.refl P).mul (q1.f.cv (BS b.f))
  have h4:=h2.psb h3;have e4:psb (pad (cv (y0 g) (cv (pd P) R)) (cv (y0 g) (cv P (pd R)))) (cv (y0 g) (cv P (pd R)))=cv (y0 g) (cv (pd P) R):=by
   funext n;simp only[psb,pad];grind
  rw[e4]at h4;exact h4
 have h5:=d.euclid ((BS a.f).cv b.f) hP;have h6:DU P R:=((DU.pw a.f q1.f d N).symm.dv e).symm;rw[Bl]at h5;have h7:=h6.euclid (BS a.f) h5;have h8:=a.one (by have:=cK a.f a.n h7;omega);refine⟨N,?_⟩;rw[c,h8,CR];exact e
theorem Zw(E:Nat→Rat)(fE:Af E):∀ k:Nat,cv E (pd (pw E k))=psc ((k:Nat):Rat) (cv (pw E k) (pd E))
 | 0=>by
  have e:pd (pw E 0)=pz:=by
   funext i;show((i+1:Nat):Rat)*pone (i+1)=0
   show((i+1:Nat):Rat)*0=0;exact Rat.mul_zero _
  rw[e,La]
  funext i;simp only[psc,pz];grind
 | k+1=>by
  show cv E (pd (cv (pw E k) E))=psc _ (cv (cv (pw E k) E) (pd E));rw[Lf,Fs];have e1:cv E (cv (pd (pw E k)) E)=psc ((k:Nat):Rat) (cv (cv (pw E k) E) (pd E)):=by
   rw[←Av,Zw E fE k,CP,Av,Av,Bl (pd E) E]
  have e2:cv E (cv (pw E k) (pd E))=cv (cv (pw E k) E) (pd E):=by rw[←Av,Bl E]
  rw[e1,e2]
  funext i;simp only[pad,psc]
  have:(((k+1:Nat)):Rat)=(k:Rat)+1:=by push_cast;rfl
  rw[this];grind
theorem Xj{E C:Nat→Rat}(fE:Af E){k:Nat}(h:Dv (pw E k) C):Dv (pw E k) (cv E (pd C)):=by
 obtain⟨H,fH,rfl⟩:=h;rw[Lf,Fs];refine Dv.pad ?_ ?_
 ·rw[←Av]
  exact(Dv.refl _).mul (fE.cv (BS fH))
 ·rw[Bl H,←Av,Zw E fE,CP]
  refine Dv.psc _ ?_;rw[Av,Bl];exact(Dv.refl _).mul ((BS fE).cv fH)
theorem Yb(h:BI g){E:Nat→Rat}(hE:BI E)(hd:Dv (cv E E) (y0 g)):pl E=1:=by
 obtain⟨k,q1,q2,z1,z2⟩:=FX h;obtain⟨V,fV,eV,cV⟩:=ZV h;have hE0:Dv E (y0 g):=Dv.trans ⟨E,hE.f,rfl⟩ hd;have cE:DU E V:=cV.dv hE0;have hE1:Dv E (pd (y0 g)):=by
  obtain⟨U,fU,e⟩:=hd;rw[e,Lf];refine Dv.pad ?_ ?_
  ·rw[←Av];exact(Dv.refl E).mul ((BS fU).cv hE.f)
  ·rw[Lf,Fs]
   exact((Dv.refl E).mul (BS hE.f)).mul fU |>.pad ((by rw[Bl E];exact(Dv.refl E).mul (BS hE.f):Dv E (cv E (pd E))).mul fU)
 have key:∀ n,Dv (pw E n) (yc g):=by
  intro n;induction n with
  | zero=>exact⟨yc g,k.f,(Kh _).symm⟩
  | succ n ih =>
   have h1:Dv (pw E (n+1)) (cv V (yc g)):=by
    rw[←eV,q2,Lf];refine Dv.pad ?_ ?_
    ·obtain⟨X,fX,eX⟩:=hE1
     obtain⟨Y,fY,eY⟩:=ih;refine⟨cv X Y,fX.cv fY,?_⟩;show cv (pd (y0 g)) (yc g)=cv (cv X Y) (cv (pw E n) E);rw[eX]
     conv=>lhs;rw[eY]
     rw[Av,Av X Y,←Av E Y,Bl E Y,Av Y E,Bl E (pw E n)]
    ·obtain⟨X,fX,eX⟩:=hd
     obtain⟨Y,fY,eY⟩:=Xj hE.f ih;refine⟨cv X Y,fX.cv fY,?_⟩;show cv (y0 g) (pd (yc g))=cv (cv X Y) (cv (pw E n) E);rw[eX,Av,Av,eY,Av X Y];congr 1;rw[←Av,Bl E Y,Av,Bl E (pw E n)]
   exact(DU.pw fV hE.f cE.symm (n+1)).symm.euclid k.f h1
 have h1:=Dv.le (Ro hE.f (pl (yc g))) k.f k.n (key (pl (yc g)));rw[Zn hE]at h1;have h2:=hE.pos;rcases Nat.lt_or_ge 1 (pl E)with h3 | h3
 ·have:pl (yc g)*1≤pl (yc g)*(pl E - 1):=Nat.mul_le_mul_left _ Aa
  omega
 ·omega
end
end Go.Hp
namespace Go.Hp
open Go.RowKit
def gW:World→Value→Value×Nat→Prop:=fun _ c u=>c = .agg #[u.1,.int .i64 (u.2:Nat)]∧∃ A n k,u.1 = .slice A n k
theorem AQ.updB{b:Nat}{G:List Nat}{w w':World}{v:Value}{F:Nat→Rat}(h:AQ b w v F)(U:Ch G w w')(hG:∀ g∈G,∀ i c,w.cell? ⟨g,i,none⟩≠some (.bool c)):AQ b w' v F:=by
 obtain⟨l,⟨A,c,h1,h2,h3,h4⟩,h5,rfl⟩:=h;refine⟨l,⟨A,c,h1,h2,h3,fun h0=>?_⟩,h5,rfl⟩;obtain⟨g,o,ha,hb,hc⟩:=h4 h0;have hg:g∉G:=fun hm=>by
  obtain⟨cs,q1,q2,q3⟩:=hc 0 h0;obtain⟨b,A1,n,c1,e⟩:=q3.cells;obtain rfl:=RN e;exact hG g hm _ b (q2 0 Aa)
 refine⟨g,o,ha,hb,fun j hj=>?_⟩;obtain⟨cs,q1,q2,q3⟩:=hc j hj;refine⟨cs,q1,fun i hi=>?_,q3.kd U.kd⟩;have e:cs[i]? = some (cs[i]'(Aa)):=Array.getElem?_eq_getElem Aa;rw[e];exact PK U hg ((q2 i hi).trans e)
structure SG(base:Nat)(t:TypeId)(w:World)(v:Value)(us:List (Value×Nat))(l:List ((Nat→Rat)×Nat)):Prop where
 out:BD 2 gW base t w v us
 len:us.length=l.length
 nb:Nt w v
 el:∀ i (h:i < us.length) (h':i < l.length),us[i].2=l[i].2∧AQ 0 w us[i].1 l[i].1
section
variable{base:Nat}{t:TypeId}{w w':World}{v:Value}{us:List (Value×Nat)}{l:List ((Nat→Rat)×Nat)}
theorem Nt.nil(w:World):Nt w (.slice none 0 0):=fun g hg=>by simp[blk,Value.ownBlock]at hg
theorem SG.nil(base:Nat)(t:TypeId)(w:World):SG base t w (.slice none 0 0) [] []:=⟨BD.nil _ _ _ _ _,rfl,Nt.nil w,fun i h=>by simp at h⟩
theorem Nt.ext{k:Nat}{α:Type}{rd:World→Value→α→Prop}{b:Nat}{m:List α}(h:Nt w v)(o:BD k rd b t w v m)(x:Ext w w'):Nt w' v:=fun g hg i c e=>by
 have:=(BD.blk_ge o g hg).2;rw[x.cells g i this]at e;exact h g hg i c e
theorem SG.ext(h:SG base t w v us l)(x:Ext w w'):SG base t w' v us l:=
 ⟨h.out.ext x fun _ _ q=>q,h.len,h.nb.ext h.out x,fun i a b=>⟨(h.el i a b).1,(h.el i a b).2.ext x⟩⟩
theorem SG.base_le{b:Nat}(h:SG base t w v us l)(hb:b≤base):SG b t w v us l:=by
 obtain⟨⟨ess,h1,h2,⟨h3,h4⟩,h5⟩,k2,k3,k4⟩:=h;refine⟨⟨ess,h1,h2,⟨h3,?_⟩,h5⟩,k2,k3,k4⟩;rcases h4 with h4 | ⟨g,cap,cur,a,c,d⟩
 ·exact .inl h4
 ·exact .inr ⟨g,cap,cur,a,Nat.le_trans hb c,d⟩
theorem SG.shape(h:SG base t w v us l):∃ A c,v = .slice A l.length c:=by
 obtain⟨A,c,e⟩:=h.out.len;exact⟨A,c,by rw[e,h.len]⟩
theorem SG.at_{A:Option Addr}{n c:Nat}(h:SG base t w (.slice A n c) us l){i:Nat}(hi:i < l.length) :
  ∃ g o E d,A=some ⟨g,o,none⟩∧w.cell? ⟨g,o+i*2,none⟩=some (.slice E (pl l[i].1) d)∧w.cell? ⟨g,o+i*2+1,none⟩=some (.int .i64 (l[i].2:Nat))∧AQ 0 w (.slice E (pl l[i].1) d) l[i].1:=by
 obtain⟨h0,h1,-,h2⟩:=h;have hi':i < us.length:=by omega
 obtain⟨A',c',e,-,-,hA⟩:=BD.row h0;have eA:A'=A:=by injection e with h1;exact h1.symm
 subst eA;obtain⟨g,o,ha,hb,hc⟩:=hA Aa;obtain⟨cs,q1,q2,q3,-⟩:=hc i hi';obtain⟨k1,k2⟩:=h2 i hi' hi;obtain⟨E,d,e2,-⟩:=AQ.shape k2;have e3:cs=#[us[i].1,.int .i64 (us[i].2:Nat)]:=by injection q3
 refine⟨g,o,E,d,ha,?_,?_,by rw[←e2];exact k2⟩
 ·have:=q2 0 Aa
  rw[e3,e2]at this;exact this
 ·have:=q2 1 Aa
  rw[e3,k1]at this;exact this
theorem SG.append{P:Program}{A:Option Addr}{n c:Nat}{F:Nat→Rat}(h:SG base t w v us l)(hu:AQ 0 w (.slice A n c) F)(e:Nat)
  (tt ty:TypeId) (i:TypeInfo) (z:Value) (bytes:Nat) (hT:P.underlying tt=some (.slice t)) (hi:P.info? t=some i) (hz:i.zero=some z) (hsize:i.size=2) (hby:i.bytes=bytes) (hzs:z.cells.size=2) (hzd:nodig z.cells=true) (hzB:∀ u∈z.cells.toList,QZ u=false)
  (h63:l.length+1≤maxLen) (hbytes:(l.length+1)*bytes≤140737488355328) (hbase:base≤w.heap.size) :
  ∃ v' w',(Builtin.append_ #[tt,tt] ty #[v,.slice (some ⟨w.heap.size,0,none⟩) 1 1]).run P (w.alloc (.cells #[.slice A n c,.int .i64 (e:Nat)] t)) = .ok v' w'∧SG base t w' v' (us ++ [(.slice A n c,e)]) (l ++ [(F,e)]) ∧
   Ch (blk v) (w.alloc (.cells #[.slice A n c,.int .i64 (e:Nat)] t)) w'∧Nt (w.alloc (.cells #[.slice A n c,.int .i64 (e:Nat)] t)) v:=by
 have hb:=Be.new w t #[.slice A n c,.int .i64 (e:Nat)] (by simp[Ag]);have x:=(Ext.refl w).alloc (.cells #[.slice A n c,.int .i64 (e:Nat)] t);have h':=h.ext x;have hu':=hu.ext x;have hl:=h.len;obtain⟨v',w',a,b,U,B⟩:=BD.append_blk (P:=P) (x:=((Value.slice A n c),e)) h'.out tt ty i z bytes hT hi hz hsize hby hzs hzd Ab ⟨w.heap.size,0,none⟩ 1 #[.slice A n c,.int .i64 (e:Nat)] rfl ⟨rfl,_,_,_,rfl⟩ (MI w t _) (by simp[Value.oneCell']) (by simp[nodig,Ag]) Aa (by rw[hl];exact hbytes) (Nat.le_trans hbase x.size) (fun _ _ _ _ q=>q) h'.nb (by simp[QZ]) hzB
 refine⟨v',w',a,⟨b,by simp[hl],B,fun j a1 a2=>?_⟩,U,h'.nb⟩;by_cases hj:j < us.length
 ·rw[List.getElem_append_left hj,List.getElem_append_left Aa]
  obtain⟨k1,k2⟩:=h'.el j hj Aa;exact⟨k1,k2.updB U h'.nb⟩
 ·rw[List.getElem_append_right Aa,List.getElem_append_right Aa]
  have e0:j - us.length=0:=by simp at a1;omega
  have e1:j - l.length=0:=by omega
  simp only[e0,e1,List.getElem_cons_zero];exact⟨trivial,hu'.updB U h'.nb⟩
end
def gX:World→Value→Value→Prop:=fun _ c u=>c = .agg #[u]∧∃ A n k,u = .slice A n k
structure Ib(base:Nat)(t:TypeId)(w:World)(v:Value)(us:List Value)(l:List (Nat→Rat)):Prop where
 out:BD 1 gX base t w v us
 len:us.length=l.length
 nb:Nt w v
 el:∀ i (h:i < us.length) (h':i < l.length),AQ 0 w us[i] l[i]
section
variable{base:Nat}{t:TypeId}{w w':World}{v:Value}{us:List Value}{l:List (Nat→Rat)}
theorem Ib.nil(base:Nat)(t:TypeId)(w:World):Ib base t w (.slice none 0 0) [] []:=⟨BD.nil _ _ _ _ _,rfl,Nt.nil w,fun i h=>by simp at h⟩
theorem Ib.ext(h:Ib base t w v us l)(x:Ext w w'):Ib base t w' v us l:=
 ⟨h.out.ext x fun _ _ q=>q,h.len,h.nb.ext h.out x,fun i a b=>(h.el i a b).ext x⟩
theorem Ib.base_le{b:Nat}(h:Ib base t w v us l)(hb:b≤base):Ib b t w v us l:=by
 obtain⟨⟨ess,h1,h2,⟨h3,h4⟩,h5⟩,k2,k3,k4⟩:=h;refine⟨⟨ess,h1,h2,⟨h3,?_⟩,h5⟩,k2,k3,k4⟩;rcases h4 with h4 | ⟨g,cap,cur,a,c,d⟩
 ·exact .inl h4
 ·exact .inr ⟨g,cap,cur,a,Nat.le_trans hb c,d⟩
theorem Ib.shape(h:Ib base t w v us l):∃ A c,v = .slice A l.length c:=by
 obtain⟨A,c,e⟩:=h.out.len;exact⟨A,c,by rw[e,h.len]⟩
theorem Ib.at_{A:Option Addr}{n c:Nat}(h:Ib base t w (.slice A n c) us l){i:Nat}(hi:i < l.length) :
  ∃ g o E d,A=some ⟨g,o,none⟩∧w.cell? ⟨g,o+i,none⟩=some (.slice E (pl l[i]) d)∧AQ 0 w (.slice E (pl l[i]) d) l[i]:=by
 obtain⟨h0,h1,-,h2⟩:=h;have hi':i < us.length:=by omega
 obtain⟨A',c',e,-,-,hA⟩:=BD.row h0;have eA:A'=A:=by injection e with h1;exact h1.symm
 subst eA;obtain⟨g,o,ha,hb,hc⟩:=hA Aa;obtain⟨cs,q1,q2,q3,-⟩:=hc i hi';have k2:=h2 i hi' hi;obtain⟨E,d,e2,-⟩:=AQ.shape k2;have e3:cs=#[us[i]]:=by injection q3
 refine⟨g,o,E,d,ha,?_,by rw[←e2];exact k2⟩;have:=q2 0 Aa;rw[e3,e2,Nat.mul_one]at this;exact this
theorem Ib.append{P:Program}{A:Option Addr}{n c:Nat}{F:Nat→Rat}(h:Ib base t w v us l)(hu:AQ 0 w (.slice A n c) F)
  (tt ty:TypeId) (i:TypeInfo) (z:Value) (bytes:Nat) (hT:P.underlying tt=some (.slice t)) (hi:P.info? t=some i) (hz:i.zero=some z) (hsize:i.size=1) (hby:i.bytes=bytes) (hzs:z.cells.size=1) (hzd:nodig z.cells=true) (hzB:∀ u∈z.cells.toList,QZ u=false)
  (h63:l.length+1≤maxLen) (hbytes:(l.length+1)*bytes≤140737488355328) (hbase:base≤w.heap.size) :
  ∃ v' w',(Builtin.append_ #[tt,tt] ty #[v,.slice (some ⟨w.heap.size,0,none⟩) 1 1]).run P (w.alloc (.cells #[.slice A n c] t)) = .ok v' w'∧Ib base t w' v' (us ++ [.slice A n c]) (l ++ [F]) ∧
   Ch (blk v) (w.alloc (.cells #[.slice A n c] t)) w'∧Nt (w.alloc (.cells #[.slice A n c] t)) v:=by
 have hb:=Be.new w t #[.slice A n c] (by simp[Ag]);have x:=(Ext.refl w).alloc (.cells #[.slice A n c] t);have h':=h.ext x;have hu':=hu.ext x;have hl:=h.len;obtain⟨v',w',a,b,U,B⟩:=BD.append_blk (P:=P) (x:=Value.slice A n c) h'.out tt ty i z bytes hT hi hz hsize hby hzs hzd Ab ⟨w.heap.size,0,none⟩ 1 #[.slice A n c] rfl ⟨rfl,_,_,_,rfl⟩ (MI w t _) (by simp[Value.oneCell']) (by simp[nodig,Ag]) Aa (by rw[hl];exact hbytes) (Nat.le_trans hbase x.size) (fun _ _ _ _ q=>q) h'.nb (by simp[QZ]) hzB
 refine⟨v',w',a,⟨b,by simp[hl],B,fun j a1 a2=>?_⟩,U,h'.nb⟩;by_cases hj:j < us.length
 ·rw[List.getElem_append_left hj,List.getElem_append_left Aa]
  exact(h'.el j hj Aa).updB U h'.nb
 ·rw[List.getElem_append_right Aa,List.getElem_append_right Aa]
  have e0:j - us.length=0:=by simp at a1;omega
  have e1:j - l.length=0:=by omega
  simp only[e0,e1,List.getElem_cons_zero];exact hu'.updB U h'.nb
end
end Go.Hp
namespace Go.Hp
theorem Cz.updN{α:Type}{k:Nat}{rd:World→Value→α→Prop}{base g o n c:Nat}{w w':World}{l:List α}{G:List Nat}(h:Cz k rd base w (.slice (some ⟨g,o,none⟩) n c) l)(U:Ch G w w')(hg:g∉G)(hr:∀ u x,rd w u x→rd w' u x):Cz k rd base w' (.slice (some ⟨g,o,none⟩) n c) l:=by
 obtain⟨A,c,h1,h2,h3,h4⟩:=h;refine⟨A,c,h1,h2,h3,fun h0=>?_⟩;obtain⟨g',o',ha,hb,hc⟩:=h4 h0;have e:A=some ⟨g,o,none⟩:=by injection h1 with h5;exact h5.symm
 rw[e]at ha;injection ha with ha;injection ha with ha1 ha2;subst ha1;refine⟨g,o',by rw[e,ha2],hb,fun j hj=>?_⟩;obtain⟨cs,q1,q2,q3⟩:=hc j hj;refine⟨cs,q1,fun i hi=>?_,hr _ _ q3⟩;rw[←q2 i hi];have hs:cs[i]? = some cs[i]:=Array.getElem?_eq_getElem Aa;have hcell:=(q2 i hi).trans hs;have hlt:=World.block_lt_of_cell? w _ hcell;have hblk:=U.1 g w.heap[g] hg (Array.getElem?_eq_getElem hlt);unfold World.cell?
 simp only[hblk,Array.getElem?_eq_getElem hlt]
def LW(G:List Nat)(w:World)(v:Value)(F:Nat→Rat):Prop:=AQ 0 w v F∧∃ g o c,v = .slice (some ⟨g,o,none⟩) (pl F) c∧c≤9223372036854775807∧g∉G
theorem LW.ext{G:List Nat}{w w':World}{v:Value}{F:Nat→Rat}(h:LW G w v F)(e:Ext w w'):LW G w' v F:=⟨h.1.ext e,h.2⟩
theorem LW.upd{L G:List Nat}{w w':World}{v:Value}{F:Nat→Rat}(h:LW G w v F)(U:Ch L w w')(hL:∀ g∈L,g∈G):LW G w' v F:=by
 obtain⟨⟨l,h1,h2,h3⟩,g,o,c,rfl,hc,hg⟩:=h;exact⟨⟨l,Cz.updN h1 U (fun hm=>hg (hL g hm)) fun _ _ q=>q.kd U.kd,h2,h3⟩,g,o,c,rfl,hc,hg⟩
theorem AQ.off{base:Nat}{G:List Nat}{w:World}{v:Value}{F:Nat→Rat}(h:AQ base w v F)(h0:0 < pl F)(hG:∀ g∈G,base≤g→g < w.heap.size→False):LW G w v F:=by
 have h':=h.base_le (Nat.zero_le _);obtain⟨A,c,l,rfl,k1,k2,hA,k3,k4,k5⟩:=h.form;obtain⟨g,o,b,A1,n,c1,rfl,hb,q0,q1,hq⟩:=hA.at_ (j:=0) Aa;exact⟨h',g,o,c,rfl,k2,fun hm=>hG g hm hb (World.block_lt_of_cell? w _ q0)⟩
theorem Jk.sizes{F0 G0 F G:Nat→Rat}{D S:Nat}{x y:Int}(h:Jk F0 G0 D S F G x y){M:Nat}(hM:M=(S+1)*2^D)(hB:8+8*((D+1)*((D+1)*M))≤1099511627776) :
  (∀ i,qsz (F i)≤M)∧(∀ i,qsz (G i)≤M)∧sz x.natAbs+2*(D*M)+2≤549755813888∧sz y.natAbs+D*(D*M)+2≤549755813888∧M+(pl F+1)*(M+1)+M≤549755813888∧1+D*(D*M)≤549755813888∧1+D*M≤549755813888∧M≤549755813888∧D*D≤549755813888∧D≤549755813888:=by
 have up:∀ a:Nat,a≤D→(S+1)*2^a≤M:=fun a ha=>by rw[hM];exact Nat.mul_le_mul_left _ (Nat.pow_le_pow_right Ab ha)
 have h1:=up (D - (pl F+pl G)) Aa;have hlen:=h.len;have sx:=h.sx;have sy:=h.sy;rw[←hM]at sx sy;have e1:(D - (pl F+pl G))*(D*M)≤D*(D*M):=Nat.mul_le_mul_right _ Aa;have e2:(D+1)*((D+1)*M)=D*(D*M)+2*(D*M)+M:=by rw[Nat.succ_mul,Nat.succ_mul,Nat.mul_add];omega
 have e3:(pl F+1)*(M+1)≤(D+1)*(M+1):=Nat.mul_le_mul_right _ Aa;have e4:(D+1)*(M+1)=D*M+M+D+1:=by rw[Nat.succ_mul,Nat.mul_succ];omega
 have hM1:1≤M:=by rw[hM];exact Nat.mul_pos Aa (Nat.pow_pos Ab)
 have e5:D*1≤D*M:=Nat.mul_le_mul_left _ hM1;have e6:D*D≤D*(D*M):=Nat.mul_le_mul_left _ (by rw[Nat.mul_one]at e5;exact e5);refine⟨fun i=>by have:=h.qF i;omega,fun i=>by have:=h.qG i;omega,?_,?_,?_,?_,?_,?_,?_,?_⟩<;>omega
theorem Jk.more{F0 G0 F G:Nat→Rat}{D S:Nat}{x y:Int}(h:Jk F0 G0 D S F G x y){M:Nat}(hM:M=(S+1)*2^D)(hB:8+8*((D+1)*((D+1)*M))≤1099511627776)(h1:1 < pl G)(hl:pl G≤pl F){R:Nat→Rat}(hR:R=CX F G (pl F+1 - pl G))(h0:R≠pz){b d k n:Nat}(hb:b=pl G - 1)(hd:d=pl F - 1 - (pl R - 1))(hk:k=(pl F+1 - pl G)*(pl G - 1)) :
  (∀ i,qsz (R i)≤M)∧sz (pcn R).natAbs≤M∧sz (ld G).num.natAbs≤M∧(1+b*M≤1099511627776∧b≤1099511627776)∧(1+d*M≤1099511627776∧d≤1099511627776)∧(1+k*M≤1099511627776∧k≤1099511627776)∧sz (Z6 n x*pcn R^b).natAbs≤1099511627776∧sz (pcn R^b).natAbs≤1099511627776∧sz ((ld G).num^d).natAbs≤1099511627776∧sz ((ld G).num^k).natAbs≤1099511627776∧sz (Z6 n x).natAbs≤1099511627776:=by
 obtain⟨s1,s2,s3,s4,s5,s6,s7,s8,s9,s10⟩:=h.sizes hM hB;obtain⟨-,-,r3⟩:=h.room hl hR;have hlen:=h.len;have up:∀ a:Nat,a≤D→(S+1)*2^a≤M:=fun a ha=>by rw[hM];exact Nat.mul_le_mul_left _ (Nat.pow_le_pow_right Ab ha)
 have hRq:∀ i,qsz (R i)≤M:=fun i=>by have a:=r3 i;have b:=up (D - (pl F+pl G)+(pl F+1 - pl G)) Aa;omega
 have p1:sz (pcn R).natAbs≤M:=by rw[EY];exact Gh hRq _
 have p2:sz (ld G).num.natAbs≤M:=Nat.le_trans (Fx _) (s2 (pl G - 1));have c1:b*M≤D*M:=Nat.mul_le_mul_right _ Aa;have c2:d*M≤D*M:=Nat.mul_le_mul_right _ Aa;have c3:k≤D*D:=by rw[hk];exact Nat.mul_le_mul Aa Aa
 have c4:k*M≤D*(D*M):=by rw[←Nat.mul_assoc];exact Nat.mul_le_mul_right _ c3
 have t1:=IP _ _ p1 b;have t2:=IP _ _ p2 d;have t3:=IP _ _ p2 k;have t4:=BU (Z6 n x).natAbs (pcn R^b).natAbs;rw[←Int.natAbs_mul]at t4;rw[LD]at t4;refine⟨hRq,p1,p2,⟨Aa,Aa⟩,⟨Aa,Aa⟩,⟨Aa,Aa⟩,Aa,Aa,Aa,Aa,by rw[LD];omega⟩
def Ra:Value→Nat
 | .slice _ n _=>n
 | _=>0
end Go.Hp
namespace Go.Proofs.YtmhgnigpmompmaaGreat
open Go.RowKit Go.Hp
theorem aC(v u:Value)(F G:Nat→Rat)(M:Nat)(w:World)(hv:AQ 0 w v F)(hu:AQ 0 w u G)(hs:∀ i,qsz (F i)≤M)(ht:∀ i,qsz (G i)≤M)(h0:G≠pz)(hn:pl F≤549755813888)(hm:pl G≤549755813888)(hst:M+(pl F+1)*(M+1)+M≤549755813888) :
  Calls Tryz.prog 95 #[v,u] w (Ad w (Zd w.heap.size (Gb F G (pl F+1 - pl G)) (CX F G (pl F+1 - pl G)))):=by
 obtain⟨l,h1,h2,-,rfl⟩:=hv.hz (fun i=>by have:=hs i;omega);obtain⟨m,k1,k2,-,rfl⟩:=hu.hz (fun i=>by have:=ht i;omega);exact aV v u l m M M w h1 k1 hs ht Aa Aa h0 (by rw[h2];omega)
theorem IA(v:Value)(F:Nat→Rat)(w:World)(hv:AQ 0 w v F)(hs:∀ i,qsz (F i)≤1099511627776)(hn:pl F≤1099511627776) :
  Calls Tryz.prog 85 #[v] w (Ad w fun r w'=>AQ w.heap.size w' r (pp F)):=by
 obtain⟨l,h1,h2,-,rfl⟩:=hv.hz hs;exact F7 v l w h1 Aa
theorem KZ(v u:Value)(F:Nat→Rat)(a:Int)(w:World)(hv:AQ 0 w v F)(hs:∀ i,qsz (F i)≤1099511627776)(hu:Bj w u a)(hn:pl F≤1099511627776) :
  Calls Tryz.prog 96 #[v,u] w (Ad w fun r w'=>AQ 0 w' r (psc (a:Rat) F)):=by
 obtain⟨l,h1,h2,-,rfl⟩:=hv.hz hs;exact Ad.imp (Xq v u l a w h1 hu Aa) fun _ _ h=>h.base_le (Nat.zero_le _)
end Go.Proofs.YtmhgnigpmompmaaGreat
namespace Go.Hp
end Go.Hp
namespace Go.Proofs.YtmhgnigpmompmaaGreat
open Go.RowKit Go.Hp
end Go.Proofs.YtmhgnigpmompmaaGreat
namespace Go.Hp
open Go.RowKit
theorem Gu.of{l:List Rat}(h:co l (l.length - 1)≠0):Gu l:=fun h0=>by rw[←DT];exact h
end Go.Hp
namespace Go.Proofs.YtmhgnigpmompmaaGreat
open Go.RowKit Go.Hp
end Go.Proofs.YtmhgnigpmompmaaGreat
namespace Go.Hp
open Go.RowKit
theorem JM(b o i:Nat):(⟨b,o,none⟩:Addr).add i=⟨b,o+i,none⟩:=by unfold Addr.add;split<;>simp_all
abbrev Raw:=Bool×List Nat×Bool×List Nat
def Lx(w:World)(v:Value)(x:Raw):Prop:=∃ A n c A' n' c',v = .agg #[.bool x.1,.slice A n c,.bool x.2.2.1,.slice A' n' c']∧Bu w (.slice A n c) x.2.1∧Bu w (.slice A' n' c') x.2.2.2
def JU(w:World)(v:Value)(l:List Raw):Prop:=Cz 4 Lx 0 w v l
theorem Lx.ext{w w':World}{v:Value}{x:Raw}(h:Lx w v x)(e:Ext w w'):Lx w' v x:=by
 obtain⟨A,n,c,A',n',c',h1,h2,h3⟩:=h;exact⟨A,n,c,A',n',c',h1,h2.ext e,h3.ext e⟩
theorem JU.ext{w w':World}{v:Value}{l:List Raw}(h:JU w v l)(e:Ext w w'):JU w' v l:=Cz.ext h e fun _ _ q=>q.ext e
def Tc(x:Raw):Prop:=x.2.1.length≤2∧x.2.2.2.length≤2
def Qp(x:Raw):Rat:=Rat.divInt (iv x.1 x.2.1) (iv x.2.2.1 x.2.2.2)
theorem R8(b:Bool)(ds:List Nat):(iv b ds).natAbs=nv ds:=by unfold iv;cases b<;>simp
theorem Ri{w:World}{v:Value}{ds:List Nat}(h:Bu w v ds):sz (nv ds)≤ds.length:=by
 obtain⟨_,_,_,_,_,hA⟩:=h;exact VR hA.1
theorem Lx.has{w:World}{v:Value}{x:Raw}(h:Lx w v x)(hs:Tc x):BQ w v (Qp x)∧qsz (Qp x)≤2:=by
 obtain⟨A,n,c,A',n',c',rfl,h2,h3⟩:=h;have s1:=Ri h2;have s2:=Ri h3;obtain⟨k1,k2⟩:=hs;have e1:=R8 x.1 x.2.1;have e2:=R8 x.2.2.1 x.2.2.2;exact⟨⟨_,A,n,c,_,A',n',c',_,_,rfl,⟨_,_,⟨_,rfl,h2⟩,rfl,Aa⟩,⟨_,_,⟨_,rfl,h3⟩,rfl,Aa⟩,by rw[e1];omega,by rw[e2];omega,rfl⟩,
  Dr (by rw[e1];omega) (by rw[e2];omega) Aa⟩
theorem JU.has{w:World}{v:Value}{l:List Raw}(h:JU w v l)(hs:∀ x∈l,Tc x):Kz 0 w v (l.map Qp):=by
 obtain⟨A,c,h1,h2,h3,h4⟩:=h;refine⟨A,c,by simpa using h1,by simpa using h2,h3,fun h0=>?_⟩;obtain⟨g,o,q1,q2,q3⟩:=h4 (by simpa using h0);refine⟨g,o,q1,q2,fun j hj=>?_⟩;have hj':j < l.length:=by simpa using hj
 obtain⟨cs,r1,r2,r3⟩:=q3 j hj';refine⟨cs,r1,r2,?_⟩;rw[List.getElem_map];exact(r3.has (hs _ (List.getElem_mem hj'))).1
theorem JU.len{w:World}{v:Value}{l:List Raw}(h:JU w v l):∃ A c,v = .slice A l.length c∧l.length≤c∧c≤9223372036854775807:=by
 obtain⟨A,c,h1,h2,h3,h4⟩:=h;exact⟨A,c,h1,h2,h3⟩
theorem JU.at_{w:World}{A:Option Addr}{n c:Nat}{l:List Raw}(h:JU w (.slice A n c) l){j:Nat}(hj:j < l.length) :
  ∃ g o A1 n c A1' n' c',A=some ⟨g,o,none⟩∧w.cell? ⟨g,o+j*4,none⟩=some (.bool l[j].1)∧w.cell? ⟨g,o+j*4+1,none⟩=some (.slice A1 n c)∧w.cell? ⟨g,o+j*4+2,none⟩=some (.bool l[j].2.2.1)∧w.cell? ⟨g,o+j*4+3,none⟩=some (.slice A1' n' c')∧n=l[j].2.1.length∧n'=l[j].2.2.2.length:=by
 obtain⟨A',c',e1,h2,h3,h4⟩:=h;have e5:A'=A:=by injection e1 with h1;exact h1.symm
 subst e5;obtain⟨g,o,ha,hb,hc⟩:=h4 Aa;obtain⟨cs,q1,q2,q3⟩:=hc j hj;obtain⟨A1,n1,c1,A2,n2,c2,e,d1,d2⟩:=q3;obtain rfl:=R4 e;obtain⟨_,_,f1,_⟩:=d1;obtain⟨_,_,f2,_⟩:=d2;exact⟨g,o,A1,n1,c1,A2,n2,c2,ha,q2 0 Aa,q2 1 Aa,q2 2 Aa,q2 3 Aa,by injection f1,by injection f2⟩
end Go.Hp
namespace Go.Proofs.YtmhgnigpmompmaaGreat
open Go.RowKit Go.Hp Go.Deep Go.ChangeShapes Go.ChangeAt
section
variable{H:Type}{enc:TypeId×Value→H}{w:World}{spare:Nat→Bool}{held:Bool}
theorem Uv{fuel:Nat}{cs:List Value}{x:DataW H×List MemPlace}(h:DataW.trod enc Tryz.prog w 0 spare held fuel 24 cs=some x):∃ A n c ds,cs=[.slice A n c]∧Bu w (.slice A n c) ds:=by
 rcases open_ints Tryz.underlying24 Tryz.underlying113 FE h with⟨rfl,_⟩ | ⟨a,n,c,zs,rfl,_,hl,hm,hz,_,hcell,hwz⟩
 ·exact⟨none,0,0,[],rfl,none,0,rfl,Nat.le_refl _,Aa,fun d hd=>by simp at hd,fun h=>by simp at h⟩
 ·have hzl:n≤zs.length:=by rw[hz];split<;>omega
  have hw:∀ z∈zs,0≤z∧z < 4294967296:=fun z hz=>by
   have:=hwz z hz;simp[Lit.wf]at this;have e1:IntKind.u32.min=0:=rfl;have e2:IntKind.u32.max=4294967295:=rfl;omega
  have hlen:((zs.take n).map Int.toNat).length=n:=by simp;omega
  refine⟨some a,n,c,(zs.take n).map Int.toNat,rfl,some a,c,by rw[hlen],by rw[hlen];exact hl,Gs hm,?_,fun _=>⟨a,rfl,fun j hj=>?_⟩⟩
  ·intro d hd
   obtain⟨z,hz1,rfl⟩:=List.mem_map.1 hd;have:=hw z (List.mem_of_mem_take hz1);omega
  ·rw[hlen]at hj
   have hjz:j < zs.length:=by omega
   rw[hcell j hjz,List.getElem_map,List.getElem_take];have:=hw zs[j] (List.getElem_mem hjz);rw[show zs.getD j 0=zs[j]from by rw[List.getD_eq_getElem?_getD,List.getElem?_eq_getElem hjz];rfl];congr 2;omega
set_option maxRecDepth 100000 in
theorem Vi{fuel:Nat}{cs:List Value}{x:DataW H×List MemPlace}(h:DataW.trod enc Tryz.prog w 0 spare held fuel 26 cs=some x):∃ b A n c ds,cs=[.bool b,.slice A n c]∧Bu w (.slice A n c) ds:=by
 obtain⟨y0,y1,n,_,hl,h0,h1⟩:=trod_struct2 Tryz.underlying26 h;rw[show Tryz.prog.cellsOf 26=2 from by kernel_rfl]at hl
 match cs,hl with
 | [c0,c1],_ =>
  rw[show Tryz.prog.cellsOf 4=1 from by kernel_rfl]at h0;rw[show Tryz.prog.cellsOf 24=1 from by kernel_rfl]at h1;obtain⟨b,e0,_⟩:=DataW.trod_bool Tryz.underlying4 h0;obtain⟨A,m,c,ds,e1,hd⟩:=Uv h1;simp at e0 e1;subst e0 e1;exact⟨b,A,m,c,ds,rfl,hd⟩
end
end Go.Proofs.YtmhgnigpmompmaaGreat
namespace Go.Hp
open Go.RowKit
end Go.Hp
namespace Go.Proofs.YtmhgnigpmompmaaGreat
open Go.RowKit Go.Hp
end Go.Proofs.YtmhgnigpmompmaaGreat
namespace Go.Hp
open Go.RowKit
theorem Lx.cells{w:World}{v:Value}{x:Raw}(h:Lx w v x):∃ b A n c b' A' n' c',v = .agg #[.bool b,.slice A n c,.bool b',.slice A' n' c']:=by
 obtain⟨A,n,c,A',n',c',e,_⟩:=h;exact⟨_,A,n,c,_,A',n',c',e⟩
end Go.Hp
namespace Go.Proofs.YtmhgnigpmompmaaGreat
open Go.RowKit Go.Hp
end Go.Proofs.YtmhgnigpmompmaaGreat
namespace Go.Hp
open Go.RowKit
def Qm(w:World)(v:Value)(p:Rat×Rat):Prop:=
 ∃ b1 A1 n1 c1 b2 A2 n2 c2 b3 A3 n3 c3 b4 A4 n4 c4,v = .agg #[.bool b1,.slice A1 n1 c1,.bool b2,.slice A2 n2 c2,.bool b3,.slice A3 n3 c3,.bool b4,.slice A4 n4 c4] ∧
  BQ w (.agg #[.bool b1,.slice A1 n1 c1,.bool b2,.slice A2 n2 c2]) p.1∧BQ w (.agg #[.bool b3,.slice A3 n3 c3,.bool b4,.slice A4 n4 c4]) p.2
theorem Qm.ext{w w':World}{v:Value}{p:Rat×Rat}(h:Qm w v p)(e:Ext w w'):Qm w' v p:=by
 obtain⟨b1,A1,n1,c1,b2,A2,n2,c2,b3,A3,n3,c3,b4,A4,n4,c4,h1,h2,h3⟩:=h;exact⟨b1,A1,n1,c1,b2,A2,n2,c2,b3,A3,n3,c3,b4,A4,n4,c4,h1,h2.ext e,h3.ext e⟩
def Ur(w:World)(v:Value)(l:List (Rat×Rat)):Prop:=Cz 8 Qm 0 w v l
def Xu(w:World)(A:Option Addr)(l:List (Rat×Rat)):Prop:=Dq 8 Qm 0 w A l
theorem Ur.ext{w w':World}{v:Value}{l:List (Rat×Rat)}(h:Ur w v l)(e:Ext w w'):Ur w' v l:=Cz.ext h e fun _ _ q=>q.ext e
theorem Xu.at_{w:World}{A:Option Addr}{l:List (Rat×Rat)}(h:Xu w A l){j:Nat}(hj:j < l.length) :
  ∃ g o b1 A1 n1 c1 b2 A2 n2 c2 b3 A3 n3 c3 b4 A4 n4 c4,A=some ⟨g,o,none⟩∧w.cell? ⟨g,o+j*8,none⟩=some (.bool b1)∧w.cell? ⟨g,o+j*8+1,none⟩=some (.slice A1 n1 c1)∧w.cell? ⟨g,o+j*8+2,none⟩=some (.bool b2)∧w.cell? ⟨g,o+j*8+3,none⟩=some (.slice A2 n2 c2) ∧
   w.cell? ⟨g,o+j*8+4,none⟩=some (.bool b3)∧w.cell? ⟨g,o+j*8+5,none⟩=some (.slice A3 n3 c3)∧w.cell? ⟨g,o+j*8+6,none⟩=some (.bool b4)∧w.cell? ⟨g,o+j*8+7,none⟩=some (.slice A4 n4 c4) ∧
   BQ w (.agg #[.bool b1,.slice A1 n1 c1,.bool b2,.slice A2 n2 c2]) l[j].1∧BQ w (.agg #[.bool b3,.slice A3 n3 c3,.bool b4,.slice A4 n4 c4]) l[j].2:=by
 obtain⟨g,o,ha,hb,hc⟩:=h Aa;obtain⟨cs,q1,q2,q3⟩:=hc j hj;obtain⟨b1,A1,n1,c1,b2,A2,n2,c2,b3,A3,n3,c3,b4,A4,n4,c4,e,h1,h2⟩:=q3;obtain rfl:cs=#[.bool b1,.slice A1 n1 c1,.bool b2,.slice A2 n2 c2,.bool b3,.slice A3 n3 c3,.bool b4,.slice A4 n4 c4]:=by injection e
 exact⟨g,o,b1,A1,n1,c1,b2,A2,n2,c2,b3,A3,n3,c3,b4,A4,n4,c4,ha,q2 0 Aa,q2 1 Aa,q2 2 Aa,q2 3 Aa,q2 4 Aa,q2 5 Aa,q2 6 Aa,q2 7 Aa,h1,h2⟩
theorem Ur.len{w:World}{v:Value}{l:List (Rat×Rat)}(h:Ur w v l):∃ A c,v = .slice A l.length c∧l.length≤c∧c≤9223372036854775807∧Xu w A l:=h
def px(l:List (Rat×Rat))(i:Nat):Rat:=(l.getD i (0,0)).1
def py(l:List (Rat×Rat))(i:Nat):Rat:=(l.getD i (0,0)).2
theorem eF{l:List (Rat×Rat)}{i:Nat}(h:i < l.length):px l i=l[i].1:=by unfold px;rw[List.getD_eq_getElem?_getD,List.getElem?_eq_getElem h];rfl
theorem eU{l:List (Rat×Rat)}{i:Nat}(h:i < l.length):py l i=l[i].2:=by unfold py;rw[List.getD_eq_getElem?_getD,List.getElem?_eq_getElem h];rfl
theorem L6.step{X:Nat→Rat}{n:Nat}(h:L6 X n)(k:∀ j,j < n→X n≠X j):L6 X (n+1):=fun i j hi hj=>by
 rcases Nat.lt_or_ge i n with l | l
 ·exact h i j l hj
 ·obtain rfl:i=n:=by omega
  exact k j hj
abbrev Jp:=Bool×List Nat
def OB(w:World)(v:Value)(x:Jp):Prop:=Pi w v x.1 x.2
theorem OB.ext{w w':World}{v:Value}{x:Jp}(h:OB w v x)(e:Ext w w'):OB w' v x:=by
 obtain⟨u,h1,h2⟩:=h;exact⟨u,h1,h2.ext e⟩
def E8(w:World)(v:Value)(l:List Jp):Prop:=Cz 2 OB 0 w v l
theorem E8.ext{w w':World}{v:Value}{l:List Jp}(h:E8 w v l)(e:Ext w w'):E8 w' v l:=Cz.ext h e fun _ _ q=>q.ext e
abbrev Kk:=Raw×Raw
def Qs(w:World)(v:Value)(x:Kk):Prop:=
 ∃ b1 A1 n1 c1 b2 A2 n2 c2 b3 A3 n3 c3 b4 A4 n4 c4,v = .agg #[.bool b1,.slice A1 n1 c1,.bool b2,.slice A2 n2 c2,.bool b3,.slice A3 n3 c3,.bool b4,.slice A4 n4 c4] ∧
  Lx w (.agg #[.bool b1,.slice A1 n1 c1,.bool b2,.slice A2 n2 c2]) x.1∧Lx w (.agg #[.bool b3,.slice A3 n3 c3,.bool b4,.slice A4 n4 c4]) x.2
theorem Qs.ext{w w':World}{v:Value}{x:Kk}(h:Qs w v x)(e:Ext w w'):Qs w' v x:=by
 obtain⟨b1,A1,n1,c1,b2,A2,n2,c2,b3,A3,n3,c3,b4,A4,n4,c4,h1,h2,h3⟩:=h;exact⟨b1,A1,n1,c1,b2,A2,n2,c2,b3,A3,n3,c3,b4,A4,n4,c4,h1,h2.ext e,h3.ext e⟩
def Kj(w:World)(v:Value)(l:List Kk):Prop:=Cz 8 Qs 0 w v l
def PG(w:World)(A:Option Addr)(l:List Kk):Prop:=Dq 8 Qs 0 w A l
theorem Kj.ext{w w':World}{v:Value}{l:List Kk}(h:Kj w v l)(e:Ext w w'):Kj w' v l:=Cz.ext h e fun _ _ q=>q.ext e
theorem PG.at_{w:World}{A:Option Addr}{l:List Kk}(h:PG w A l){j:Nat}(hj:j < l.length) :
  ∃ g o b1 A1 n1 c1 b2 A2 n2 c2 b3 A3 n3 c3 b4 A4 n4 c4,A=some ⟨g,o,none⟩∧w.cell? ⟨g,o+j*8,none⟩=some (.bool b1)∧w.cell? ⟨g,o+j*8+1,none⟩=some (.slice A1 n1 c1)∧w.cell? ⟨g,o+j*8+2,none⟩=some (.bool b2)∧w.cell? ⟨g,o+j*8+3,none⟩=some (.slice A2 n2 c2) ∧
   w.cell? ⟨g,o+j*8+4,none⟩=some (.bool b3)∧w.cell? ⟨g,o+j*8+5,none⟩=some (.slice A3 n3 c3)∧w.cell? ⟨g,o+j*8+6,none⟩=some (.bool b4)∧w.cell? ⟨g,o+j*8+7,none⟩=some (.slice A4 n4 c4) ∧
   Lx w (.agg #[.bool b1,.slice A1 n1 c1,.bool b2,.slice A2 n2 c2]) l[j].1∧Lx w (.agg #[.bool b3,.slice A3 n3 c3,.bool b4,.slice A4 n4 c4]) l[j].2:=by
 obtain⟨g,o,ha,hb,hc⟩:=h Aa;obtain⟨cs,q1,q2,q3⟩:=hc j hj;obtain⟨b1,A1,n1,c1,b2,A2,n2,c2,b3,A3,n3,c3,b4,A4,n4,c4,e,h1,h2⟩:=q3;obtain rfl:cs=#[.bool b1,.slice A1 n1 c1,.bool b2,.slice A2 n2 c2,.bool b3,.slice A3 n3 c3,.bool b4,.slice A4 n4 c4]:=by injection e
 exact⟨g,o,b1,A1,n1,c1,b2,A2,n2,c2,b3,A3,n3,c3,b4,A4,n4,c4,ha,q2 0 Aa,q2 1 Aa,q2 2 Aa,q2 3 Aa,q2 4 Aa,q2 5 Aa,q2 6 Aa,q2 7 Aa,h1,h2⟩
def bN(x:Kk):Prop:=Tc x.1∧Tc x.2
def ZH(x:Kk):Rat×Rat:=(Qp x.1,Qp x.2)
theorem Kj.has{w:World}{v:Value}{l:List Kk}(h:Kj w v l)(hs:∀ x∈l,bN x):Ur w v (l.map ZH)∧(∀ i,i < l.length→qsz (px (l.map ZH) i)≤2∧qsz (py (l.map ZH) i)≤2):=by
 obtain⟨A,c,h1,h2,h3,h4⟩:=h;refine⟨⟨A,c,by simpa using h1,by simpa using h2,h3,fun h0=>?_⟩,fun i hi=>?_⟩
 ·obtain⟨g,o,q1,q2,q3⟩:=h4 (by simpa using h0)
  refine⟨g,o,q1,q2,fun j hj=>?_⟩;have hj':j < l.length:=by simpa using hj
  obtain⟨cs,r1,r2,b1,A1,n1,c1,b2,A2,n2,c2,b3,A3,n3,c3,b4,A4,n4,c4,e,k1,k2⟩:=q3 j hj';refine⟨cs,r1,r2,?_⟩;rw[List.getElem_map];have hsm:=hs _ (List.getElem_mem hj');exact⟨b1,A1,n1,c1,b2,A2,n2,c2,b3,A3,n3,c3,b4,A4,n4,c4,e,(k1.has hsm.1).1,(k2.has hsm.2).1⟩
 ·obtain⟨g,o,q1,q2,q3⟩:=h4 Aa
  obtain⟨cs,r1,r2,b1,A1,n1,c1,b2,A2,n2,c2,b3,A3,n3,c3,b4,A4,n4,c4,e,k1,k2⟩:=q3 i hi;have hsm:=hs _ (List.getElem_mem hi);rw[eF (by simpa using hi),eU (by simpa using hi),List.getElem_map];exact⟨(k1.has hsm.1).2,(k2.has hsm.2).2⟩
end Go.Hp
namespace Go.Proofs.YtmhgnigpmompmaaGreat
open Go.RowKit Go.Hp Go.Deep Go.ChangeShapes Go.ChangeAt
section
variable{H:Type}{enc:TypeId×Value→H}{w:World}{spare:Nat→Bool}{held:Bool}
theorem Ul{α:Type}{k E:Nat}(hk:0 < k){rd:World→Value→α→Prop}(hsz:Tryz.prog.cellsOf E=k)
  (hop:∀ {fuel:Nat} {cs:List Value} {x:DataW H×List MemPlace},DataW.trod enc Tryz.prog w 0 spare held fuel E cs=some x→∃ r:α,∃ cs':Array Value,cs=cs'.toList∧cs'.size=k∧rd w (.agg cs') r)
  {T fuel:Nat} {v:Value} {x:DataW H×List MemPlace} (hT:Tryz.prog.underlying T=some (.slice E)) (h:DataW.trod enc Tryz.prog w 0 spare held fuel T v.cells.toList=some x) (hv:∃ a n c,v = .slice a n c):∃ l:List α,Cz k rd 0 w v l:=by
 obtain⟨a0,n0,c0,rfl⟩:=hv;rcases open_slice hT h with⟨hcs,_⟩ | ⟨a,n,c,m,k',D,Pl,hcs,_,hl,hm,hmm,_,hel⟩
 ·simp[Value.cells]at hcs
  obtain⟨rfl,rfl,rfl⟩:=hcs;exact⟨[],Cz.nil k rd 0 w⟩
 ·simp[Value.cells]at hcs
  obtain⟨rfl,rfl,rfl⟩:=hcs;have hnm:n0≤m:=by rw[hmm];split<;>omega
  rw[hsz]at hel;have key:∀ i,i < n0→∃ r:α,∃ cs:Array Value,cs.size=k∧(∀ j,j < k→w.cell? ((a.add (i*k)).add j)=cs[j]?)∧rd w (.agg cs) r:=fun i hi=>by
   obtain⟨cs',h1,h2⟩:=hel i Aa;obtain⟨r,cs,rfl,h3,h4⟩:=hop h2;obtain⟨_,h5,h6⟩:=World.cells?_some h1;exact⟨r,cs,h3,fun j hj=>by rw[h6 j hj];simp,h4⟩
  have hc:∀ n',n'≤n0→∃ l:List α,l.length=n'∧∀ i (h:i < l.length),∃ cs:Array Value,cs.size=k∧(∀ j,j < k→w.cell? ((a.add (i*k)).add j)=cs[j]?)∧rd w (.agg cs) l[i]:=by
   intro n';induction n' with
   | zero=>intro _;exact⟨[],rfl,fun i h=>by simp at h⟩
   | succ n' ih =>
    intro hn;obtain⟨l,hl1,hl2⟩:=ih Aa;obtain⟨r,cs,k1,k2,k3⟩:=key n' Aa;refine⟨l ++ [r],by simp[hl1],fun i hi=>?_⟩;rcases Nat.lt_or_ge i l.length with h' | h'
    ·rw[List.getElem_append_left h'];exact hl2 i h'
    ·have e:i=n':=by simp at hi;omega
     subst e;refine⟨cs,k1,k2,?_⟩;rw[List.getElem_append_right h'];simpa[hl1] using k3
  obtain⟨l,hl1,hl2⟩:=hc n0 (Nat.le_refl _);refine⟨l,some a,c0,by rw[hl1],Aa,Gs hm,fun h0=>?_⟩;obtain⟨b,off,spot⟩:=a;obtain⟨cs,k1,k2,k3⟩:=hl2 0 h0;have hs:spot=none:=by
   have:=k2 0 hk;rw[Array.getElem?_eq_getElem Aa]at this;simpa[Addr.add] using World.cell?_spot this
  subst hs;refine⟨b,off,rfl,Nat.zero_le _,fun j hj=>?_⟩;obtain⟨cs,k1,k2,k3⟩:=hl2 j hj;refine⟨cs,k1,fun i hi=>?_,k3⟩;rw[←k2 i hi,JM,JM]
set_option maxRecDepth 100000 in
theorem YC{fuel:Nat}{cs:List Value}{x:DataW H×List MemPlace}(h:DataW.trod enc Tryz.prog w 0 spare held fuel 26 cs=some x):∃ r:Jp,∃ cs':Array Value,cs=cs'.toList∧cs'.size=2∧OB w (.agg cs') r:=by
 obtain⟨b,A,n,c,ds,rfl,hd⟩:=Vi h;exact⟨(b,ds),#[.bool b,.slice A n c],rfl,rfl,_,rfl,hd⟩
theorem SQ{T fuel:Nat}{v:Value}{x:DataW H×List MemPlace}(hT:Tryz.prog.underlying T=some (.slice 26))(h:DataW.trod enc Tryz.prog w 0 spare held fuel T v.cells.toList=some x)(hv:∃ a n c,v = .slice a n c):∃ l:List Jp,E8 w v l:=
 Ul Ab FE (fun h=>YC h) hT h hv
end
end Go.Proofs.YtmhgnigpmompmaaGreat
namespace Go.Hp
open Go.RowKit
def YR(x:Jp):Int:=iv x.1 x.2
theorem OB.has{w:World}{v:Value}{x:Jp}(h:OB w v x)(hs:x.2.length≤1099511627776):Bj w v (YR x)∧sz (YR x).natAbs≤x.2.length:=by
 have h':=h;obtain⟨s,rfl,hd⟩:=h';refine⟨⟨x.1,x.2,h,rfl,hs⟩,?_⟩;have:=Ri hd;unfold YR;rw[R8];exact this
theorem E8.len{w:World}{v:Value}{l:List Jp}(h:E8 w v l):∃ A c,v = .slice A l.length c∧l.length≤c∧c≤9223372036854775807:=by
 obtain⟨A,c,h1,h2,h3,h4⟩:=h;exact⟨A,c,h1,h2,h3⟩
theorem E8.at_{w:World}{A:Option Addr}{n c:Nat}{l:List Jp}(h:E8 w (.slice A n c) l){j:Nat}(hj:j < l.length) :
  ∃ g o A1 c,A=some ⟨g,o,none⟩∧w.cell? ⟨g,o+j*2,none⟩=some (.bool l[j].1)∧w.cell? ⟨g,o+j*2+1,none⟩=some (.slice A1 l[j].2.length c)∧OB w (.agg #[.bool l[j].1,.slice A1 l[j].2.length c]) l[j]:=by
 obtain⟨A',c',e1,h2,h3,h4⟩:=h;have e5:A'=A:=by injection e1 with h1;exact h1.symm
 subst e5;obtain⟨g,o,q1,q2,q3⟩:=h4 Aa;obtain⟨cs,r1,r2,r3⟩:=q3 j hj;have hr:=r3;obtain⟨s,e,A1,c1,e2,k⟩:=r3;subst e2;have e:=RN e;subst e;exact⟨g,o,A1,c1,q1,r2 0 Aa,r2 1 Aa,hr⟩
theorem E8.has{w:World}{v:Value}{l:List Jp}{d:Nat}(h:E8 w v l)(hs:∀ x∈l,x.2.length≤d)(hd:d≤1099511627776:=by omega):EI 0 w v (l.map YR)∧∀ x∈l.map YR,sz x.natAbs≤d:=by
 obtain⟨A,c,h1,h2,h3,h4⟩:=h;have key:∀ j (hj:j < l.length),∃ cs:Array Value,cs.size=2∧OB w (.agg cs) l[j]:=fun j hj=>by
  obtain⟨g,o,q1,q2,q3⟩:=h4 Aa;obtain⟨cs,r1,r2,r3⟩:=q3 j hj;exact⟨cs,r1,r3⟩
 refine⟨⟨A,c,by simpa using h1,by simpa using h2,h3,fun h0=>?_⟩,fun x hx=>?_⟩
 ·obtain⟨g,o,q1,q2,q3⟩:=h4 (by simpa using h0)
  refine⟨g,o,q1,q2,fun j hj=>?_⟩;have hj':j < l.length:=by simpa using hj
  obtain⟨cs,r1,r2,r3⟩:=q3 j hj';refine⟨cs,r1,r2,?_⟩;rw[List.getElem_map];exact(r3.has (Nat.le_trans (hs _ (List.getElem_mem hj')) hd)).1
 ·obtain⟨y,hy,rfl⟩:=List.mem_map.1 hx
  obtain⟨j,hj,rfl⟩:=List.getElem_of_mem hy;obtain⟨cs,-,r3⟩:=key j hj;have:=hs _ (List.getElem_mem hj);exact Nat.le_trans (r3.has Aa).2 this
theorem E8.qsz{w:World}{v:Value}{l:List Jp}{d:Nat}(h:E8 w v l)(hs:∀ x∈l,x.2.length≤d)(hd:d≤1099511627776:=by omega)(h1:1≤d:=by omega)(i:Nat):qsz (cz (l.map YR) i)≤d:=P5 (h.has hs hd).2 h1 i
theorem FD(k:Nat)(F:Nat→Rat):Df (k+1) F=Df k F ++ [(F k).num]:=by simp[Df,List.range_succ]
theorem Gw{n:Nat}(h:n≤1099511627776):n+1≤maxLen:=by simp only[maxLen];omega
theorem aJ(l:List Int):Df l.length (cz l)=l:=by
 apply List.ext_getElem
 ·rw[AP]
 ·intro i h1 h2;rw[BX,Cr h2];rfl
end Go.Hp
namespace Go.Proofs.YtmhgnigpmompmaaGreat
open Go.RowKit Go.Hp
theorem NI(W:World)(base ty g:Nat)(v:Value)(l:List Int)(q:Int){b:Bool}{A:Option Addr}{n c:Nat}(h:D7 base 26 W v l)(hq:AC W (.agg #[.bool b,.slice A n c]) q)(hn:l.length≤1099511627776)(hb:base≤W.heap.size)(hg:g=W.heap.size) :
  ∃ v' w',(Builtin.append_ #[22,22] ty #[v,.slice (some ⟨g,0,none⟩) 1 1]).run Tryz.prog (W.alloc (.cells #[.bool b,.slice A n c] 26)) = .ok v' w'∧(D7 base 26 w' v' (l ++ [q])∧Ch (blk v) (W.alloc (.cells #[.bool b,.slice A n c] 26)) w'):=by
 subst hg;obtain⟨g,cs,e1,h1,h2,h3,h4⟩:=EO.mk hq (base:=W.heap.size) (Nat.le_refl _) 26;cases e1;obtain⟨i0,hi,hz0,hz1,hz2⟩:=info_parts IB;have ho:=AC.one h4;have hx:=(Ext.refl W).alloc (.cells #[.bool b,.slice A n c] 26);obtain⟨v',w',a,b,c⟩:=BD.append (P:=Tryz.prog) (h.ext hx) 22 ty i0 _ 32 Tryz.underlying22 hi hz0 hz1 hz2 rfl (by simp[nodig,Ag,Value.cells]) Ab ⟨W.heap.size,0,none⟩ 1 cs h3 h4 h2.news ho.1 ho.2.1 (Gw hn) Aa (Nat.le_trans hb hx.size) (fun _ _ _ k hq=>AC.kd hq k)
 exact⟨v',w',a,b,c⟩
set_option maxHeartbeats 1000000 in
theorem Gf(v:Value)(l:List Int)(w:World)(hv:EI 0 w v l)(hn:l.length≤1099511627776):Calls Tryz.prog 47 #[v] w (Ad w fun r w'=>AQ w.heap.size w' r (cz l)):=by
 have hqs:=hv.sz;obtain⟨A,c,rfl,hl,hc,hA⟩:=hv;have HA:Hid (I1 0 w A l):=Lib.hid hA;clear hA;have HQ:=Lib.hid hqs;clear hqs
 go_enter Tryz.func47,Tryz.ntmps47
 go_wp2
 go_loopw [3,4] (fun ov iv wr=>∃ (k:Nat),k≤l.length∧iv = .int .i64 k∧D7 w.heap.size 26 wr ov (Df k (cz l))∧Ext w wr) (fun _ iv _=>l.length - (intOf iv).toNat)
 case atStart=>exact⟨0,Nat.zero_le _,rfl,BD.nil _ _ _ _ _,Ext.refl _⟩
 case round =>
  obtain⟨k,hk,rfl,hown,hx⟩:=hrel;by_cases hkl:k < l.length
  ·obtain⟨g,o,b,A1,n,c1,rfl,_,q0,q1,hq⟩:=HA.out.at_ (j:=k) hkl
   replace q0:=hx.cell q0;replace q1:=hx.cell q1;have Hq:=Lib.hid (hq.kd hx.kd);clear hq
   go_wp2_with fail
   refine Calls.mono (Eu _ _ _ Hq.out) ?_;rintro e w2 ⟨r,rfl,hr,hx2⟩;obtain⟨b5,A5,n5,c5,rfl⟩:=hr.cells;have Hr:=Lib.hid hr;clear hr;replace hown:=hown.ext hx2;replace hx:=hx.trans hx2;have Hown:=Lib.hid hown;clear hown;have hsz:=hx.size;clear hx2 q0 q1 Hq
   go_wp2_with (at_builtin;refine AB rfl _ _ 22 rfl u3 (.slice (some ⟨w2.heap.size,0,none⟩) 1 1) rfl rfl (NI w2 w.heap.size _ _ _ _ _ Hown.out Hr.out (by first | (rw[AP];omega) | omega) hsz rfl) ?_)
   first | intro v' w5 hown U | rintro v' w5 ⟨hown,U⟩
   replace hx:=(Hown.out.ext ((Ext.refl w2).alloc _)).from_ U (hx.alloc _) (Nat.le_refl _);have Hown':=Lib.hid hown;clear hown U;go_wp2
   go_roundw
   case rel=>exact⟨k+1,Aa,by go_num,by rw[FD,Cr hkl];exact Hown'.out,hx⟩
   case measure=>simp[intOf]<;>omega
  ·obtain rfl:k=l.length:=by omega
   rw[aJ]at hown;obtain⟨A2,c2,rfl,h2,h3,h4⟩:=D7.row hown;have Hrow:Hid (Lu w.heap.size wr A2 l):=Lib.hid h4;clear h4 hown;have hx0:=hx;go_wp2;clear hx
   go_loopw [5] (fun nv wx=>∃ m:Nat,m≤l.length∧nv = .int .i64 m∧(∀ j,m≤j→(h:j < l.length)→l[j]=0)∧Ext wr wx) (fun nv _=>(intOf nv).toNat)
   case atStart=>exact⟨l.length,Nat.le_refl _,rfl,fun j h1 h2=>Aa,Ext.refl _⟩
   case round =>
    obtain⟨m,hm,rfl,hz,hx⟩:=hrel;have Hz:=Lib.hid hz;clear hz;by_cases h0:0 < m
    ·obtain⟨m,rfl⟩:∃ k,m=k+1:=⟨m - 1,Aa⟩
     have hml:m < l.length:=by omega
     have Hrow':Hid (Lu w.heap.size _ A2 l):=Lib.hid Hrow.out;obtain⟨g,o,b,A1,n,c1,rfl,hb,q0,q1,hq⟩:=Hrow'.out.at_ (j:=m) hml;replace q0:=hx.cell q0;replace q1:=hx.cell q1;have Hq:=Lib.hid ((hq.has (HQ.out _ (List.getElem_mem hml))).kd hx.kd);clear hq
     go_wp2_with fail
     refine Calls.mono (Jz _ l[m] _ Hq.out) ?_;rintro e w2 ⟨r,rfl,rfl,hx2⟩;by_cases hd0:l[m]'(Aa)=0
     ·have hb:(l[m].sign==0)=true:=by rw[hd0];rfl
      have Hd:=Lib.hid hd0;clear hd0;go_wp2
      go_roundw
      case rel=>exact⟨m,Aa,by go_num,fun j h1 h2=>by
       rcases Nat.eq_or_lt_of_le h1 with e | e
       ·subst e;exact Hd.out
       ·exact Hz.out j Aa h2,hx.trans hx2⟩
      case measure=>simp[intOf]<;>omega
     ·have hb:(l[m].sign==0)=false:=by
       have:l[m].sign≠0:=fun e=>hd0 (Int.sign_eq_zero_iff_zero.1 e);simpa using this
      have Hd:=Lib.hid hd0;clear hd0;go_wp2
      go_ret
      have hlen:=GH hm Hz.out (fun h _=>by simpa using Hd.out);have hR:=(Ll.trim (Hrow.out.ext (hx.trans hx2)) h2 h3)
      rw[hlen]at hR;exact Ad.mk (AQ.of_trim hR rfl) ((hx0.trans hx).trans hx2)
    ·obtain rfl:m=0:=by omega
     have hlen:=GH hm Hz.out (fun h hh=>Aa);have hR:=(Ll.trim (Hrow.out.ext hx) h2 h3)
     rw[hlen]at hR;have HR:=Lib.hid (And.intro hR hlen);clear hR hlen;go_wp2
     go_ret
     exact Ad.mk (AQ.of_trim HR.out.1 rfl) (hx0.trans hx)
theorem J5(v:Value)(l:List Int)(w:World)(hv:EI 0 w v l)(hn:l.length≤1099511627776):Calls Tryz.prog 15 #[v] w (Ad w fun r _=>r = .int .i64 ((pl (cz l):Int) - 1)):=by
 have HV:=Lib.hid hv;obtain⟨A,c,rfl⟩:=hv.len;clear hv;have hpl:pl (cz l)≤l.length:=BB (Cb l)
 go_enter Tryz.func15,Tryz.ntmps15
 go_wp2_with fail
 refine Calls.mono (Gf _ l _ HV.out hn) ?_;rintro e w1 ⟨r,rfl,hr,hx1⟩;obtain⟨A2,c2,rfl,-⟩:=hr.shape;clear hr;go_wp2
 go_ret
 exact Ad.mk rfl hx1
theorem fI(v:Value)(l:List Int)(k:Nat)(w:World)(hv:EI 0 w v l)(hk:k≤9223372036854775807):Calls Tryz.prog 131 #[v,.int .i64 (k:Nat)] w (Ad w fun r w'=>AC w' r (cz l k).num):=by
 obtain⟨A,c,rfl,hl,hc,hA⟩:=hv;by_cases hkl:k < l.length
 ·obtain⟨g,o,b,A1,n,c1,rfl,_,q0,q1,hq⟩:=I1.at_ hA (j:=k) hkl
  rw[Cr hkl];have Hq:=Lib.hid hq;clear hq hA;have hkc:(k:Int) < l.length:=by omega
  replace q0:=((Ext.refl w).alloc (.cells #[.bool false,.slice none 0 0] 26)).cell q0;replace q1:=((Ext.refl w).alloc (.cells #[.bool false,.slice none 0 0] 26)).cell q1
  go_enter Tryz.func131,Tryz.ntmps131
  go_wp2_with fail
  refine Calls.mono (Eu _ _ _ (Hq.out.kd ((Ext.refl w).alloc _).kd)) ?_;rintro e w1 ⟨r,rfl,hr,hx1⟩;clear q0 q1;obtain⟨b5,A5,n5,c5,rfl⟩:=hr.cells;have hc1:=hx1.cells;have hf1:=hx1.frozens;have Hfin:=Lib.hid (BZ hr hx1.a1 (AL.at_ hx1 (g:=w.heap.size+0) Ac (by simp[Ag])) Aa);clear hr;go_wp2;refine bodyPost_ret (v := .agg #[.bool b5,.slice A5 n5 c5]) (by simp[results,Tryz.results131,go_sem,hc1]) rfl ?_
  exact Hfin.out
 ·have hz:(cz l k).num=0:=by rw[Iz Aa];rfl
  have hkc:¬ (k:Int) < l.length:=by omega
  have Hz:=Lib.hid hz;clear hz hA;rw[Hz.out]
  go_enter Tryz.func131,Tryz.ntmps131
  go_wp2_with fail
  refine Calls.mono (Ls 0 _ Aa Aa) ?_;rintro e w1 ⟨r,rfl,hr,hx1⟩;obtain⟨b5,A5,n5,c5,rfl⟩:=hr.cells;have hc1:=hx1.cells;have hf1:=hx1.frozens;have Hfin:=Lib.hid (BZ hr hx1.a1 (AL.at_ hx1 (g:=w.heap.size+0) Ac (by simp[Ag])) Aa);clear hr;go_wp2;refine bodyPost_ret (v := .agg #[.bool b5,.slice A5 n5 c5]) (by simp[results,Tryz.results131,go_sem,hc1]) rfl ?_;exact Hfin.out
theorem YQ(v:Value)(l:List Int)(w:World)(hv:EI 0 w v l):Calls Tryz.prog 131 #[v,.int .i64 (-1)] w (Ad w fun r w'=>AC w' r 0):=by
 obtain⟨A,c,rfl,hl,hc,hA⟩:=hv;clear hA
 go_enter Tryz.func131,Tryz.ntmps131
 go_wp2_with fail
 refine Calls.mono (Ls 0 _ Aa Aa) ?_;rintro e w1 ⟨r,rfl,hr,hx1⟩;obtain⟨b5,A5,n5,c5,rfl⟩:=hr.cells;have hc1:=hx1.cells;have hf1:=hx1.frozens;have Hfin:=Lib.hid (BZ hr hx1.a1 (AL.at_ hx1 (g:=w.heap.size+0) Ac (by simp[Ag])) Aa);clear hr;go_wp2;refine bodyPost_ret (v := .agg #[.bool b5,.slice A5 n5 c5]) (by simp[results,Tryz.results131,go_sem,hc1]) rfl ?_;exact Hfin.out
theorem Ol(v:Value)(l:List Int)(w:World)(hv:EI 0 w v l)(hn:l.length≤1099511627776):Calls Tryz.prog 74 #[v] w (Ad w fun r w'=>AC w' r (ld (cz l)).num):=by
 have HV:=Lib.hid hv;obtain⟨A,c,rfl⟩:=hv.len;clear hv;have hpl:pl (cz l)≤l.length:=BB (Cb l);obtain⟨X,hX⟩:∃ X,X=(ld (cz l)).num:=⟨_,rfl⟩
 rw[←hX];have HX:=Lib.hid hX;clear hX
 go_enter Tryz.func74,Tryz.ntmps74
 go_wp2_with fail
 refine Calls.mono (J5 _ l _ (HV.out.ext ((Ext.refl w).alloc _)) hn) ?_;rintro e w1 ⟨r,rfl,rfl,hx⟩;by_cases h0:0 < pl (cz l)
 ·obtain⟨k,hk⟩:∃ k:Nat,k=pl (cz l) - 1:=⟨_,rfl⟩
  have e1:(pl (cz l):Int) - 1=(k:Nat):=by omega
  have hl:X=(cz l k).num:=by rw[HX.out];unfold ld;rw[hk]
  have HL:=Lib.hid hl;rw[e1];have hk9:k≤9223372036854775807:=by omega
  clear e1 hl hk
  go_wp2_with fail
  refine Calls.mono (fI _ l k _ (HV.out.ext hx.a1) hk9) ?_;rintro e w2 ⟨r,rfl,hr,hx2⟩;rw[←HL.out]at hr;have hx1:=hx.trans hx2;clear hx hx2;obtain⟨b5,A5,n5,c5,rfl⟩:=hr.cells;have hc1:=hx1.cells;have hf1:=hx1.frozens;have Hfin:=Lib.hid (BZ hr hx1.a1 (AL.at_ hx1 (g:=w.heap.size+0) Ac (by simp[Ag])) Aa);clear hr;go_wp2;refine bodyPost_ret (v := .agg #[.bool b5,.slice A5 n5 c5]) (by simp[results,Tryz.results74,go_sem,hc1]) rfl ?_
  exact Hfin.out
 ·have e1:(pl (cz l):Int) - 1 = -1:=by omega
  have hl:X=0:=by rw[HX.out];unfold ld;rw[show pl (cz l) - 1=0 from Aa,(BF (Af.cz l)).1 Aa];rfl
  have HL:=Lib.hid hl;rw[e1];clear e1 hl
  go_wp2_with fail
  refine Calls.mono (YQ _ l _ (HV.out.ext hx.a1)) ?_;rintro e w2 ⟨r,rfl,hr,hx2⟩;rw[←HL.out]at hr;have hx1:=hx.trans hx2;clear hx hx2;obtain⟨b5,A5,n5,c5,rfl⟩:=hr.cells;have hc1:=hx1.cells;have hf1:=hx1.frozens;have Hfin:=Lib.hid (BZ hr hx1.a1 (AL.at_ hx1 (g:=w.heap.size+0) Ac (by simp[Ag])) Aa);clear hr;go_wp2;refine bodyPost_ret (v := .agg #[.bool b5,.slice A5 n5 c5]) (by simp[results,Tryz.results74,go_sem,hc1]) rfl ?_
  exact Hfin.out
end Go.Proofs.YtmhgnigpmompmaaGreat
namespace Go.Hp
open Go.RowKit
theorem aT{F:Nat→Rat}{a:Int}(hz:ZI F)(ha:a≠0)(i:Nat)(hd:a∣(F i).num):psc (1 / (a:Rat)) F i=(((F i).num / a:Int):Rat):=by
 obtain⟨k,hk⟩:=hd;have ha':(a:Rat)≠0:=fun e=>ha (by exact_mod_cast e);rw[hk,Int.mul_ediv_cancel_left _ ha];show 1 / (a:Rat)*F i=_;rw[hz.num i,hk,Rat.intCast_mul];grind
theorem RV{base:Nat}{w:World}{v:Value}{n:Nat}{F:Nat→Rat}{e:TypeId}(h:D7 base e w v (Df n F))(hs:∀ i,qsz (F i)≤1099511627776):EI 0 w v (Df n F):=
 Ll.has h.row fun x hx=>by
  obtain⟨i,hi,rfl⟩:=List.getElem_of_mem hx;rw[BX];have:=hs i;unfold qsz at this;omega
end Go.Hp
namespace Go.Proofs.YtmhgnigpmompmaaGreat
open Go.RowKit Go.Hp
theorem IZ(W:World)(v x:Value)(base b ty:Nat)(l:List Int)(q:Int)(h:D7 base 26 W v l)(hx:EO W x b q 26)(hn:l.length≤1099511627776)(hb:base≤W.heap.size) :
  ∃ v' w',(Builtin.append_ #[22,22] ty #[v,x]).run Tryz.prog W = .ok v' w'∧(D7 base 26 w' v' (l ++ [q])∧Ch (blk v) W w'):=by
 obtain⟨g,cs,rfl,h1,h2,h3,h4⟩:=hx;obtain⟨i0,hi,hz0,hz1,hz2⟩:=info_parts IB;have ho:=AC.one h4;obtain⟨v',w',a,b,c⟩:=BD.append (P:=Tryz.prog) h 22 ty i0 _ 32 Tryz.underlying22 hi hz0 hz1 hz2 rfl (by simp[nodig,Ag,Value.cells]) Ab ⟨g,0,none⟩ 1 cs h3 h4 h2.news ho.1 ho.2.1 (Gw hn) Aa hb (fun _ _ _ k hq=>AC.kd hq k);exact⟨v',w',a,b,c⟩
set_option maxHeartbeats 1000000 in
theorem M9(v:Value)(l:List Int)(w:World)(hv:EI 0 w v l)(hs:∀ i,qsz (cz l i)≤549755813888)(hn:l.length≤1099511627776):Calls Tryz.prog 126 #[v] w (Ad w fun r w'=>AC w' r (cn (cz l):Nat)):=by
 obtain⟨A,c,rfl,hl,hc,hA⟩:=hv;have HA:Hid (I1 0 w A l):=Lib.hid hA;clear hA;have HS:=Lib.hid hs;clear hs;rw[Zz (Cb l)]
 go_enter Tryz.func126,Tryz.ntmps126
 go_wp2_with fail
 refine Calls.mono (Ls 0 _ Aa Aa) ?_;rintro e w1 ⟨r,rfl,hr,hx1⟩;obtain⟨b5,A5,n5,c5,rfl⟩:=hr.cells;have ea:=(Be.new w 26 #[.bool false,.slice none 0 0] (by simp[Ag])).ext hx1;obtain⟨W0,eW,eb,x0⟩:=Be.made w1 26 #[.bool b5,.slice A5 n5 c5] (by simp[Ag]);replace hr:=hr.kd x0.kd;replace ea:=ea.ext x0;have hs1:=hx1.size;have hx:=hx1.a1.trans x0;have hgb:w.heap.size < w1.heap.size:=by simp at hs1;omega
 go_wp2;rw[←eW];clear eW x0 hx1 hs1;generalize w1.heap.size=gb at *
 go_loopw [4] (fun iv wr=>∃ k:Nat,k≤l.length∧iv = .int .i64 k∧Be wr w.heap.size 26 #[.bool false,.slice none 0 0]∧Bh wr gb 26 (ct k (cz l):Nat)∧Ext w wr) (fun iv _=>l.length - (intOf iv).toNat)
 case atStart=>exact⟨0,Nat.zero_le _,rfl,ea,Bh.mk eb hr,hx⟩
 case round =>
  clear hx ea eb hr;obtain⟨k,hk,rfl,ea,⟨b,B,bn,bc,eb,hb⟩,hx⟩:=hrel;have Hb:=Lib.hid hb;clear hb;by_cases hkl:k < l.length
  ·obtain⟨g,o,b1,A1,n,c1,rfl,_,q0,q1,hq⟩:=HA.out.at_ (j:=k) hkl
   replace q0:=hx.cell q0;replace q1:=hx.cell q1;have Hq:=Lib.hid (hq.kd hx.kd);clear hq;have hsk:=Gh HS.out k;have hqk:=HS.out k;rw[Cr hkl,Ba]at hqk;have HK:=Lib.hid (And.intro hsk hqk);clear hsk hqk;obtain⟨r0,r1⟩:=eb.cells2;have e1:Int.gcd (ct k (cz l):Nat) l[k]=ct (k+1) (cz l):=by rw[FJ,Cr hkl];rfl
   have He:=Lib.hid e1;clear e1
   go_wp2_with fail
   refine Ae 6 [12,13,14,15,16,17] [[],[],[],[1,2],[1,2,3],[0,1,2,3,4],[0,1,2,3,4,5]] [3,0,4] [_,_,_] [(kv ?_),(kv ?_),(kv ?_),(kv ?_),(kv ?_),(fun γ=>γ 5)] (fun γ w'=>[True,True,True,True,True,AC w' (γ 5) (ct (k+1) (cz l):Nat)]) Bd Ah Ah Bb Ah Bc Bg ?hstep1 ?_
   case hstep1 =>
    iterate 6 refine⟨?_,?_⟩
    trivial
    iterate 5 focus
     intro γ w' he hf;clear hf;refine⟨by trivial,?_⟩;intro R hR;have hc:=he.cells;have cq0:=he.cell q0;have cq1:=he.cell q1;have cq2:=he.cell r0;have cq3:=he.cell r1;go_simp;(try go_ints);(try(rw[if_neg Aa]));(try(rw[if_pos Aa]));(try go_simp);(try go_ints)
     refine hR _ _ (Ext.refl _) ?_ trivial;rfl
    ·intro γ w' he hf;clear hf;refine⟨trivial,?_⟩;intro R hR
     go_simp;exact AX (He.out▸VF _ _ (ct k (cz l):Nat) l[k] w' ((Hb.out.kd he.kd).has (by have:=HK.out.1;simp;omega)) (Hq.out.kd he.kd) (by have:=HK.out.1;simp;omega) (by have:=HK.out.2;omega)) hR
   intro γ w2 hx2 hF;have p5:AC w2 (γ 5) (ct (k+1) (cz l):Nat):=Au.get hF 5 Ab;clear hF;simp only[AZ,Nat.reduceAdd];generalize γ 5=g5 at *;clear γ;obtain⟨b6,A6,n6,c6,rfl⟩:=p5.cells;replace ea:=ea.ext hx2;replace eb:=eb.ext hx2;replace hx:=hx.trans hx2;clear hx2 q0 q1 r0 r1 He HK Hb Hq;obtain⟨ceb0,ceb1⟩:=eb.cells2;have feb:=eb.frozen;go_wp2;obtain⟨W3,eW,eb',U⟩:=eb.put2 (.bool b6) (.slice A6 n6 c6) rfl rfl
   rw[←eW];clear eW eb;replace p5:=p5.kd U.kd;replace ea:=ea.upd U Ai;replace hx:=U.from_ hx Ai;have eb:=eb';clear U eb'
   go_roundw
   case rel=>exact⟨k+1,Aa,by go_num,ea,Bh.mk eb p5,hx⟩
   case measure=>simp[intOf];omega
  ·obtain rfl:k=l.length:=by omega
   obtain⟨cea0,cea1⟩:=ea.cells2;have fea:=ea.frozen;obtain⟨ceb0,ceb1⟩:=eb.cells2;have feb:=eb.frozen;go_wp2;have hr:=Hb.out;obtain⟨W3,eW,ea',U⟩:=ea.put2 (.bool b) (.slice B bn bc) rfl rfl;rw[←eW];clear eW ea;replace hr:=hr.kd U.kd;replace hx:=U.from_ hx Ai;have ea:=ea';clear U ea';clear cea0 cea1;obtain⟨cea0,cea1⟩:=ea.cells2;have fea:=ea.frozen;refine bodyPost_ret (v := .agg #[.bool b,.slice B bn bc]) (by simp[results,Tryz.results126,go_sem,cea0,cea1]) rfl ?_
   exact Ad.mk hr hx
set_option maxRecDepth 20000 in
set_option maxHeartbeats 2000000 in
theorem Oc(v u:Value)(l:List Int)(a:Int)(w:World)(hv:EI 0 w v l)(hu:Bj w u a)(hs:∀ i,qsz (cz l i)≤549755813888)(sa:sz a.natAbs≤549755813888)(ha:a≠0)(hd:∀ i,a∣(cz l i).num)(hn:l.length≤549755813888) :
  Calls Tryz.prog 125 #[v,u] w (Ad w fun r w'=>AQ w.heap.size w' r (psc (1 / (a:Rat)) (cz l))):=by
 have HU:=Lib.hid hu;obtain⟨b1,A1,n1,c1,rfl⟩:=hu.cells;obtain⟨A,c,rfl,hl,hc,hA⟩:=hv;clear hu;have HA:Hid (I1 0 w A l):=Lib.hid hA;clear hA;obtain⟨G,hG⟩:∃ G,G=psc (1 / (a:Rat)) (cz l):=⟨_,rfl⟩
 have hGi:∀ i,G i=(((cz l i).num / a:Int):Rat):=fun i=>by rw[hG];exact aT (ZI.cz l) ha i (hd i)
 have hGs:Bq l.length G:=by rw[hG];exact(Cb l).psc _
 have hGq:∀ i,qsz (G i)≤549755813888:=fun i=>by
  rw[hGi,Ba];have h1:=JZ (hd i);have h2:=hs i;unfold qsz at h2;omega
 rw[←hG];have HG:=Lib.hid (And.intro hGi (And.intro hGs (And.intro hGq (show ZI G from fun i=>⟨_,hGi i⟩))));clear hG hGi hGs hGq;have HS:=Lib.hid (And.intro hs (And.intro ha hd));clear hs ha hd
 go_enter Tryz.func125,Tryz.ntmps125
 go_wp2
 go_loopw [5,6] (fun ov iv wr=>∃ (k:Nat),k≤l.length∧iv = .int .i64 k∧D7 (w.heap.size+1) 26 wr ov (Df k G)∧Ext (w.alloc (.cells #[.bool b1,.slice A1 n1 c1] 26)) wr) (fun _ iv _=>l.length - (intOf iv).toNat)
 case atStart=>exact⟨0,Nat.zero_le _,rfl,BD.nil _ _ _ _ _,Ext.refl _⟩
 case round =>
  obtain⟨k,hk,rfl,hown,hx⟩:=hrel;by_cases hkl:k < l.length
  ·obtain⟨g,o,b,A2,n,c2,rfl,_,q0,q1,hq⟩:=HA.out.at_ (j:=k) hkl
   replace q0:=hx.a1.cell q0;replace q1:=hx.a1.cell q1;have ca0:=hx.box (g:=w.heap.size) (i:=0) rfl rfl;have ca1:=hx.box (g:=w.heap.size) (i:=1) rfl rfl;have hqk:=HS.out.1 k;rw[Cr hkl,Ba]at hqk;have hGk:l[k] / a=(G k).num:=by rw[HG.out.1,Cr hkl];rfl
   have Hq:=Lib.hid (And.intro hq (And.intro hqk hGk));clear hq hqk hGk;have Hown:=Lib.hid hown;clear hown
   go_wp2_with fail
   refine Ae 8 [13,14,15,16,17,18,19,20] [[],[],[],[1,2],[1,2,3],[],[1,2,3,4,5],[1,2,3,4,5,6],[0,1,2,3,4,5,6,7],[0,1,2,3,4,5,6,7,8]] [5,0,6,3] [_,_,_,_] [(kv ?_),(kv ?_),(kv ?_),(kv ?_),(kv ?_),(kv ?_),(fun γ=>γ 6),(fun γ=>γ 7)] (fun γ w'=>[True,True,True,True,True,True,AC w' (γ 6) (G k).num,EO w' (γ 7) (wr.heap.size) ((G k).num) 26]) Bd Ah Ah Bb Ah Bc Bg ?hstep2 ?_
   case hstep2 =>
    iterate 8 refine⟨?_,?_⟩
    trivial
    iterate 6 focus
     intro γ w' he hf;clear hf;refine⟨by trivial,?_⟩;intro R hR;have hc:=he.cells;have cq0:=he.cell q0;have cq1:=he.cell q1;have cq2:=he.cell ca0;have cq3:=he.cell ca1;go_simp;(try go_ints);(try(rw[if_neg Aa]));(try(rw[if_pos Aa]));(try go_simp);(try go_ints)
     refine hR _ _ (Ext.refl _) ?_ trivial;rfl
    ·intro γ w' he hf;clear hf;refine⟨trivial,?_⟩;intro R hR
     go_simp;exact AX (Hq.out.2.2▸Gx _ _ _ _ w' (Hq.out.1.kd (hx.a1.trans he).kd) (HU.out.kd (hx.a1.trans he).kd) HS.out.2.1 (by have:=Hq.out.2.1;omega) sa) hR
    ·intro γ w' he hf;have f6:AC w' (γ 6) (G k).num:=hf 6 Ab;clear hf;refine⟨trivial,?_⟩;intro R hR
     refine AC.el f6 fun b5 A5 n5 c5 e6 f6'=>?_;clear f6;go_simp;exact hR _ _ ((Ext.refl _).alloc _) rfl (EO.mk f6' (Nat.le_trans Ac he.size) _)
   intro γ w1 hx1 hF;have p6:AC w1 (γ 6) (G k).num:=Au.get hF 6 Ab;have p7:EO w1 (γ 7) (wr.heap.size) ((G k).num) 26:=Au.get hF 7 Ab;clear hF;simp only[AZ,Nat.reduceAdd];generalize γ 6=g6 at *;generalize γ 7=g7 at *;clear γ;have hs:w.heap.size+1≤wr.heap.size:=by have:=hx.size;simpa using this
   have hs1:=hx1.size;refine AB rfl _ _ 22 rfl u5 g7 rfl rfl (IZ w1 _ _ (w.heap.size+1) _ _ _ _ (Hown.out.ext hx1) p7 (by rw[AP];omega) Aa) ?_;rintro v' w2 ⟨hown,U⟩;replace hx:=(Hown.out.ext hx1).from_ U (hx.trans hx1) Ac;have Hown':=Lib.hid hown;clear hown U p7 p6 q0 q1 ca0 ca1;go_wp2
   go_roundw
   case rel=>exact⟨k+1,Aa,by go_num,by rw[FD];exact Hown'.out,hx⟩
   case measure=>simp[intOf]<;>omega
  ·obtain rfl:k=l.length:=by omega
   have hh:=RV hown (fun i=>by have:=HG.out.2.2.1 i;omega);obtain⟨A2,c2,e2⟩:=hh.len;rw[AP]at e2;rw[e2]at hh;clear hown;subst e2;have hczl:=EP HG.out.2.2.2 HG.out.2.1;have HH:=Lib.hid (And.intro hh hczl);clear hh hczl
   go_wp2_with fail
   refine Calls.mono (Gf _ _ _ HH.out.1 (by rw[AP];omega)) ?_;rintro e w9 ⟨r,rfl,hr,hx9⟩;rw[HH.out.2]at hr;have hsz:=hx.a1.size;have Hr:=Lib.hid hr;clear hr;go_wp2
   go_ret
   exact Ad.mk (Hr.out.base_le hsz) (hx.a1.trans hx9)
set_option maxHeartbeats 1000000 in
theorem Ox(v:Value)(l:List Int)(w:World)(hv:EI 0 w v l)(hs:∀ i,qsz (cz l i)≤549755813888)(hn:l.length≤549755813888) :
  Calls Tryz.prog 104 #[v] w (Ad w fun r w'=>AQ w.heap.size w' r (pp (cz l))):=by
 have HV:=Lib.hid hv;obtain⟨A,c,rfl⟩:=hv.len;clear hv;have hfin:=Af.cz l;have hzi:=ZI.cz l;have HX:=Lib.hid (And.intro hs (And.intro hfin hzi));clear hs hfin hzi
 go_enter Tryz.func104,Tryz.ntmps104
 go_wp2_with fail
 refine Calls.mono (M9 _ l _ HV.out HX.out.1 Aa) ?_;rintro e w1 ⟨r1,rfl,hr1,hx1⟩;obtain⟨b5,A5,n5,c5,rfl⟩:=hr1.cells;obtain⟨W0,eW,eb,x0⟩:=Be.made w1 26 #[.bool b5,.slice A5 n5 c5] (by simp[Ag]);replace hr1:=hr1.kd x0.kd;have hs1:=hx1.size;replace hx1:=hx1.trans x0;have hcz:sz ((cn (cz l):Nat):Int).natAbs≤549755813888:=by have:=Gh HX.out.1 (pl (cz l));simpa[cn] using this
 have Hr1:=Lib.hid (And.intro hr1 hcz);clear hr1 hcz;subst eW;clear x0;obtain⟨C,hC⟩:∃ C,C=cn (cz l):=⟨_,rfl⟩
 rw[←hC]at Hr1;have HC:=Lib.hid hC;clear hC
 go_upto_region 2 with(fail)
 generalize w1.alloc (.cells #[.bool b5,.slice A5 n5 c5] 26)=W0 at *;generalize w1.heap.size=gb at *;obtain⟨ceb0,ceb1⟩:=eb.cells2;have feb:=eb.frozen
 go_wp2_with fail
 refine Calls.mono (Jz _ (C:Int) _ (Hr1.out.1.has (by have:=Hr1.out.2;omega))) ?_;rintro e w2 ⟨r2,rfl,rfl,hx2⟩;by_cases h0:C=0
 ·have hb:((C:Int).sign==0)=true:=by rw[h0];rfl
  have hF:cz l=pz:=Classical.byContradiction fun h=>Io HX.out.2.2 HX.out.2.1 h (by rw[←HC.out,h0]);have HF:=Lib.hid hF;clear hF h0;go_wp2
  go_ret
  rw[HF.out,Gq];exact Ad.mk (AQ.nil _ _) (hx1.trans hx2)
 ·have hb:((C:Int).sign==0)=false:=by
   have:(C:Int).sign≠0:=fun e=>h0 (by have:=Int.sign_eq_zero_iff_zero.1 e;omega);simpa using this
  have hF:cz l≠pz:=fun h=>h0 (by rw[HC.out,h,Mw]);have HF:=Lib.hid hF;clear hF h0;replace eb:=eb.ext hx2;have Hr2:=Lib.hid (Hr1.out.1.kd hx2.kd);replace hx1:=hx1.trans hx2;have hHC:=Hr1.out.2;clear hx2 ceb0 ceb1 feb
  go_wp2_with fail
  refine Calls.mono (Ol _ l _ (HV.out.ext hx1) Aa) ?_;rintro e w3 ⟨r3,rfl,hr3,hx3⟩;have hlz:sz (ld (cz l)).num.natAbs≤1099511627776:=by have:=HX.out.1 (pl (cz l) - 1);unfold qsz at this;show sz (cz l (pl (cz l) - 1)).num.natAbs≤_;omega
  have Hr3:=Lib.hid (hr3.has hlz);clear hr3 hlz;replace eb:=eb.ext hx3;have Hr4:=Lib.hid (Hr2.out.kd hx3.kd);replace hx1:=hx1.trans hx3;clear hx3 Hr2
  go_wp2_with fail
  refine Calls.mono (Jz _ (ld (cz l)).num _ Hr3.out) ?_;rintro e w4 ⟨r4,rfl,rfl,hx4⟩;replace eb:=eb.ext hx4;have Hr2:=Lib.hid (Hr4.out.kd hx4.kd);replace hx1:=hx1.trans hx4;clear hx4 Hr3 Hr4;have hldz:ld (cz l)=((ld (cz l)).num:Rat):=HX.out.2.2.num _;have hpd:=fun i=>Je HX.out.2.1 i;have hpn:=Ef HX.out.2.2 HX.out.2.1 HF.out;have hpa:sz (pcn (cz l)).natAbs≤549755813888:=by rw[EY];simpa[HC.out] using hHC
  by_cases hneg:(ld (cz l)).num < 0
  ·have hb2:decide ((ld (cz l)).num < 0)=true:=by simpa using hneg
   have hpc:pcn (cz l) = -(C:Int):=by
    unfold pcn;rw[hldz,if_pos (by exact_mod_cast hneg),HC.out]
   have Hpc:=Lib.hid (And.intro hpc (And.intro hpd (And.intro hpn hpa)));clear hpc hldz hpd hpn hpa hneg;obtain⟨ceb0,ceb1⟩:=eb.cells2;have feb:=eb.frozen
   go_wp2_with fail
   refine Calls.mono (Tn _ (C:Int) _ (Hr2.out.has Aa)) ?_;rintro e w5 ⟨r5,rfl,hr5,hx5⟩;obtain⟨b6,A6,n6,c6,rfl⟩:=hr5.cells;replace eb:=eb.ext hx5;replace hx1:=hx1.trans hx5;clear hx5 ceb0 ceb1 feb Hr2;obtain⟨ceb0,ceb1⟩:=eb.cells2;have feb:=eb.frozen
   go_upto_region 6 with(fail)
   obtain⟨W3,eW,eb',U⟩:=eb.put2 (.bool b6) (.slice A6 n6 c6) rfl rfl;rw[←eW];clear eW eb;replace hr5:=hr5.kd U.kd;replace hx1:=U.from_ hx1 Ai;have eb:=eb';clear U eb';clear ceb0 ceb1 feb;obtain⟨ceb0,ceb1⟩:=eb.cells2;have feb:=eb.frozen;rw[←Hpc.out.1]at hr5;have Hr5:=Lib.hid (hr5.has (by have:=Hpc.out.2.2.2;omega));clear hr5
   go_wp2_with fail
   refine Calls.mono (Oc _ _ l (pcn (cz l)) _ (HV.out.ext hx1) Hr5.out HX.out.1 Hpc.out.2.2.2 Hpc.out.2.2.1 Hpc.out.2.1 hn) ?_;rintro e w6 ⟨r6,rfl,hr6,hx6⟩;have hsz:=hx1.size;have Hr6:=Lib.hid hr6;clear hr6;go_wp2
   go_ret
   exact Ad.mk (Hr6.out.base_le hsz) (hx1.trans hx6)
  ·have hb2:decide ((ld (cz l)).num < 0)=false:=by simpa using hneg
   have hpc:pcn (cz l)=(C:Int):=by
    unfold pcn;rw[hldz,if_neg (by intro h;exact hneg (by exact_mod_cast h)),HC.out]
   have Hpc:=Lib.hid (And.intro hpc (And.intro hpd (And.intro hpn hpa)));clear hpc hldz hpd hpn hpa hneg;obtain⟨ceb0,ceb1⟩:=eb.cells2;have feb:=eb.frozen;have hr5:=Hr2.out;rw[←Hpc.out.1]at hr5;have Hr5:=Lib.hid (hr5.has (by have:=Hpc.out.2.2.2;omega));clear hr5
   go_wp2_with fail
   refine Calls.mono (Oc _ _ l (pcn (cz l)) _ (HV.out.ext hx1) Hr5.out HX.out.1 Hpc.out.2.2.2 Hpc.out.2.2.1 Hpc.out.2.1 hn) ?_;rintro e w6 ⟨r6,rfl,hr6,hx6⟩;have hsz:=hx1.size;have Hr6:=Lib.hid hr6;clear hr6;go_wp2
   go_ret
   exact Ad.mk (Hr6.out.base_le hsz) (hx1.trans hx6)
end Go.Proofs.YtmhgnigpmompmaaGreat
namespace Go.Hp
open Go.RowKit
def JH(w:World)(v:Value)(x:Int):Prop:=∃ a,v = .tuple #[a,.int .i64 0]∧AC w a x
theorem JH.ext{w w':World}{v:Value}{x:Int}(h:JH w v x)(e:Ext w w'):JH w' v x:=by
 obtain⟨a,h1,h2⟩:=h;exact⟨a,h1,h2.kd e.kd⟩
theorem Bw.dens{w:World}{b b':Bool}{A A':Option Addr}{n c n' c':Nat}{q:Rat}(h:Bw w (.agg #[.bool b,.slice A n c,.bool b',.slice A' n' c']) q)(hs:qsz q≤274877906944):Bj w (.agg #[.bool b',.slice A' n' c']) (q.den:Int)∧Bj w (.agg #[.bool b,.slice A n c]) q.num:=by
 have h1:=h.parts4;have h2:=GN q;have h3:=EX q;exact⟨h1.2.has Aa,h1.1.has Aa⟩
theorem AQ.upd{base:Nat}{G:List Nat}{w w':World}{v:Value}{F:Nat→Rat}(h:AQ base w v F)(U:Ch G w w')(hG:∀ g∈G,g < base):AQ base w' v F:=by
 obtain⟨l,h1,h2,h3⟩:=h;exact⟨l,Cz.upd h1 U hG fun _ _ q=>q.kd U.kd,h2,h3⟩
def Lm(n:Nat)(F:Nat→Rat)(r:Value)(w':World):Prop:=∃ a b,r = .tuple #[a,b]∧AQ 0 w' a (pp (Cv n F))∧Bw w' b (Kv n F)
theorem OC(n:Nat):Cv n pz=pz:=Fe _
theorem Sz(n:Nat):Kv n pz=0:=by
 unfold Kv;rw[OC,Gq];show(0:Rat) / 0=0
 decide +kernel
end Go.Hp
namespace Go.Proofs.YtmhgnigpmompmaaGreat
open Go.RowKit Go.Hp
theorem Xw(W:World)(base ty g:Nat)(v:Value)(l:List Int)(q:Int){b:Bool}{A:Option Addr}{n c:Nat}(h:D7 base 26 W v l)(hq:AC W (.agg #[.bool b,.slice A n c]) q)(hn:l.length≤1099511627776)(hb:base≤W.heap.size)(hg:g=W.heap.size) :
  ∃ v' w',(Builtin.append_ #[23,23] ty #[v,.slice (some ⟨g,0,none⟩) 1 1]).run Tryz.prog (W.alloc (.cells #[.bool b,.slice A n c] 26)) = .ok v' w'∧(D7 base 26 w' v' (l ++ [q])∧Ch (blk v) (W.alloc (.cells #[.bool b,.slice A n c] 26)) w'):=by
 subst hg;obtain⟨g,cs,e1,h1,h2,h3,h4⟩:=EO.mk hq (base:=W.heap.size) (Nat.le_refl _) 26;cases e1;obtain⟨i0,hi,hz0,hz1,hz2⟩:=info_parts IB;have ho:=AC.one h4;have hx:=(Ext.refl W).alloc (.cells #[.bool b,.slice A n c] 26);obtain⟨v',w',a,b,c⟩:=BD.append (P:=Tryz.prog) (h.ext hx) 23 ty i0 _ 32 Tryz.underlying23 hi hz0 hz1 hz2 rfl (by simp[nodig,Ag,Value.cells]) Ab ⟨W.heap.size,0,none⟩ 1 cs h3 h4 h2.news ho.1 ho.2.1 (Gw hn) Aa (Nat.le_trans hb hx.size) (fun _ _ _ k hq=>AC.kd hq k)
 exact⟨v',w',a,b,c⟩
set_option maxRecDepth 20000 in
set_option maxHeartbeats 8000000 in
theorem Rc(v:Value)(l:List Rat)(w:World)(hv:Kz 0 w v l)(hn:l.length≤1099511627776)(h0:co l=pz) :
  Calls Tryz.prog 116 #[v] w (Ad w fun r w'=>Lm 0 pz r w'):=by
 have HV:=Lib.hid hv;obtain⟨A0,c0,rfl⟩:=hv.len;have H0:=Lib.hid h0;clear hv h0
 go_enter Tryz.func116,Tryz.ntmps116
 go_wp2_with fail
 refine Calls.mono (JV _ l _ (HV.out.ext ((Ext.refl w).alloc _)) hn) ?_;rintro e w1 ⟨r1,rfl,hr1,hx1⟩;rw[H0.out]at hr1;obtain⟨A1,c1,l1,rfl,k1,k2,-⟩:=hr1.form;rw[BV];clear hr1 HV k1
 go_wp2_with fail
 refine Calls.mono (X5 0 _ Aa Aa) ?_;rintro e w2 ⟨r2,rfl,hr2,hx2⟩;obtain⟨b5,A5,n5,c5,b6,A6,n6,c6,rfl⟩:=hr2.cells;have ea:=((Be.new w 28 #[.bool false,.slice none 0 0,.bool false,.slice none 0 0] (by simp[Ag])).ext hx1).ext hx2;have hx:=hx1.a1.trans hx2;obtain⟨cea0,cea1,cea2,cea3⟩:=ea.cells4;have fea:=ea.frozen;clear hx1 hx2;go_wp2;obtain⟨W3,eW,ea',U⟩:=ea.put4 (.bool b5) (.slice A5 n5 c5) (.bool b6) (.slice A6 n6 c6) rfl rfl rfl rfl
 rw[←eW];clear eW ea;replace hr2:=hr2.kd U.kd;replace hx:=U.from_ hx Ai;have ea:=ea';clear U ea';clear cea0 cea1 cea2 cea3;obtain⟨cea0,cea1,cea2,cea3⟩:=ea.cells4;have fea:=ea.frozen;refine bodyPost_ret (v := .tuple #[.slice none 0 0,.agg #[.bool b5,.slice A5 n5 c5,.bool b6,.slice A6 n6 c6]]) (by simp[results,Tryz.results116,go_sem,cea0,cea1,cea2,cea3]) rfl ?_;exact Ad.mk ⟨_,_,rfl,by rw[OC,Gq];exact AQ.nil _ _,by rw[Sz];exact hr2⟩ hx
set_option maxRecDepth 20000 in
set_option maxHeartbeats 16000000 in
theorem Yh(v:Value)(l:List Rat)(s:Nat)(w:World)(hv:Kz 0 w v l)(hn:l.length≤1000)(hs:∀ i,qsz (co l i)≤s)(hs0:s≤1000000)(h0:co l≠pz) :
  Calls Tryz.prog 116 #[v] w (Ad w fun r w'=>Lm (pl (co l)) (co l) r w'):=by
 have HV:=Lib.hid hv;obtain⟨A0,c0,rfl⟩:=hv.len;have hfin:=Af.co l;have hNorm:=fun w' (e:Ext w w')=>JV _ l w' (hv.ext e) Aa;have hplen:=BB (Fh l);obtain⟨F,hF⟩:∃ F,F=co l:=⟨_,rfl⟩
 rw[←hF]at hfin h0 hs hplen hNorm;rw[←hF];have hpos:=AY hfin h0;obtain⟨n,hn0⟩:∃ n,n=pl F:=⟨_,rfl⟩
 have hsup:Bq n F:=by rw[hn0];exact AJ hfin
 have hdl:∀ k,k≤n→sz (dl k F)≤1+1000*1000000:=fun k hk=>by
  have:=TD hs k;have h2:k*s≤1000*1000000:=Nat.mul_le_mul Aa hs0;omega
 have hcq:∀ i,qsz (Cv n F i)≤1+1000*1000000+1+1000000:=fun i=>by
  have:=JQ (n:=n) hs i;have h2:n*s≤1000*1000000:=Nat.mul_le_mul Aa hs0;omega
 rw[←hn0]at hpos ⊢;have hn3:n≤1000:=by omega
 have HX:=Lib.hid (And.intro hn0 (And.intro hfin (And.intro h0 (And.intro hs (And.intro hs0 (And.intro hsup (And.intro hdl hcq)))))));have HN:=Lib.hid hNorm;clear hn0 hfin h0 hs hs0 hsup hdl hcq hNorm hF hv HV hplen hn
 go_enter Tryz.func116,Tryz.ntmps116
 go_wp2_with fail
 refine Calls.mono (HN.out _ ((Ext.refl w).alloc _)) ?_;rintro e w1 ⟨r1,rfl,hr1,hx1⟩;obtain⟨A1,c1,l1,rfl,k1,k2,hA,k3,-,k5⟩:=hr1.form;rw[←HX.out.1]at k1 k3 ⊢;have HA:=Lib.hid (And.intro hA (And.intro k3 k5));clear hA k3 k5 hr1 HN;have ea:=(Be.new w 28 #[.bool false,.slice none 0 0,.bool false,.slice none 0 0] (by simp[Ag])).ext hx1;have hx:=hx1.a1;have hs1:=hx1.size;rw[World.size_alloc]at hs1;clear hx1
 go_wp2_with fail
 refine Calls.mono (Ji 1 _ Aa Aa) ?_;rintro e w2 ⟨r2,rfl,hr2,hx2⟩;obtain⟨b5,A5,n5,c5,rfl⟩:=hr2.cells;obtain⟨W0,eW,eb,x0⟩:=Be.made w2 26 #[.bool b5,.slice A5 n5 c5] (by simp[Ag]);replace hr2:=hr2.kd x0.kd;have hs2:=hx2.size;have Hx1:=Lib.hid (hx2.trans x0);replace ea:=ea.ext (hx2.trans x0);have hgb:w.heap.size < w2.heap.size:=by omega
 clear hx2;go_wp2;rw[←eW];clear eW x0;generalize w2.heap.size=gb at *
 go_loopw [28] (fun iv wr=>∃ k:Nat,k≤n∧iv = .int .i64 k∧Be wr w.heap.size 28 #[.bool false,.slice none 0 0,.bool false,.slice none 0 0]∧Bh wr gb 26 (dl k F:Nat)∧Ext w1 wr) (fun iv _=>n - (intOf iv).toNat)
 case atStart=>exact⟨0,Nat.zero_le _,rfl,ea,Bh.mk eb hr2,Hx1.out⟩
 case round =>
  clear ea eb hr2 Hx1;obtain⟨k,hk,rfl,ea,⟨b,B,bn,bc,eb,hb⟩,hx2⟩:=hrel;have Hb:=Lib.hid hb;clear hb;by_cases hkn:k < n
  ·have hkl1:k < l1.length:=by have:=HA.out.2.1;omega
   obtain⟨g,o,b1,B1,n1,d1,b2,B2,n2,d2,rfl,_,q0,q1,q2,q3,hq⟩:=HA.out.1.at_ (j:=k) hkl1;rw[←DT,HA.out.2.2]at hq;replace q0:=hx2.cell q0;replace q1:=hx2.cell q1;replace q2:=hx2.cell q2;replace q3:=hx2.cell q3;have hqs:=HX.out.2.2.2.1 k;have hqd:=(hq.ext hx2).dens (by have:=HX.out.2.2.2.2.1;omega);have hdk:=HX.out.2.2.2.2.2.2.1 k Aa;obtain⟨L,hL⟩:∃ L,L=dl k F:=⟨_,rfl⟩
   obtain⟨D,hD⟩:∃ D,D=(F k).den:=⟨_,rfl⟩
   have hDp:0 < D:=by rw[hD];exact(F k).den_pos
   have hLp:0 < L:=by rw[hL];exact KL F k
   have hG:Int.gcd (L:Int) (D:Int)=Nat.gcd L D:=Int.gcd_natCast_natCast L D;have hGp:0 < Nat.gcd L D:=Nat.gcd_pos_of_pos_left _ hLp;have hGd:((Nat.gcd L D:Nat):Int)∣(D:Int):=Int.natCast_dvd_natCast.2 (Nat.gcd_dvd_right L D);have hGn:((Nat.gcd L D:Nat):Int)≠0:=by omega
   have hGs:sz ((Nat.gcd L D:Nat):Int).natAbs≤1099511627776:=by
    rw[Int.natAbs_natCast];have:=Bf (Nat.le_of_dvd hLp (Nat.gcd_dvd_left L D));rw[←hL]at hdk;omega
   have hstep:(L:Int)*((D:Int) / ((Nat.gcd L D:Nat):Int))=(dl (k+1) F:Nat):=by
    rw[←YX,hL,hD];norm_cast
   obtain⟨X,hX⟩:∃ X:Int,X=(D:Int) / ((Nat.gcd L D:Nat):Int):=⟨_,rfl⟩
   rw[←hX]at hstep;have hXs:sz X.natAbs≤1099511627776:=by
    have h1:=JZ hGd;rw[←hX]at h1;have h2:=EX (F k);rw[←hD]at h2;have:=HX.out.2.2.2.2.1;omega
   have hLs:sz ((L:Nat):Int).natAbs≤1099511627776:=by rw[Int.natAbs_natCast,hL];omega
   rw[←hL]at Hb;rw[←hD]at hqd;have HG:=Lib.hid (And.intro hX (And.intro hG (And.intro hGd (And.intro hGn (And.intro hGs (And.intro hstep (And.intro hXs hLs)))))));have Hq:=Lib.hid hqd.1;clear hq hqs hqd hdk hG hGp hGd hGn hGs hstep hXs hX hL hD hDp hLp hLs;go_wp2;obtain⟨W9,eW9,e9,x9⟩:=Be.made wr 28 #[.bool b1,.slice B1 n1 d1,.bool b2,.slice B2 n2 d2] (by simp[Ag]);rw[←eW9];clear eW9 q0 q1 q2 q3;replace hx2:=hx2.trans x9
   replace ea:=ea.ext x9;replace eb:=eb.ext x9;have Hq':=Lib.hid (Hq.out.kd x9.kd);have Hb':=Lib.hid ((Hb.out.kd x9.kd).has HG.out.2.2.2.2.2.2.2);clear Hq Hb x9;generalize wr.heap.size=gp at e9 ⊢;have s0:=e9.cell (i:=0) rfl;have s1:=e9.cell (i:=1) rfl;have s2:=e9.cell (i:=2) rfl;have s3:=e9.cell (i:=3) rfl;clear e9;obtain⟨r0,r1⟩:=eb.cells2
   go_cut [7] (fun pv wy=>∃ gc,pv = .pointer (some ⟨gc,0,none⟩)∧Bh wy gc 26 X∧Ext W9 wy)
   case first =>
    refine BJ 11 9 1 [33,34,35,36,37,38,39,32,40,41,7] [[],[0],[],[],[3],[2,3,4],[0,1,2,3,4,5],[0,1,2,3,4,5,6],[0,1,2,3,4,5,6,7],[0,1,2,3,4,5,6,7],[],[0,1,2,3,4,5,6,7,8,10],[0,1,2,3,4,5,6,7,8,9,10,11]] [6,4] [_,_] [(kv ?_),(kv ?_),(kv ?_),(kv ?_),(kv ?_),(fun γ=>γ 5),(fun γ=>γ 6),(fun γ=>γ 6),(fun γ=>γ 8),(kv ?_),(fun γ=>γ 10)] (fun γ w'=>[True,True,True,True,True,AC w' (γ 5) (Nat.gcd L D:Nat),JH w' (γ 6) X,True,AC w' (γ 8) X,True,AV w' (γ 10) W9.heap.size #[.bool false,.slice none 0 0] 26]) _ rfl Bd Ah Ah Ah Ah Ah Bb Ah Bc ?hmono1 ?hstep1 ?_ ?hlate1
    case hstep1 =>
     iterate 11 refine⟨?_,?_⟩
     trivial
     iterate 5 focus
      intro γ w' he hf;clear hf;refine⟨by trivial,?_⟩;intro R hR;have hc:=he.cells;have cq0:=he.cell s0;have cq1:=he.cell s1;have cq2:=he.cell s2;have cq3:=he.cell s3;have cq4:=he.cell r0;have cq5:=he.cell r1;go_simp;refine hR _ _ (Ext.refl _) ?_ trivial;rfl
     ·intro γ w' he hf;clear hf;refine⟨trivial,?_⟩;intro R hR
      go_simp;exact AX (HG.out.2.1▸Tm _ _ (L:Int) (D:Int) w' (Hb'.out.kd he.kd) (Hq'.out.kd he.kd)) hR
     ·intro γ w' he hf;have f5:AC w' (γ 5) (Nat.gcd L D:Nat):=hf 5 Ab;clear hf;refine⟨trivial,?_⟩;intro R hR
      go_simp;exact AX (HG.out.1▸GU _ _ (D:Int) (Nat.gcd L D:Nat) w' (Hq'.out.kd he.kd) (f5.has HG.out.2.2.2.2.1) HG.out.2.2.2.1 HG.out.2.2.1) hR
     ·intro γ w' he hf;clear hf;refine⟨trivial,?_⟩;intro R hR
      have hc:=he.cells;go_simp
      (try go_ints);(try(rw[if_neg Aa]));(try(rw[if_pos Aa]));(try go_simp);(try go_ints)
      refine hR _ _ (Ext.refl _) ?_ trivial;rfl
     ·intro γ w' he hf;have f6:JH w' (γ 6) X:=hf 6 Ab;clear hf;refine⟨trivial,?_⟩;intro R hR
      obtain⟨a,e,ha⟩:=f6;go_simp;exact hR _ _ (Ext.refl _) rfl ha
     ·intro γ w' he hf;have f6:JH w' (γ 6) X:=hf 6 Ab;clear hf;refine⟨trivial,?_⟩;intro R hR
      obtain⟨a,e,ha⟩:=f6;have hc:=he.cells;go_simp
      (try go_ints);(try(rw[if_neg Aa]));(try(rw[if_pos Aa]));(try go_simp);(try go_ints)
      refine hR _ _ (Ext.refl _) ?_ trivial;rfl
     ·intro γ w' he hf;clear hf;refine⟨trivial,?_⟩;intro R hR
      go_simp;exact hR _ _ ((Ext.refl _).alloc _) rfl (AV.mk (Nat.le_trans Ac he.size) (by simp[Ag]))
    case hmono1 =>
     exact⟨⟨⟨⟨⟨⟨⟨⟨⟨⟨⟨trivial,(fun γ wA w' e h=>h)⟩,(fun γ wA w' e h=>h)⟩,(fun γ wA w' e h=>h)⟩,(fun γ wA w' e h=>h)⟩,(fun γ wA w' e h=>h)⟩,(fun γ wA w' e h=>(show AC wA (γ 5) (Nat.gcd L D:Nat)from h).ext e)⟩,(fun γ wA w' e h=>(show JH wA (γ 6) X from h).ext e)⟩,(fun γ wA w' e h=>h)⟩,(fun γ w w' e h=>AC.ext_ h e)⟩,(fun γ wA w' e h=>h)⟩,(fun γ wA w' e h=>(show AV wA (γ 10) W9.heap.size #[.bool false,.slice none 0 0] 26 from h).ext e)⟩
    case hlate1 =>
     intro γ w8 hx8 hF;have p5:AC w8 (γ 5) (Nat.gcd L D:Nat):=(Au.get hF 5 Ab).resolve_left Ab;have p6:JH w8 (γ 6) X:=(Au.get hF 6 Ab).resolve_left Ab;have p8:AC w8 (γ 8) X:=(Au.get hF 8 Ab).resolve_left Ab;have p10:AV w8 (γ 10) W9.heap.size #[.bool false,.slice none 0 0] 26:=(Au.get hF 10 Ab).resolve_left Ab;clear hF;simp only[AZ,Nat.reduceAdd,EB,Array.getD_eq_getD_getElem?,List.getElem?_toArray,List.getElem?_cons_succ,List.getElem?_cons_zero,Option.getD_some]
     generalize γ 5=g5 at *;generalize γ 6=g6 at *;generalize γ 8=g8 at *;generalize γ 10=g10 at *;clear γ;obtain⟨a6,rfl,-⟩:=p6;obtain⟨gc,rfl,hgc,ec⟩:=p10;obtain⟨b7,A7,n7,c7,rfl⟩:=p8.cells;clear s0 s1 s2 s3 r0 r1 p5;obtain⟨cec0,cec1⟩:=ec.cells2;have fec:=ec.frozen;go_wp2;refine⟨?_,trivial⟩;go_wp2;skip;obtain⟨W4,eW,ec',U⟩:=ec.put2 (.bool b7) (.slice A7 n7 c7) rfl rfl;rw[←eW];clear eW ec;replace p8:=p8.kd U.kd
     replace hx8:=U.from_ hx8 Ai;have ec:=ec';clear U ec'
     go_meet
     case rel=>exact⟨gc,rfl,Bh.mk ec p8,hx8⟩
    intro γ w8 hx8 hF;have p5:AC w8 (γ 5) (Nat.gcd L D:Nat):=Au.get hF 5 Ab;have p6:JH w8 (γ 6) X:=Au.get hF 6 Ab;have p8:AC w8 (γ 8) X:=Au.get hF 8 Ab;have p10:AV w8 (γ 10) W9.heap.size #[.bool false,.slice none 0 0] 26:=Au.get hF 10 Ab;clear hF;simp only[AZ,Nat.reduceAdd];generalize γ 5=g5 at *;generalize γ 6=g6 at *;generalize γ 8=g8 at *;generalize γ 10=g10 at *;clear γ;obtain⟨a6,rfl,-⟩:=p6;obtain⟨gc,rfl,hgc,ec⟩:=p10
    obtain⟨b7,A7,n7,c7,rfl⟩:=p8.cells;clear s0 s1 s2 s3 r0 r1 p5;obtain⟨cec0,cec1⟩:=ec.cells2;have fec:=ec.frozen;go_wp2;skip;obtain⟨W4,eW,ec',U⟩:=ec.put2 (.bool b7) (.slice A7 n7 c7) rfl rfl;rw[←eW];clear eW ec;replace p8:=p8.kd U.kd;replace hx8:=U.from_ hx8 Ai;have ec:=ec';clear U ec'
    go_meet
    case rel=>exact⟨gc,rfl,Bh.mk ec p8,hx8⟩
   case rest =>
    clear s0 s1 s2 s3 r0 r1;obtain⟨gc,rfl,⟨b7,A7,n7,c7,ec,hc⟩,hx3⟩:=hcut;have Hc:=Lib.hid (hc.has HG.out.2.2.2.2.2.2.1);clear hc;replace ea:=ea.ext hx3;replace eb:=eb.ext hx3;replace hx2:=hx2.trans hx3;obtain⟨cec0,cec1⟩:=ec.cells2;have fec:=ec.frozen;obtain⟨ceb0,ceb1⟩:=eb.cells2;have feb:=eb.frozen
    go_wp2_with fail
    refine Calls.mono (Dh _ _ (L:Int) X _ (Hb'.out.kd hx3.kd) Hc.out) ?_;rintro e w4 ⟨r4,rfl,hr4,hx4⟩;rw[HG.out.2.2.2.2.2.1]at hr4;obtain⟨b8,A8,n8,c8,rfl⟩:=hr4.cells;replace ea:=ea.ext hx4;replace eb:=eb.ext hx4;replace hx2:=hx2.trans hx4;clear ceb0 ceb1 feb cec0 cec1 fec ec hx3 hx4 Hc Hb' Hq';obtain⟨ceb0,ceb1⟩:=eb.cells2;have feb:=eb.frozen;go_wp2;obtain⟨W5,eW,eb',U⟩:=eb.put2 (.bool b8) (.slice A8 n8 c8) rfl rfl
    rw[←eW];clear eW eb;replace hr4:=hr4.kd U.kd;replace ea:=ea.upd U Ai;replace hx2:=U.from_ hx2 Ai;have eb:=eb';clear U eb'
    go_roundw
    case rel=>exact⟨k+1,Aa,by go_num,ea,Bh.mk eb hr4,hx2⟩
    case measure=>simp[intOf]<;>omega
  ·obtain rfl:n=k:=by omega
   have hgbl:=eb.lt;have hb0:=Hb.out;go_wp2
   go_loopw [9,48] (fun zv iv wr=>∃ k:Nat,k≤n∧iv = .int .i64 k∧D7 (gb+1) 26 wr zv (Df k (Cv n F))∧Be wr w.heap.size 28 #[.bool false,.slice none 0 0,.bool false,.slice none 0 0]∧Be wr gb 26 #[.bool b,.slice B bn bc]∧AC wr (.agg #[.bool b,.slice B bn bc]) (dl n F:Nat)∧Ext w1 wr) (fun _ iv _=>n - (intOf iv).toNat)
   case atStart=>exact⟨0,Nat.zero_le _,rfl,BD.nil _ _ _ _ _,ea,eb,hb0,hx2⟩
   case round =>
    clear ea eb hx2 hgbl hb0 Hb;obtain⟨k,hk,rfl,hown,ea,eb,hb,hx2⟩:=hrel;have Hb:=Lib.hid hb;clear hb;have hgbl:=eb.lt;by_cases hkn:k < n
    ·have hkl1:k < l1.length:=by have:=HA.out.2.1;omega
     obtain⟨g,o,b1,B1,n1,d1,b2,B2,n2,d2,rfl,_,q0,q1,q2,q3,hq⟩:=HA.out.1.at_ (j:=k) hkl1;rw[←DT,HA.out.2.2]at hq;replace q0:=hx2.cell q0;replace q1:=hx2.cell q1;replace q2:=hx2.cell q2;replace q3:=hx2.cell q3;have hqs:=HX.out.2.2.2.1 k;have hqd:=(hq.ext hx2).dens (by have:=HX.out.2.2.2.2.1;omega);have hdk:=HX.out.2.2.2.2.2.2.1 n (Nat.le_refl _);obtain⟨L,hL⟩:∃ L,L=dl n F:=⟨_,rfl⟩
     obtain⟨D,hD⟩:∃ D,D=(F k).den:=⟨_,rfl⟩
     have hDn:(D:Int)≠0:=by have:=(F k).den_pos;omega
     have hDd:(D:Int)∣(L:Int):=by rw[hD,hL];exact Int.natCast_dvd_natCast.2 (Oi F n k hkn)
     have hval:(F k).num*((L:Int) / (D:Int))=(Cv n F k).num:=by rw[TW HX.out.2.2.2.2.2.1,hL,hD]
     obtain⟨X,hX⟩:∃ X:Int,X=(L:Int) / (D:Int):=⟨_,rfl⟩
     rw[←hX]at hval;have hLs:sz ((L:Nat):Int).natAbs≤1099511627776:=by rw[Int.natAbs_natCast,hL];omega
     have hXs:sz X.natAbs≤1099511627776:=by
      have h1:=JZ hDd;rw[←hX]at h1;omega
     rw[←hL]at Hb;rw[←hD]at hqd;have HG:=Lib.hid (And.intro hX (And.intro hDn (And.intro hDd (And.intro hval (And.intro hLs (And.intro hXs hL))))));have Hq:=Lib.hid hqd;have Hown:=Lib.hid hown;clear hq hqs hqd hdk hDn hDd hval hX hL hD hLs hXs hown;have hB9:=Be.made wr 28 #[.bool b1,.slice B1 n1 d1,.bool b2,.slice B2 n2 d2] (by simp[Ag]);obtain⟨W9,eW9,e9,x9⟩:=hB9
     go_upto_region 15 with(fail)
     rw[←eW9];clear eW9 q0 q1 q2 q3;replace hx2:=hx2.trans x9;replace ea:=ea.ext x9;replace eb:=eb.ext x9;have Hq':=Lib.hid (And.intro (Hq.out.1.kd x9.kd) (Hq.out.2.kd x9.kd));have Hb':=Lib.hid (Hb.out.kd x9.kd);have Hown':=Lib.hid (Hown.out.ext x9);have hgb9:=eb.lt;clear Hq Hb Hown x9;generalize wr.heap.size=gp at e9 ⊢;have s0:=e9.cell (i:=0) rfl;have s1:=e9.cell (i:=1) rfl;have s2:=e9.cell (i:=2) rfl
     have s3:=e9.cell (i:=3) rfl;clear e9;obtain⟨r0,r1⟩:=eb.cells2
     go_wp2_with fail
     refine Calls.mono (GU _ _ (L:Int) (D:Int) _ (Hb'.out.has HG.out.2.2.2.2.1) Hq'.out.1 HG.out.2.1 HG.out.2.2.1) ?_;rintro e w3 ⟨r3,rfl,⟨a3,rfl,hr3⟩,hx3⟩;rw[←HG.out.1]at hr3;obtain⟨b7,A7,n7,c7,rfl⟩:=hr3.cells;have hBa:=Be.made w3 26 #[.bool b7,.slice A7 n7 c7] (by simp[Ag]);obtain⟨Wa,eWa,e5,xa⟩:=hBa;clear r0 r1
     go_upto_region 16 with(fail)
     rw[←eWa];replace hx3:=hx3.trans xa;have Hr3:=Lib.hid ((hr3.kd xa.kd).has HG.out.2.2.2.2.2.1);clear eWa xa hr3;generalize w3.heap.size=gq at e5 ⊢;obtain⟨ce50,ce51⟩:=e5.cells2;have fe5:=e5.frozen;replace s0:=hx3.cell s0;replace s1:=hx3.cell s1;replace s2:=hx3.cell s2;replace s3:=hx3.cell s3;replace ea:=ea.ext hx3;replace eb:=eb.ext hx3;replace hx2:=hx2.trans hx3;have Hb:=Lib.hid (Hb'.out.kd hx3.kd)
     have Hown:=Lib.hid (Hown'.out.ext hx3)
     go_wp2_with fail
     refine Calls.mono (Dh _ _ (F k).num X _ (Hq'.out.2.kd hx3.kd) Hr3.out) ?_;rintro e w4 ⟨r4,rfl,hr4,hx4⟩;rw[HG.out.2.2.2.1]at hr4;obtain⟨b8,A8,n8,c8,rfl⟩:=hr4.cells;have Hr:=Lib.hid hr4;clear hr4;replace ea:=ea.ext hx4;replace eb:=eb.ext hx4;replace hx2:=hx2.trans hx4;have Hb':=Lib.hid (Hb.out.kd hx4.kd);have Hown':=Lib.hid (Hown.out.ext hx4);have hsz:=eb.lt;clear s0 s1 s2 s3 hx3 hx4 e5 ce50 ce51 fe5 Hr3 Hq' Hb Hown
     go_wp2_with (at_builtin;refine AB rfl _ _ 23 rfl u9 (.slice (some ⟨w4.heap.size,0,none⟩) 1 1) rfl rfl (Xw w4 (gb+1) _ _ _ _ _ Hown'.out Hr.out (by rw[AP];omega) Aa rfl) ?_)
     first | intro v' w5 hown U | rintro v' w5 ⟨hown,U⟩
     have hb2:=BD.blk_ge (Hown'.out.ext ((Ext.refl w4).alloc (.cells #[.bool b8,.slice A8 n8 c8] 26)));have hx5:=(Ext.refl w4).alloc (.cells #[.bool b8,.slice A8 n8 c8] 26);replace ea:=(ea.ext hx5).upd U (fun hm=>by have:=(hb2 _ hm).1;omega);replace eb:=(eb.ext hx5).upd U (fun hm=>by have:=(hb2 _ hm).1;omega);have Hb:=Lib.hid ((Hb'.out.kd hx5.kd).kd U.kd);replace hx2:=U.from_ (hx2.trans hx5) (fun g hg=>by have:=(hb2 _ hg).1;omega)
     have Hown:=Lib.hid hown;clear hown U hb2 hx5 Hb' Hown';go_wp2
     go_roundw
     case rel=>exact⟨k+1,Aa,by go_num,by rw[FD];exact Hown.out,ea,eb,by rw[←HG.out.2.2.2.2.2.2];exact Hb.out,hx2⟩
     case measure=>simp[intOf]<;>omega
    ·obtain rfl:n=k:=by omega
     obtain⟨A2,c2,hv2⟩:=(D7.row hown).len;rw[AP]at hv2;have hz2:=RV hown (fun i=>by have:=HX.out.2.2.2.2.2.2.2 i;omega);have hzs:=D7.row hown;rw[hv2]at hz2 hzs;have hczl:=EP (DZ HX.out.2.2.2.2.2.1) (show Bq n (Cv n F)from(HX.out.2.2.2.2.2.1).psc _);have Hz:=Lib.hid (And.intro hz2 (And.intro hzs hczl));clear hz2 hzs hczl hown;subst hv2
     go_wp2_with fail
     refine Calls.mono (F7 _ _ _ Hz.out.1 (by rw[AP];omega)) ?_;rintro e w2 ⟨r2,rfl,hr2,hx3⟩;rw[Hz.out.2.2]at hr2;replace ea:=ea.ext hx3;replace eb:=eb.ext hx3;replace hx2:=hx2.trans hx3;have Hb':=Lib.hid (Hb.out.kd hx3.kd);have hzz:=Hz.out.2.1.ext hx3;obtain⟨A3,c3,l3,rfl,k3,k4,hA3,k5,-,k6⟩:=hr2.form;have hppl:pl (pp (Cv n F))=n:=by
      rw[Ep (DZ HX.out.2.2.2.2.2.1) (De HX.out.2.1),KY HX.out.2.1,←HX.out.1]
     rw[hppl]at k3 k5 hr2 ⊢;have hlast:n - 1 < (Df n (Cv n F)).length:=by rw[AP];omega
     obtain⟨gz,oz,y1,Y1,yn1,yc1,rfl,_,q0,q1,hqz⟩:=hzz.at_ (j:=n - 1) hlast;obtain⟨gg,og,z1,Z1,zn1,zc1,rfl,_,p0,p1,hqg⟩:=hA3.at_ (j:=n - 1) Aa;rw[BX]at hqz;have hg3:l3[n - 1]'(by omega)=(pp (Cv n F) (n - 1)).num:=by
      have:=Cr (l:=l3) (i:=n - 1) Aa;rw[k6]at this;rw[this];rfl
     rw[hg3]at hqg;have hzn:=DZ HX.out.2.2.2.2.2.1;have hfn:=De (n:=n) HX.out.2.1;have hne:=Nh (n:=n) HX.out.2.1 HX.out.2.2.1;have hpn:=Ef hzn hfn hne;have hpd:=Je hfn (n - 1);have hpa:(pp (Cv n F) (n - 1)).num=(Cv n F (n - 1)).num / pcn (Cv n F):=by rw[NQ hzn hfn hne];rfl
     have htop:(Cv n F (n - 1)).num≠0:=by
      have h1:=ES hfn (by rw[KY HX.out.2.1,←HX.out.1];exact hpos);rw[KY HX.out.2.1,←HX.out.1]at h1;intro e;exact h1 (by rw[hzn.num,e];rfl)
     obtain⟨u,hu⟩:=hpd;have hpu:(pp (Cv n F) (n - 1)).num=u:=by rw[hpa,hu,Int.mul_ediv_cancel_left _ hpn]
     have hun:u≠0:=fun e=>htop (by rw[hu,e,Int.mul_zero]);rw[hpu]at hqg;have hquo:(Cv n F (n - 1)).num / u=pcn (Cv n F):=by rw[hu,Int.mul_ediv_cancel _ hun]
     have hdv:u∣(Cv n F (n - 1)).num:=⟨pcn (Cv n F),by rw[hu,Int.mul_comm]⟩
     have hcs:=HX.out.2.2.2.2.2.2.2 (n - 1);have hzs1:sz (Cv n F (n - 1)).num.natAbs≤1099511627776:=by unfold qsz at hcs;omega
     have hus:sz u.natAbs≤1099511627776:=by
      have h1:=Fj hzn hfn HX.out.2.2.2.2.2.2.2 (n - 1);unfold qsz at h1;rw[hpu]at h1;omega
     have hpcs:sz (pcn (Cv n F)).natAbs≤1099511627776:=by
      rw[EY];have:=Gh HX.out.2.2.2.2.2.2.2 (pl (Cv n F));show sz (ct _ _)≤_;omega
     have hdl:=HX.out.2.2.2.2.2.2.1 n (Nat.le_refl _);have hdl2:sz (((dl n F:Nat):Int)).natAbs≤1099511627776:=by rw[Int.natAbs_natCast];omega
     have hdln:((dl n F:Nat):Int)≠0:=by have:=KL F n;omega
     have hcf:=(SL HX.out.2.2.2.2.2.1 HX.out.2.2.1).1;have hcf2:Rat.divInt (pcn (Cv n F)) ((dl n F:Nat):Int)=Kv n F:=by rw[hcf];exact(IR _ _).symm
     have HQ:=Lib.hid (And.intro (hqz.has hzs1) (And.intro (hqg.has hus) (And.intro hun (And.intro hdv (And.intro hquo (And.intro hpcs (And.intro hdl2 (And.intro hdln hcf2))))))));have HP:=Lib.hid hr2;clear hqz hqg hg3 hzn hfn hne hpn hpa htop hu hpu hun hquo hdv hcs hzs1 hus hpcs hdl hdl2 hdln hcf hcf2 hr2 hA3 k5 k6 hppl hzz hlast hx3
     go_upto_region 19 with(fail)
     obtain⟨wt,hwt⟩:∃ wt:World,wt=w2:=⟨_,rfl⟩
     subst hwt
     go_cut [15] (fun pv wy=>∃ gc,pv = .pointer (some ⟨gc,0,none⟩)∧Bh wy gc 26 (pcn (Cv n F))∧Ext wt wy)
     case first =>
      refine BJ 17 15 1 [70,71,72,73,74,75,76,77,78,79,80,81,82,69,83,84,15] [[],[],[1],[1,2],[0,1,2,3],[0,1,2,3,4],[],[],[7],[7,8],[6,7,8,9],[6,7,8,9,10],[0,1,2,3,4,5,6,7,8,9,10,11],[0,1,2,3,4,5,6,7,8,9,10,11,12],[0,1,2,3,4,5,6,7,8,9,10,11,12,13],[0,1,2,3,4,5,6,7,8,9,10,11,12,13],[],[0,1,2,3,4,5,6,7,8,9,10,11,12,13,14,16],[0,1,2,3,4,5,6,7,8,9,10,11,12,13,14,15,16,17]] [9,14] [_,_] [(kv ?_),(kv ?_),(kv ?_),(kv ?_),(kv ?_),(kv ?_),(kv ?_),(kv ?_),(kv ?_),(kv ?_),(kv ?_),(kv ?_),(fun γ=>γ 12),(fun γ=>γ 12),(fun γ=>γ 14),(kv ?_),(fun γ=>γ 16)] (fun γ w'=>[True,True,True,True,True,True,True,True,True,True,True,True,JH w' (γ 12) (pcn (Cv n F)),True,AC w' (γ 14) (pcn (Cv n F)),True,AV w' (γ 16) wt.heap.size #[.bool false,.slice none 0 0] 26]) _ rfl Bd Ah Ah Ah Ah Ah Bb Ah Bc ?hmono2 ?hstep2 ?_ ?hlate2
      case hstep2 =>
       iterate 17 refine⟨?_,?_⟩
       trivial
       iterate 12 focus
        intro γ w' he hf;clear hf;refine⟨by trivial,?_⟩;intro R hR;have hc:=he.cells;have cq0:=he.cell q0;have cq1:=he.cell q1;have cq2:=he.cell p0;have cq3:=he.cell p1;go_simp;(try go_ints);(try(rw[if_neg Aa]));(try(rw[if_pos Aa]));(try go_simp);(try go_ints)
        refine hR _ _ (Ext.refl _) ?_ trivial;rfl
       ·intro γ w' he hf;clear hf;refine⟨trivial,?_⟩;intro R hR
        go_simp;exact AX (HQ.out.2.2.2.2.1▸GU _ _ _ _ w' (HQ.out.1.kd he.kd) (HQ.out.2.1.kd he.kd) HQ.out.2.2.1 HQ.out.2.2.2.1) hR
       ·intro γ w' he hf;clear hf;refine⟨trivial,?_⟩;intro R hR
        have hc:=he.cells;go_simp
        (try go_ints);(try(rw[if_neg Aa]));(try(rw[if_pos Aa]));(try go_simp);(try go_ints)
        refine hR _ _ (Ext.refl _) ?_ trivial;rfl
       ·intro γ w' he hf;have f12:JH w' (γ 12) (pcn (Cv n F)):=hf 12 Ab;clear hf;refine⟨trivial,?_⟩;intro R hR
        obtain⟨a,e,ha⟩:=f12;go_simp;exact hR _ _ (Ext.refl _) rfl ha
       ·intro γ w' he hf;have f12:JH w' (γ 12) (pcn (Cv n F)):=hf 12 Ab;clear hf;refine⟨trivial,?_⟩;intro R hR
        obtain⟨a,e,ha⟩:=f12;have hc:=he.cells;go_simp
        (try go_ints);(try(rw[if_neg Aa]));(try(rw[if_pos Aa]));(try go_simp);(try go_ints)
        refine hR _ _ (Ext.refl _) ?_ trivial;rfl
       ·intro γ w' he hf;clear hf;refine⟨trivial,?_⟩;intro R hR
        go_simp;exact hR _ _ ((Ext.refl _).alloc _) rfl (AV.mk (Nat.le_trans Ac he.size) (by simp[Ag]))
      case hmono2 =>
       exact⟨⟨⟨⟨⟨⟨⟨⟨⟨⟨⟨⟨⟨⟨⟨⟨⟨trivial,(fun γ wA w' e h=>h)⟩,(fun γ wA w' e h=>h)⟩,(fun γ wA w' e h=>h)⟩,(fun γ wA w' e h=>h)⟩,(fun γ wA w' e h=>h)⟩,(fun γ wA w' e h=>h)⟩,(fun γ wA w' e h=>h)⟩,(fun γ wA w' e h=>h)⟩,(fun γ wA w' e h=>h)⟩,(fun γ wA w' e h=>h)⟩,(fun γ wA w' e h=>h)⟩,(fun γ wA w' e h=>h)⟩,(fun γ wA w' e h=>(show JH wA (γ 12) (pcn (Cv n F))from h).ext e)⟩,(fun γ wA w' e h=>h)⟩,(fun γ w w' e h=>AC.ext_ h e)⟩,(fun γ wA w' e h=>h)⟩,(fun γ wA w' e h=>(show AV wA (γ 16) wt.heap.size #[.bool false,.slice none 0 0] 26 from h).ext e)⟩
      case hlate2 =>
       intro γ w8 hx8 hF;have pf12:JH w8 (γ 12) (pcn (Cv n F)):=(Au.get hF 12 Ab).resolve_left Ab;have pf14:AC w8 (γ 14) (pcn (Cv n F)):=(Au.get hF 14 Ab).resolve_left Ab;have pf16:AV w8 (γ 16) wt.heap.size #[.bool false,.slice none 0 0] 26:=(Au.get hF 16 Ab).resolve_left Ab;clear hF;simp only[AZ,Nat.reduceAdd,EB,Array.getD_eq_getD_getElem?,List.getElem?_toArray,List.getElem?_cons_succ,List.getElem?_cons_zero,Option.getD_some]
       generalize γ 12=g12 at *;generalize γ 14=g14 at *;generalize γ 16=g16 at *;clear γ;obtain⟨a6,rfl,-⟩:=pf12;obtain⟨gc,rfl,hgc,ec⟩:=pf16;obtain⟨b7,A7,n7,c7,rfl⟩:=pf14.cells;clear q0 q1 p0 p1;obtain⟨cec0,cec1⟩:=ec.cells2;have fec:=ec.frozen;go_wp2;refine⟨?_,trivial⟩;go_wp2;skip;obtain⟨W4,eW,ec',U⟩:=ec.put2 (.bool b7) (.slice A7 n7 c7) rfl rfl;rw[←eW];clear eW ec;replace pf14:=pf14.kd U.kd;replace hx8:=U.from_ hx8 Ai
       have ec:=ec';clear U ec'
       go_meet
       case rel=>exact⟨gc,rfl,Bh.mk ec pf14,hx8⟩
      intro γ w8 hx8 hF;have pf12:JH w8 (γ 12) (pcn (Cv n F)):=Au.get hF 12 Ab;have pf14:AC w8 (γ 14) (pcn (Cv n F)):=Au.get hF 14 Ab;have pf16:AV w8 (γ 16) wt.heap.size #[.bool false,.slice none 0 0] 26:=Au.get hF 16 Ab;clear hF;simp only[AZ,Nat.reduceAdd];generalize γ 12=g12 at *;generalize γ 14=g14 at *;generalize γ 16=g16 at *;clear γ;obtain⟨a6,rfl,-⟩:=pf12;obtain⟨gc,rfl,hgc,ec⟩:=pf16;obtain⟨b7,A7,n7,c7,rfl⟩:=pf14.cells
      clear q0 q1 p0 p1;obtain⟨cec0,cec1⟩:=ec.cells2;have fec:=ec.frozen;go_wp2;skip;obtain⟨W4,eW,ec',U⟩:=ec.put2 (.bool b7) (.slice A7 n7 c7) rfl rfl;rw[←eW];clear eW ec;replace pf14:=pf14.kd U.kd;replace hx8:=U.from_ hx8 Ai;have ec:=ec';clear U ec'
      go_meet
      case rel=>exact⟨gc,rfl,Bh.mk ec pf14,hx8⟩
     case rest =>
      clear q0 q1 p0 p1;obtain⟨gc,rfl,⟨b7,A7,n7,c7,ec,hc⟩,hx3⟩:=hcut;have Hc:=Lib.hid (hc.has HQ.out.2.2.2.2.2.1);clear hc;have HbL:=Lib.hid ((Hb'.out.kd hx3.kd).has HQ.out.2.2.2.2.2.2.1);replace ea:=ea.ext hx3;replace eb:=eb.ext hx3;obtain⟨cec0,cec1⟩:=ec.cells2;have fec:=ec.frozen;obtain⟨ceb0,ceb1⟩:=eb.cells2;have feb:=eb.frozen
      go_wp2_with fail
      refine Calls.mono (ZU _ _ (pcn (Cv n F)) ((dl n F:Nat):Int) _ Hc.out HbL.out HQ.out.2.2.2.2.2.2.2.1) ?_;rintro e w4 ⟨r4,rfl,⟨a4,rfl,hr4⟩,hx4⟩;rw[HQ.out.2.2.2.2.2.2.2.2]at hr4;obtain⟨b8,A8,n8,c8,b9,A9,n9,c9,rfl⟩:=hr4.cells;replace ea:=ea.ext hx4;replace hx3:=hx3.trans hx4;clear ceb0 ceb1 feb cec0 cec1 fec ec eb Hc HbL hx4;have hBa:=Be.made w4 28 #[.bool b8,.slice A8 n8 c8,.bool b9,.slice A9 n9 c9] (by simp[Ag])
      obtain⟨Wa,eWa,e5,xa⟩:=hBa
      go_upto_region 21 with(fail)
      rw[←eWa];replace hr4:=hr4.ext xa;replace ea:=ea.ext xa;replace hx3:=hx3.trans xa;clear eWa xa;generalize w4.heap.size=gr at e5 ⊢;have HP':=Lib.hid (HP.out.ext hx3);have hxx:=hx.trans (hx2.trans hx3);clear HP hx3 hx2;obtain⟨ce50,ce51,ce52,ce53⟩:=e5.cells4;have fe5:=e5.frozen;refine Ae 3 [91,92,2] [[],[],[0],[0,1,2]] [14,17] [_,_] [(kv ?_),(kv ?_),(kv ?_)] (fun γ w'=>[True,True,True]) Bd Ah Ah Bb Ah Bc Bg ?hstep3 ?_
      case hstep3 =>
       iterate 3 refine⟨?_,?_⟩
       trivial
       iterate 3 focus
        intro γ w' he hf;clear hf;refine⟨by trivial,?_⟩;intro R hR;have hc:=he.cells;have cq0:=he.cell ce50;have cq1:=he.cell ce51;have cq2:=he.cell ce52;have cq3:=he.cell ce53;go_simp;(try go_ints);(try(rw[if_neg Aa]));(try(rw[if_pos Aa]));(try go_simp);(try go_ints)
        refine hR _ _ (Ext.refl _) ?_ trivial;rfl
      intro γ w9 hx9 hF;clear hF;simp only[AZ,Nat.reduceAdd];clear γ;replace ea:=ea.ext hx9;replace hr4:=hr4.ext hx9;replace hxx:=hxx.trans hx9;have hp:=HP'.out.ext hx9;clear hx9 ce50 ce51 ce52 ce53 fe5 e5 HP';obtain⟨cea0,cea1,cea2,cea3⟩:=ea.cells4;have fea:=ea.frozen;go_wp2;obtain⟨W3,eW,ea',U⟩:=ea.put4 (.bool b8) (.slice A8 n8 c8) (.bool b9) (.slice A9 n9 c9) rfl rfl rfl rfl;rw[←eW];clear eW ea;replace hr4:=hr4.kd U.kd
      replace hp:=hp.upd U Ai;replace hxx:=U.from_ hxx Ai;have ea:=ea';clear U ea';have HP:=Lib.hid (hp.base_le (Nat.zero_le _));clear hp;clear cea0 cea1 cea2 cea3;obtain⟨cea0,cea1,cea2,cea3⟩:=ea.cells4;have fea:=ea.frozen;refine bodyPost_ret (v := .tuple #[_,.agg #[.bool b8,.slice A8 n8 c8,.bool b9,.slice A9 n9 c9]]) (by simp[results,Tryz.results116,go_sem,cea0,cea1,cea2,cea3];rfl) rfl ?_;exact Ad.mk ⟨_,_,rfl,HP.out,hr4⟩ hxx
theorem AC.cast{w:World}{v:Value}{x y:Int}(h:AC w v x)(e:x=y):AC w v y:=e▸h
set_option maxRecDepth 20000 in
set_option maxHeartbeats 8000000 in
theorem Qr(v:Value)(l:List Rat)(w:World)(hv:Kz 0 w v l)(hn:l.length≤1099511627776)(h0:co l=pz) :
  Calls Tryz.prog 72 #[v] w (Ad w fun r w'=>Lm 0 pz r w'):=by
 have HV:=Lib.hid hv;obtain⟨A0,c0,rfl⟩:=hv.len;have H0:=Lib.hid h0;clear hv h0
 go_enter Tryz.func72,Tryz.ntmps72
 go_wp2_with fail
 refine Calls.mono (Fa _ l _ (HV.out.ext ((Ext.refl w).alloc _)) hn) ?_;rintro e w1 ⟨r1,rfl,hr1,hx1⟩;rw[H0.out]at hr1;obtain⟨A1,c1,l1,rfl,k1,k2,-⟩:=hr1.form;rw[BV];clear hr1 HV k1
 go_wp2_with fail
 refine Calls.mono (NC 0 _ Aa Aa) ?_;rintro e w2 ⟨r2,rfl,hr2,hx2⟩;obtain⟨b5,A5,n5,c5,b6,A6,n6,c6,rfl⟩:=hr2.cells;have ea:=((Be.new w 28 #[.bool false,.slice none 0 0,.bool false,.slice none 0 0] (by simp[Ag])).ext hx1).ext hx2;have hx:=hx1.a1.trans hx2;obtain⟨cea0,cea1,cea2,cea3⟩:=ea.cells4;have fea:=ea.frozen;clear hx1 hx2;go_wp2;obtain⟨W3,eW,ea',U⟩:=ea.put4 (.bool b5) (.slice A5 n5 c5) (.bool b6) (.slice A6 n6 c6) rfl rfl rfl rfl
 rw[←eW];clear eW ea;replace hr2:=hr2.kd U.kd;replace hx:=U.from_ hx Ai;have ea:=ea';clear U ea';clear cea0 cea1 cea2 cea3;obtain⟨cea0,cea1,cea2,cea3⟩:=ea.cells4;have fea:=ea.frozen;refine bodyPost_ret (v := .tuple #[.slice none 0 0,.agg #[.bool b5,.slice A5 n5 c5,.bool b6,.slice A6 n6 c6]]) (by simp[results,Tryz.results72,go_sem,cea0,cea1,cea2,cea3]) rfl ?_;exact Ad.mk ⟨_,_,rfl,by rw[OC,Gq];exact AQ.nil _ _,by rw[Sz];exact hr2⟩ hx
set_option maxRecDepth 20000 in
set_option maxHeartbeats 16000000 in
theorem XW(v:Value)(l:List Rat)(s:Nat)(w:World)(hv:Kz 0 w v l)(hn:l.length≤1000)(hs:∀ i,qsz (co l i)≤s)(hs0:s≤1000000)(h0:co l≠pz) :
  Calls Tryz.prog 72 #[v] w (Ad w fun r w'=>Lm (pl (co l)) (co l) r w'):=by
 have HV:=Lib.hid hv;obtain⟨A0,c0,rfl⟩:=hv.len;have hfin:=Af.co l;have hNorm:=fun w' (e:Ext w w')=>Fa _ l w' (hv.ext e) Aa;have hplen:=BB (Fh l);obtain⟨F,hF⟩:∃ F,F=co l:=⟨_,rfl⟩
 rw[←hF]at hfin h0 hs hplen hNorm;rw[←hF];have hpos:=AY hfin h0;obtain⟨n,hn0⟩:∃ n,n=pl F:=⟨_,rfl⟩
 have hsup:Bq n F:=by rw[hn0];exact AJ hfin
 have hdl:∀ k,k≤n→sz (dl k F)≤1+1000*1000000:=fun k hk=>by
  have:=TD hs k;have h2:k*s≤1000*1000000:=Nat.mul_le_mul Aa hs0;omega
 have hcq:∀ i,qsz (Cv n F i)≤1+1000*1000000+1+1000000:=fun i=>by
  have:=JQ (n:=n) hs i;have h2:n*s≤1000*1000000:=Nat.mul_le_mul Aa hs0;omega
 rw[←hn0]at hpos ⊢;have hn3:n≤1000:=by omega
 have HX:=Lib.hid (And.intro hn0 (And.intro hfin (And.intro h0 (And.intro hs (And.intro hs0 (And.intro hsup (And.intro hdl hcq)))))));have HN:=Lib.hid hNorm;clear hn0 hfin h0 hs hs0 hsup hdl hcq hNorm hF hv HV hplen hn
 go_enter Tryz.func72,Tryz.ntmps72
 go_wp2_with fail
 refine Calls.mono (HN.out _ ((Ext.refl w).alloc _)) ?_;rintro e w1 ⟨r1,rfl,hr1,hx1⟩;obtain⟨lh,hh1,hh2,-,hh4⟩:=hr1.hs (fun i=>by have:=HX.out.2.2.2.1 i;have:=HX.out.2.2.2.2.1;omega);obtain⟨A1,c1,l1,rfl,k1,k2,hA,k3,-,k5⟩:=hr1.form;rw[←HX.out.1]at k1 k3 hh1 hh2 ⊢;have HA:=Lib.hid (And.intro hA (And.intro k3 k5));have HH:=Lib.hid (And.intro hh1 (And.intro hh2 hh4));clear hA k3 k5 hr1 HN hh1 hh2 hh4;have ea:=(Be.new w 28 #[.bool false,.slice none 0 0,.bool false,.slice none 0 0] (by simp[Ag])).ext hx1
 have hx:=hx1.a1;have hs1:=hx1.size;rw[World.size_alloc]at hs1;clear hx1
 go_wp2_with fail
 refine Calls.mono (Ls 1 _ Aa Aa) ?_;rintro e w2 ⟨r2,rfl,hr2,hx2⟩;obtain⟨b5,A5,n5,c5,rfl⟩:=hr2.cells;obtain⟨W0,eW,eb,x0⟩:=Be.made w2 26 #[.bool b5,.slice A5 n5 c5] (by simp[Ag]);replace hr2:=hr2.kd x0.kd;have hs2:=hx2.size;have Hx1:=Lib.hid (hx2.trans x0);replace ea:=ea.ext (hx2.trans x0);have hgb:w.heap.size < w2.heap.size:=by omega
 clear hx2;go_wp2;rw[←eW];clear eW x0;generalize w2.heap.size=gb at *
 go_loopw [6] (fun iv wr=>∃ k:Nat,k≤n∧iv = .int .i64 k∧Be wr w.heap.size 28 #[.bool false,.slice none 0 0,.bool false,.slice none 0 0]∧Bh wr gb 26 (dl k F:Nat)∧Ext w1 wr) (fun iv _=>n - (intOf iv).toNat)
 case atStart=>exact⟨0,Nat.zero_le _,rfl,ea,Bh.mk eb hr2,Hx1.out⟩
 case round =>
  clear ea eb hr2 Hx1;obtain⟨k,hk,rfl,ea,⟨b,B,bn,bc,eb,hb⟩,hx2⟩:=hrel;have Hb:=Lib.hid hb;clear hb;by_cases hkn:k < n
  ·have hkl1:k < l1.length:=by have:=HA.out.2.1;omega
   obtain⟨g,o,b1,B1,n1,d1,b2,B2,n2,d2,rfl,_,q0,q1,q2,q3,hq⟩:=HA.out.1.at_ (j:=k) hkl1;rw[←DT,HA.out.2.2]at hq;replace q0:=hx2.cell q0;replace q1:=hx2.cell q1;replace q2:=hx2.cell q2;replace q3:=hx2.cell q3;have hqs:=HX.out.2.2.2.1 k;have hqd:=(hq.ext hx2).dens (by have:=HX.out.2.2.2.2.1;omega);have hdk:=HX.out.2.2.2.2.2.2.1 k Aa;obtain⟨L,hL⟩:∃ L,L=dl k F:=⟨_,rfl⟩
   obtain⟨D,hD⟩:∃ D,D=(F k).den:=⟨_,rfl⟩
   have hDp:0 < D:=by rw[hD];exact(F k).den_pos
   have hLp:0 < L:=by rw[hL];exact KL F k
   have hG:Int.gcd (L:Int) (D:Int)=Nat.gcd L D:=Int.gcd_natCast_natCast L D;have hGp:0 < Nat.gcd L D:=Nat.gcd_pos_of_pos_left _ hLp;have hGn:((Nat.gcd L D:Nat):Int)≠0:=by omega
   have hLs:sz ((L:Nat):Int).natAbs≤4294967296:=by rw[Int.natAbs_natCast,hL];omega
   have hDs:sz ((D:Nat):Int).natAbs≤1000000:=by
    have h2:=EX (F k);rw[←hD]at h2;have:=HX.out.2.2.2.2.1;omega
   have hGs:sz ((Nat.gcd L D:Nat):Int).natAbs≤4294967296:=by
    rw[Int.natAbs_natCast];have:=Bf (Nat.le_of_dvd hLp (Nat.gcd_dvd_left L D));rw[←hL]at hdk;omega
   have hMs:sz ((L:Int)*(D:Int)).natAbs≤4294967296+1000000:=F6 hLs hDs;have hstep:(L:Int)*(D:Int) / ((Nat.gcd L D:Nat):Int)=(dl (k+1) F:Nat):=by
    rw[←Xv,hL,hD];norm_cast
   rw[←hL]at Hb;rw[←hD]at hqd;have HG:=Lib.hid (And.intro hG (And.intro hGn (And.intro hLs (And.intro hDs (And.intro hGs (And.intro hMs hstep))))));have Hq:=Lib.hid hqd.1;clear hq hqs hqd hdk hG hGp hGn hGs hstep hL hD hDp hLp hLs hDs hMs;obtain⟨r0,r1⟩:=eb.cells2
   go_wp2_with fail
   refine Ae 15 [23,24,25,26,27,28,29,30,31,32,33,34,35,36,37] [[],[],[],[1,2],[1,2,3],[1,2,3,4],[0,1,2,3,4,5],[],[],[],[8,9],[8,9,10],[8,9,10,11],[0,1,2,3,4,5,6,7,8,9,10,11,12],[0,1,2,3,4,5,6,7,8,9,10,11,12,13],[0,1,2,3,4,5,6,7,8,9,10,11,12,13,14]] [5,4,6] [_,_,_] [(kv ?_),(kv ?_),(kv ?_),(kv ?_),(kv ?_),(kv ?_),(fun γ=>γ 6),(kv ?_),(kv ?_),(kv ?_),(kv ?_),(kv ?_),(kv ?_),(fun γ=>γ 13),(fun γ=>γ 14)] (fun γ w'=>[True,True,True,True,True,True,AC w' (γ 6) ((L:Int)*(D:Int)),True,True,True,True,True,True,AC w' (γ 13) (Nat.gcd L D:Nat),AC w' (γ 14) (dl (k+1) F:Nat)]) Bd Ah Ah Bb Ah Bc Bg ?hstep1 ?_
   case hstep1 =>
    iterate 15 refine⟨?_,?_⟩
    trivial
    iterate 6 focus
     intro γ w' he hf;clear hf;refine⟨by trivial,?_⟩;intro R hR;have hc:=he.cells;have cq0:=he.cell q0;have cq1:=he.cell q1;have cq2:=he.cell q2;have cq3:=he.cell q3;have cq4:=he.cell r0;have cq5:=he.cell r1;go_simp;(try go_ints);(try(rw[if_neg Aa]));(try(rw[if_pos Aa]));(try go_simp);(try go_ints)
     refine hR _ _ (Ext.refl _) ?_ trivial;rfl
    ·intro γ w' he hf;clear hf;refine⟨trivial,?_⟩;intro R hR
     go_simp;exact AX (IJ _ _ (L:Int) (D:Int) w' ((Hb.out.kd he.kd).has (by have:=HG.out.2.2.1;omega)) (Hq.out.kd he.kd) (by have:=HG.out.2.2.1;omega) (by have:=HG.out.2.2.2.1;omega)) hR
    iterate 6 focus
     intro γ w' he hf;clear hf;refine⟨by trivial,?_⟩;intro R hR;have hc:=he.cells;have cq0:=he.cell q0;have cq1:=he.cell q1;have cq2:=he.cell q2;have cq3:=he.cell q3;have cq4:=he.cell r0;have cq5:=he.cell r1;go_simp;(try go_ints);(try(rw[if_neg Aa]));(try(rw[if_pos Aa]));(try go_simp);(try go_ints)
     refine hR _ _ (Ext.refl _) ?_ trivial;rfl
    ·intro γ w' he hf;clear hf;refine⟨trivial,?_⟩;intro R hR
     go_simp;exact AX (F:=fun r w''=>AC w'' (r) (Nat.gcd L D:Nat)) (Ad.imp (VF _ _ (L:Int) (D:Int) w' ((Hb.out.kd he.kd).has (by have:=HG.out.2.2.1;omega)) (Hq.out.kd he.kd) (by have:=HG.out.2.2.1;omega) (by have:=HG.out.2.2.2.1;omega)) fun _ _ h=>AC.cast h (congrArg _ HG.out.1)) hR
    ·intro γ w' he hf;have f6:AC w' (γ 6) ((L:Int)*(D:Int)):=hf 6 Ab;have f13:AC w' (γ 13) (Nat.gcd L D:Nat):=hf 13 Ab;clear hf;refine⟨trivial,?_⟩;intro R hR
     go_simp;exact AX (F:=fun r w''=>AC w'' (r) (dl (k+1) F:Nat)) (Ad.imp (Gx _ _ ((L:Int)*(D:Int)) (Nat.gcd L D:Nat) w' (f6.has (by have:=HG.out.2.2.2.2.2.1;omega)) (f13.has (by have:=HG.out.2.2.2.2.1;omega)) HG.out.2.1 (by have:=HG.out.2.2.2.2.2.1;omega) (by have:=HG.out.2.2.2.2.1;omega)) fun _ _ h=>AC.cast h HG.out.2.2.2.2.2.2) hR
   intro γ w8 hx8 hF;have p6:AC w8 (γ 6) ((L:Int)*(D:Int)):=Au.get hF 6 Ab;have p13:AC w8 (γ 13) (Nat.gcd L D:Nat):=Au.get hF 13 Ab;have p14:AC w8 (γ 14) (dl (k+1) F:Nat):=Au.get hF 14 Ab;clear hF;simp only[AZ,Nat.reduceAdd];generalize γ 6=g6 at *;generalize γ 13=g13 at *;generalize γ 14=g14 at *;clear γ;obtain⟨b8,A8,n8,c8,rfl⟩:=p14.cells;replace ea:=ea.ext hx8;replace eb:=eb.ext hx8;replace hx2:=hx2.trans hx8
   clear q0 q1 q2 q3 r0 r1 p6 p13 hx8 Hb Hq;obtain⟨ceb0,ceb1⟩:=eb.cells2;have feb:=eb.frozen;go_wp2;obtain⟨W5,eW,eb',U⟩:=eb.put2 (.bool b8) (.slice A8 n8 c8) rfl rfl;rw[←eW];clear eW eb;replace p14:=p14.kd U.kd;replace ea:=ea.upd U Ai;replace hx2:=U.from_ hx2 Ai;have eb:=eb';clear U eb'
   go_roundw
   case rel=>exact⟨k+1,Aa,by go_num,ea,Bh.mk eb p14,hx2⟩
   case measure=>simp[intOf]<;>omega
  ·obtain rfl:n=k:=by omega
   have hgbl:=eb.lt;have hb0:=Hb.out;go_wp2
   go_loopw [7,8] (fun zv iv wr=>∃ k:Nat,k≤n∧iv = .int .i64 k∧D7 (gb+1) 26 wr zv (Df k (Cv n F))∧Be wr w.heap.size 28 #[.bool false,.slice none 0 0,.bool false,.slice none 0 0]∧Be wr gb 26 #[.bool b,.slice B bn bc]∧AC wr (.agg #[.bool b,.slice B bn bc]) (dl n F:Nat)∧Ext w1 wr) (fun _ iv _=>n - (intOf iv).toNat)
   case atStart=>exact⟨0,Nat.zero_le _,rfl,BD.nil _ _ _ _ _,ea,eb,hb0,hx2⟩
   case round =>
    clear ea eb hx2 hgbl hb0 Hb;obtain⟨k,hk,rfl,hown,ea,eb,hb,hx2⟩:=hrel;have Hb:=Lib.hid hb;clear hb;have hgbl:=eb.lt;by_cases hkn:k < n
    ·have hkl1:k < l1.length:=by have:=HA.out.2.1;omega
     obtain⟨g,o,b1,B1,n1,d1,b2,B2,n2,d2,rfl,_,q0,q1,q2,q3,hq⟩:=HA.out.1.at_ (j:=k) hkl1;rw[←DT,HA.out.2.2]at hq;replace q0:=hx2.cell q0;replace q1:=hx2.cell q1;replace q2:=hx2.cell q2;replace q3:=hx2.cell q3;have hqs:=HX.out.2.2.2.1 k;have hqd:=(hq.ext hx2).dens (by have:=HX.out.2.2.2.2.1;omega);have hdk:=HX.out.2.2.2.2.2.2.1 n (Nat.le_refl _);obtain⟨L,hL⟩:∃ L,L=dl n F:=⟨_,rfl⟩
     obtain⟨D,hD⟩:∃ D,D=(F k).den:=⟨_,rfl⟩
     have hDn:(D:Int)≠0:=by have:=(F k).den_pos;omega
     have hDd:(D:Int)∣(L:Int):=by rw[hD,hL];exact Int.natCast_dvd_natCast.2 (Oi F n k hkn)
     have hval:(F k).num*((L:Int) / (D:Int))=(Cv n F k).num:=by rw[TW HX.out.2.2.2.2.2.1,hL,hD]
     obtain⟨X,hX⟩:∃ X:Int,X=(L:Int) / (D:Int):=⟨_,rfl⟩
     rw[←hX]at hval;have hLs:sz ((L:Nat):Int).natAbs≤4294967296:=by rw[Int.natAbs_natCast,hL];omega
     have hDs:sz ((D:Nat):Int).natAbs≤1000000:=by
      have h2:=EX (F k);rw[←hD]at h2;have:=HX.out.2.2.2.2.1;omega
     have hNs:sz (F k).num.natAbs≤1000000:=by
      have h2:=GN (F k);have:=HX.out.2.2.2.2.1;omega
     have hXs:sz X.natAbs≤4294967296:=by
      have h1:=JZ hDd;rw[←hX]at h1;omega
     rw[←hL]at Hb;rw[←hD]at hqd;have HG:=Lib.hid (And.intro hX (And.intro hDn (And.intro hDs (And.intro hval (And.intro hLs (And.intro hXs (And.intro hL hNs)))))));have Hq:=Lib.hid hqd;have Hown:=Lib.hid hown;clear hq hqs hqd hdk hDn hDd hval hX hL hD hLs hXs hDs hNs hown
     go_wp2_with fail
     obtain⟨ceb0,ceb1⟩:=eb.cells2;have feb:=eb.frozen;refine Ae 15 [44,45,46,47,48,49,50,51,52,53,54,55,56,57,58] [[],[],[],[1,2],[1,2,3],[1,2,3,4],[],[],[],[7,8],[7,8,9],[7,8,9,10],[6,7,8,9,10,11],[1,2,3,4,5,6,7,8,9,10,11,12],[1,2,3,4,5,6,7,8,9,10,11,12,13],[0,1,2,3,4,5,6,7,8,9,10,11,12,13,14],[0,1,2,3,4,5,6,7,8,9,10,11,12,13,14,15]] [7,4,8,5] [_,_,_,_] [(kv ?_),(kv ?_),(kv ?_),(kv ?_),(kv ?_),(kv ?_),(kv ?_),(kv ?_),(kv ?_),(kv ?_),(kv ?_),(kv ?_),(fun γ=>γ 12),(fun γ=>γ 13),(fun γ=>γ 14)] (fun γ w'=>[True,True,True,True,True,True,True,True,True,True,True,True,AC w' (γ 12) X,AC w' (γ 13) (Cv n F k).num,EO w' (γ 14) (wr.heap.size) ((Cv n F k).num) 26]) Bd Ah Ah Bb Ah Bc Bg ?hstep2 ?_
     case hstep2 =>
      iterate 15 refine⟨?_,?_⟩
      trivial
      iterate 12 focus
       intro γ w' he hf;clear hf;refine⟨by trivial,?_⟩;intro R hR;have hc:=he.cells;have cq0:=he.cell q0;have cq1:=he.cell q1;have cq2:=he.cell q2;have cq3:=he.cell q3;have cq4:=he.cell ceb0;have cq5:=he.cell ceb1;go_simp;(try go_ints);(try(rw[if_neg Aa]));(try(rw[if_pos Aa]));(try go_simp);(try go_ints)
       refine hR _ _ (Ext.refl _) ?_ trivial;rfl
      ·intro γ w' he hf;clear hf;refine⟨trivial,?_⟩;intro R hR
       go_simp;exact AX (F:=fun r w''=>AC w'' (r) X) (Ad.imp (Gx _ _ (L:Int) (D:Int) w' ((Hb.out.kd he.kd).has (by have:=HG.out.2.2.2.2.1;omega)) (Hq.out.1.kd he.kd) HG.out.2.1 (by have:=HG.out.2.2.2.2.1;omega) (by have:=HG.out.2.2.1;omega)) fun _ _ h=>AC.cast h HG.out.1.symm) hR
      ·intro γ w' he hf;have f12:AC w' (γ 12) X:=hf 12 Ab;clear hf;refine⟨trivial,?_⟩;intro R hR
       go_simp;exact AX (F:=fun r w''=>AC w'' (r) (Cv n F k).num) (Ad.imp (IJ _ _ (F k).num X w' (Hq.out.2.kd he.kd) (f12.has (by have:=HG.out.2.2.2.2.2.1;omega)) (by have:=HG.out.2.2.2.2.2.2.2;omega) (by have:=HG.out.2.2.2.2.2.1;omega)) fun _ _ h=>AC.cast h HG.out.2.2.2.1) hR
      ·intro γ w' he hf;have f13:AC w' (γ 13) (Cv n F k).num:=hf 13 Ab;clear hf;refine⟨trivial,?_⟩;intro R hR
       refine AC.el f13 fun b5 A5 n5 c5 e13 f13'=>?_;clear f13;go_simp;exact hR _ _ ((Ext.refl _).alloc _) rfl (EO.mk f13' (Nat.le_trans Ac he.size) _)
     intro γ w8 hx8 hF;have p12:AC w8 (γ 12) X:=Au.get hF 12 Ab;have p13:AC w8 (γ 13) (Cv n F k).num:=Au.get hF 13 Ab;have p14:EO w8 (γ 14) (wr.heap.size) ((Cv n F k).num) 26:=Au.get hF 14 Ab;clear hF;simp only[AZ,Nat.reduceAdd];generalize γ 12=g12 at *;generalize γ 13=g13 at *;generalize γ 14=g14 at *;clear γ;have hs8:=hx8.size;refine AB rfl _ _ 22 rfl u7 g14 rfl rfl (IZ w8 _ _ (gb+1) _ _ _ _ (Hown.out.ext hx8) p14 (by rw[AP];omega) Aa) ?_
     rintro v' w5 ⟨hown,U⟩;have hb2:=BD.blk_ge (Hown.out.ext hx8);replace ea:=(ea.ext hx8).upd U (fun hm=>by have:=(hb2 _ hm).1;omega);replace eb:=(eb.ext hx8).upd U (fun hm=>by have:=(hb2 _ hm).1;omega);have Hb':=Lib.hid ((Hb.out.kd hx8.kd).kd U.kd);replace hx2:=U.from_ (hx2.trans hx8) (fun g hg=>by have:=(hb2 _ hg).1;omega);have Hown':=Lib.hid hown;clear hown U hb2 hx8 Hb Hown p12 p13 p14 q0 q1 q2 q3 Hq
     go_wp2
     go_roundw
     case rel=>exact⟨k+1,Aa,by go_num,by rw[FD];exact Hown'.out,ea,eb,by rw[←HG.out.2.2.2.2.2.2.1];exact Hb'.out,hx2⟩
     case measure=>simp[intOf]<;>omega
    ·obtain rfl:n=k:=by omega
     obtain⟨A2,c2,hv2⟩:=(D7.row hown).len;rw[AP]at hv2;have hz2:=RV hown (fun i=>by have:=HX.out.2.2.2.2.2.2.2 i;omega);rw[hv2]at hz2;have hzn:=DZ HX.out.2.2.2.2.2.1;have hfn:=De (n:=n) HX.out.2.1;have hczl:=EP hzn (show Bq n (Cv n F)from(HX.out.2.2.2.2.2.1).psc _);have hppz:=I8 hzn hfn;have hppq:=fun i=>Fj hzn hfn HX.out.2.2.2.2.2.2.2 i;have hppl:pl (pp (Cv n F))≤1000:=by
      rw[Ep hzn hfn,KY HX.out.2.1,←HX.out.1];exact hn3
     have Hz:=Lib.hid (And.intro hz2 (And.intro hczl (And.intro hppz (And.intro hppq hppl))));clear hz2 hczl hown hzn hfn hppz hppq hppl;subst hv2
     go_wp2_with fail
     refine Calls.mono (Ox _ _ _ Hz.out.1 (by rw[Hz.out.2.1];intro i;have:=HX.out.2.2.2.2.2.2.2 i;omega) (by rw[AP];omega)) ?_;rintro e w2 ⟨r2,rfl,hr2,hx3⟩;rw[Hz.out.2.1]at hr2;replace ea:=ea.ext hx3;have hz4:=hx2.size;replace hx2:=hx2.trans hx3;have Hp:=Lib.hid hr2;obtain⟨A3,c3,rfl,k3,k4⟩:=hr2.shape;clear hr2 hx3 Hb eb
     go_wp2_with fail
     refine Calls.mono (YE _ lh _ (HH.out.1.ext hx2) (by have:=HH.out.2.1;omega)) ?_;rintro e w3 ⟨r3,rfl,hr3,hx3⟩;rw[HH.out.2.2]at hr3;have hldq:qsz (ld F)≤1000000:=by have:=HX.out.2.2.2.1 (pl F - 1);have:=HX.out.2.2.2.2.1;show qsz (F (pl F - 1))≤_;omega
     have Hr3:=Lib.hid (hr3.has (by omega:qsz (ld F)≤274877906944));clear hr3 hldq;have Hp':=Lib.hid (Hp.out.ext hx3);replace ea:=ea.ext hx3;replace hx2:=hx2.trans hx3;clear hx3 Hp;obtain⟨lp,hp1,hp2,-,hp4⟩:=Hp'.out.hz (fun i=>by have:=Hz.out.2.2.2.1 i;omega);have HP:=Lib.hid (And.intro hp1 (And.intro hp2 hp4));clear hp1 hp2 hp4
     go_wp2_with fail
     refine Calls.mono (Ol _ lp _ HP.out.1 (by have:=HP.out.2.1;have:=Hz.out.2.2.2.2;omega)) ?_;rintro e w4 ⟨r4,rfl,hr4,hx4⟩;rw[HP.out.2.2]at hr4;have hlq:sz (ld (pp (Cv n F))).num.natAbs≤1099511627776:=by
      have:=Hz.out.2.2.2.1 (pl (pp (Cv n F)) - 1);unfold qsz at this;show sz (pp (Cv n F) (pl (pp (Cv n F)) - 1)).num.natAbs≤_;omega
     have Hr4:=Lib.hid (hr4.has hlq);clear hr4 hlq;have Hp:=Lib.hid (Hp'.out.ext hx4);have Hr3':=Lib.hid (Hr3.out.ext hx4);replace ea:=ea.ext hx4;replace hx2:=hx2.trans hx4;clear hx4 Hp' Hr3 HP
     go_wp2_with fail
     refine Calls.mono (MV _ _ _ Hr4.out) ?_;rintro e w5 ⟨r5,rfl,hr5,hx5⟩;rw[show(((ld (pp (Cv n F))).num:Int):Rat)=ld (pp (Cv n F))from(Hz.out.2.2.1.num _).symm]at hr5;have hlq:qsz (ld (pp (Cv n F)))≤274877906944:=by
      have:=Hz.out.2.2.2.1 (pl (pp (Cv n F)) - 1);show qsz (pp (Cv n F) (pl (pp (Cv n F)) - 1))≤_;omega
     have Hr5:=Lib.hid (hr5.has hlq);clear hr5 hlq;have Hp':=Lib.hid (Hp.out.ext hx5);have Hr3:=Lib.hid (Hr3'.out.ext hx5);replace ea:=ea.ext hx5;replace hx2:=hx2.trans hx5;clear hx5 Hp Hr3' Hr4
     go_wp2_with fail
     refine Calls.mono (QW _ _ _ _ _ Hr3.out Hr5.out) ?_;rintro e w6 ⟨r6,rfl,hr6,hx6⟩;obtain⟨b8,A8,n8,c8,b9,A9,n9,c9,rfl⟩:=hr6.cells;have hp:=Hp'.out.ext hx6;replace ea:=ea.ext hx6;have hxx:=hx.trans (hx2.trans hx6);clear hx6 Hp' Hr3 Hr5 hx2;obtain⟨cea0,cea1,cea2,cea3⟩:=ea.cells4;have fea:=ea.frozen;go_wp2;obtain⟨W3,eW,ea',U⟩:=ea.put4 (.bool b8) (.slice A8 n8 c8) (.bool b9) (.slice A9 n9 c9) rfl rfl rfl rfl
     rw[←eW];clear eW ea;replace hr6:=hr6.kd U.kd;replace hp:=hp.upd U Ai;replace hxx:=U.from_ hxx Ai;have ea:=ea';clear U ea';have HP:=Lib.hid (hp.base_le (Nat.zero_le _));clear hp;clear cea0 cea1 cea2 cea3;obtain⟨cea0,cea1,cea2,cea3⟩:=ea.cells4;have fea:=ea.frozen;refine bodyPost_ret (v := .tuple #[_,.agg #[.bool b8,.slice A8 n8 c8,.bool b9,.slice A9 n9 c9]]) (by simp[results,Tryz.results72,go_sem,cea0,cea1,cea2,cea3];rfl) rfl ?_
     exact Ad.mk ⟨_,_,rfl,HP.out,hr6⟩ hxx
set_option maxHeartbeats 1000000 in
theorem eZ(v:Value)(l:List Int)(w:World)(hv:EI 0 w v l)(hn:l.length≤1099511627776):Calls Tryz.prog 115 #[v] w (Ad w fun r w'=>CQ w.heap.size w' r (cz l)):=by
 obtain⟨A,c,rfl,hl,hc,hA⟩:=hv;obtain⟨W0,hmk,ea,hx⟩:=KJ l.length (l.length:Int) rfl hn w;have HA:Hid (I1 0 w A l):=Lib.hid hA;clear hA;have hzl:=DC l;have Hzl:=Lib.hid hzl;clear hzl
 go_enter Tryz.func115,Tryz.ntmps115
 go_wp2
 go_loopw [11] (fun iv wr=>∃ (k:Nat) (la:List (Option Rat)),k≤l.length∧iv = .int .i64 k∧Ck wr w.heap.size 28 la∧la.length=l.length∧la=((zq l).take k).map some ++ List.replicate (l.length - k) none∧Ext w wr) (fun iv _=>l.length - (intOf iv).toNat)
 case atStart=>exact⟨0,_,Nat.zero_le _,rfl,ea,Ac,Ac,hx⟩
 case round =>
  obtain⟨k,la,hk,rfl,ea,hlen,hla,hx⟩:=hrel;have Hla:=Lib.hid hla;clear hla;have Hlen:=Lib.hid hlen;clear hlen;by_cases hkl:k < l.length
  ·obtain⟨g,o,b,A1,n,c1,rfl,_,q0,q1,hq⟩:=HA.out.at_ (j:=k) hkl
   replace q0:=hx.cell q0;replace q1:=hx.cell q1;have Hq:=Lib.hid hq;clear hq
   go_wp2_with fail
   refine Calls.mono (GX _ _ _ (Hq.out.kd (hx.alloc _).kd)) ?_;rintro e w2 ⟨r,rfl,hr,hx2⟩;replace ea:=ea.ext hx2.a1;replace hx:=hx.trans hx2.a1;clear hx2 q0 q1;obtain⟨b5,A5,n5,c5,b6,A6,n6,c6,rfl⟩:=hr.cells;have hkla:k < la.length:=by have:=Hlen.out;omega
   obtain⟨_,_,_,_,_,_,_,_,ca0,ca1,ca2,ca3,-⟩:=ea.at_ (j:=k) (by first | omega | (simp;omega));have fa0:=ea.frozen (k*4);have fa1:=ea.frozen (k*4+1);have fa2:=ea.frozen (k*4+2);have fa3:=ea.frozen (k*4+3);go_wp2;obtain⟨W3,eW,ea',U⟩:=ea.put (k:=k) (by first | omega | (simp;omega)) hr;rw[←eW];clear eW ea;replace hx:=U.from_ hx Ai;have ea:=ea';clear U ea'
   go_roundw
   case rel=>exact⟨k+1,_,Aa,by go_num,ea,by simpa using Hlen.out,Q0 Hla.out hkl Hzl.out (Ju hkl),hx⟩
   case measure=>simp[intOf];omega
  ·obtain rfl:k=l.length:=by omega
   replace ea:Ck wr w.heap.size 28 ((zq l).map some):=by
    have:=Hla.out;rw[Nat.sub_self,List.replicate_zero,List.append_nil,List.take_of_length_le (by rw[Hzl.out];exact Nat.le_refl _)]at this;rw[←this];exact ea
   have hrow:=ea.row (m:=zq l) rfl (Nat.le_refl _);have hT:=GR w.heap.size (some ⟨w.heap.size,0,none⟩) l.length (zq l) wr (by rw[Hzl.out];exact Nat.le_refl _) Aa hrow;rw[Hzl.out]at hT;have Hrow:=Lib.hid hrow;clear hrow
   go_wp2_with fail
   refine Calls.mono hT ?_;rintro e w2 ⟨rfl,rfl⟩;go_wp2
   go_ret
   exact Ad.mk (CQ.of_trim (OQ.trim Hrow.out (by rw[Hzl.out];exact Nat.le_refl _)) rfl) hx
set_option maxHeartbeats 1000000 in
theorem eO(v:Value)(l:List Int)(w:World)(hv:EI 0 w v l)(hs:∀ i,qsz (cz l i)≤274877906944)(hn:l.length≤274877906944):Calls Tryz.prog 71 #[v] w (Ad w fun r w'=>CQ w.heap.size w' r (cz l)):=by
 obtain⟨A,c,rfl,hl,hc,hA⟩:=hv;have HA:Hid (I1 0 w A l):=Lib.hid hA;clear hA;have HS:=Lib.hid hs;clear hs
 go_enter Tryz.func71,Tryz.ntmps71
 go_wp2
 go_loopw [3,4] (fun ov iv wr=>∃ (k:Nat),k≤l.length∧iv = .int .i64 k∧DX w.heap.size 28 wr ov ((List.range k).map (cz l))∧Ext w wr) (fun _ iv _=>l.length - (intOf iv).toNat)
 case atStart=>exact⟨0,Nat.zero_le _,rfl,BD.nil _ _ _ _ _,Ext.refl _⟩
 case round =>
  obtain⟨k,hk,rfl,hown,hx⟩:=hrel;by_cases hkl:k < l.length
  ·obtain⟨g,o,b,A1,n,c1,rfl,_,q0,q1,hq⟩:=HA.out.at_ (j:=k) hkl
   replace q0:=hx.cell q0;replace q1:=hx.cell q1;have Hq:=Lib.hid hq;clear hq
   go_wp2_with fail
   refine Calls.mono (MV _ _ _ (Hq.out.kd hx.kd)) ?_;rintro e w2 ⟨r,rfl,hr,hx2⟩;rw[←Cr hkl]at hr;obtain⟨b5,A5,n5,c5,b6,A6,n6,c6,rfl⟩:=hr.cells;have Hr:=Lib.hid hr;clear hr;replace hown:=hown.ext hx2;replace hx:=hx.trans hx2;have Hown:=Lib.hid hown;clear hown;have hsz:=hx.size;clear hx2 q0 q1
   go_wp2_with (at_builtin;refine AB rfl _ _ 43 rfl u3 (.slice (some ⟨w2.heap.size,0,none⟩) 1 1) rfl rfl (NW w2 w.heap.size _ _ _ _ _ Hown.out Hr.out (by first | (rw[List.length_map,List.length_range];omega) | omega) hsz rfl) ?_)
   first | intro v' w5 hown U | rintro v' w5 ⟨hown,U⟩
   replace hx:=(Hown.out.ext ((Ext.refl w2).alloc _)).from_ U (hx.alloc _) (Nat.le_refl _);have Hown':=Lib.hid hown;clear hown U;go_wp2
   go_roundw
   case rel=>exact⟨k+1,Aa,by go_num,by rw[Ih];exact Hown'.out,hx⟩
   case measure=>simp[intOf]<;>omega
  ·obtain rfl:k=l.length:=by omega
   have hz:Bq l.length (cz l):=(Cb l)
   have hco:=J4 hz;have hh:=(DX.row hown).has (fun q hq=>by obtain⟨i,hi,rfl⟩:=List.mem_map.1 hq;have hi:=List.mem_range.1 hi;exact(HS.out i));have hln:((List.range l.length).map (cz l)).length≤1099511627776:=by rw[List.length_map,List.length_range];omega
   obtain⟨A2,c2,e2⟩:=hh.len;rw[Dx]at e2;subst e2;have HH:=Lib.hid (And.intro hh hco);clear hh hco hz hown
   go_wp2_with fail
   refine Calls.mono (Fa _ _ _ HH.out.1 hln) ?_;rintro e w9 ⟨r,rfl,hr,hx9⟩;have hsz:=(hx).size;have Hr:=Lib.hid hr;clear hr hln;go_wp2
   go_ret
   exact Ad.mk (by rw[←HH.out.2];exact Hr.out.base_le Aa) ((hx).trans hx9)
set_option maxHeartbeats 1000000 in
theorem RU(v u:Value)(l m:List Int)(b1 b2:Nat)(w:World)(hv:Ll b1 w v l)(hu:Ll b2 w u m)(hn:l.length≤1099511627776):Calls Tryz.prog 31 #[v,u] w (Ad w fun r _=>r = .bool (decide (l=m))):=by
 have HV:=Lib.hid hv;have HU:=Lib.hid hu;obtain⟨A,c,rfl⟩:=Cz.len hv;obtain⟨E,d,rfl⟩:=Cz.len hu;clear hv hu;obtain⟨D,hD⟩:∃ D,D=decide (l=m):=⟨_,rfl⟩
 rw[←hD];have HD:=Lib.hid hD;clear hD;by_cases hlen:l.length=m.length
 ·have hb:((l.length:Int) != (m.length:Int))=false:=by simp[hlen]
  have Hlen:=Lib.hid hlen;clear hlen
  go_enter Tryz.func31,Tryz.ntmps31
  go_wp2
  go_loopw [5] (fun iv wr=>∃ (k:Nat),k≤l.length∧iv = .int .i64 k∧(∀ j (h:j < l.length) (h':j < m.length),j < k→l[j]=m[j])∧Ext w wr) (fun iv _=>l.length - (intOf iv).toNat)
  case atStart=>exact⟨0,Nat.zero_le _,rfl,fun j h h' h0=>Aa,Ext.refl _⟩
  case round =>
   obtain⟨k,hk,rfl,heq,hx⟩:=hrel;have Heq:=Lib.hid heq;clear heq;by_cases hkl:k < l.length
   ·have hkm:k < m.length:=by have:=Hlen.out;omega
    obtain⟨g,o,b,A1,n,c1,rfl,_,q0,q1,hq⟩:=HV.out.at_ (j:=k) hkl;obtain⟨g',o',bb,B1,m1,d1,rfl,_,r0,r1,hq'⟩:=HU.out.at_ (j:=k) hkm;replace q0:=hx.cell q0;replace q1:=hx.cell q1;replace r0:=hx.cell r0;replace r1:=hx.cell r1;have Hq:=Lib.hid (And.intro (hq.kd hx.kd) (hq'.kd hx.kd));clear hq hq'
    go_wp2_with fail
    refine Ae 8 [17,18,19,20,21,22,23,24] [[],[],[0,1],[0,1,2],[],[],[4,5],[4,5,6],[0,1,2,3,4,5,6,7],[0,1,2,3,4,5,6,7,8]] [0,5,1] [_,_,_] [(kv ?_),(kv ?_),(kv ?_),(kv ?_),(kv ?_),(kv ?_),(kv ?_),(kv ?_)] (fun γ w'=>[True,True,True,True,True,True,True,True]) Bd Ah Ah Bb Ah Bc Bg ?hstep1 ?_
    case hstep1 =>
     iterate 8 refine⟨?_,?_⟩
     trivial
     iterate 8 focus
      intro γ w' he hf;clear hf;refine⟨by trivial,?_⟩;intro R hR;have hc:=he.cells;have cq0:=he.cell q0;have cq1:=he.cell q1;have cq2:=he.cell r0;have cq3:=he.cell r1;go_simp;(try go_ints);(try(rw[if_neg Aa]));(try(rw[if_pos Aa]));(try go_simp);(try go_ints)
      refine hR _ _ (Ext.refl _) ?_ trivial;rfl
    intro γ w1 hx1 hF;clear hF;simp only[AZ,Nat.reduceAdd];clear γ
    go_wp2_with fail
    refine Calls.mono (O0 _ _ l[k] m[k] _ (Hq.out.1.kd hx1.kd) (Hq.out.2.kd hx1.kd)) ?_;rintro e w2 ⟨r,rfl,rfl,hx2⟩;replace hx:=(hx.trans hx1).trans hx2;clear q0 q1 r0 r1 hx1 hx2 Hq;by_cases he:l[k]=m[k]
    ·have hb2:decide (l[k]=m[k])=true:=decide_eq_true he
     have He:=Lib.hid he;clear he;go_wp2
     go_roundw
     case rel=>exact⟨k+1,Aa,by go_num,fun j h h' h0=>by
      rcases Nat.lt_or_ge j k with h1 | h1
      ·exact Heq.out j h h' h1
      ·obtain rfl:j=k:=by omega
       exact He.out,hx⟩
     case measure=>simp[intOf]<;>omega
    ·have hb2:decide (l[k]=m[k])=false:=decide_eq_false he
     have He:=Lib.hid he;clear he;have hd:D=false:=by
      rw[HD.out];refine decide_eq_false fun e=>He.out ?_;subst e;rfl
     have HD':=Lib.hid hd;clear hd;go_wp2
     go_ret
     rw[HD'.out];exact Ad.mk rfl hx
   ·obtain rfl:k=l.length:=by omega
    have hd:D=true:=by
     rw[HD.out];refine decide_eq_true (List.ext_getElem Hlen.out fun i h h'=>Heq.out i h h' h)
    have HD':=Lib.hid hd;clear HV HU hd;go_wp2
    go_ret
    rw[HD'.out];exact Ad.mk rfl hx
 ·have hb:((l.length:Int) != (m.length:Int))=true:=by simp;omega
  have hd:D=false:=by rw[HD.out];exact decide_eq_false fun e=>hlen (by rw[e])
  have HD':=Lib.hid hd;clear HV HU hd hlen
  go_enter Tryz.func31,Tryz.ntmps31
  go_wp2
  go_ret
  rw[HD'.out];exact Ad.mk rfl (Ext.refl _)
theorem Sv(v u:Value)(F G:Nat→Rat)(b1 b2:Nat)(w:World)(hv:AQ b1 w v F)(hu:AQ b2 w u G)(hn:pl F≤1099511627776):Calls Tryz.prog 31 #[v,u] w (Ad w fun r _=>∃ b:Bool,r = .bool b∧(b=true↔F=G)):=by
 obtain⟨l,h1,h2,h3,rfl⟩:=hv.zs;obtain⟨m,k1,k2,k3,rfl⟩:=hu.zs;refine Ad.imp (RU v u l m b1 b2 w h1 k1 Aa) fun r _ h=>⟨_,h,?_⟩
 rw[decide_eq_true_iff];exact⟨fun e=>by rw[e],fun e=>Ya h3 k3 e⟩
theorem SK(v u:Value)(F:Nat→Rat)(b1 b2:Nat)(w:World)(hv:AQ b1 w v F)(hu:AQ b2 w u F)(hn:pl F≤1099511627776):Calls Tryz.prog 31 #[v,u] w (Ad w fun r _=>r = .bool true):=
 Ad.imp (Sv v u F F b1 b2 w hv hu hn) fun r _ ⟨b,h1,h2⟩=>by rw[h1,h2.2 rfl]
end Go.Proofs.YtmhgnigpmompmaaGreat
namespace Go.Hp
theorem AQ.cast{b:Nat}{w:World}{v:Value}{F G:Nat→Rat}(h:AQ b w v F)(e:F=G):AQ b w v G:=e▸h
theorem CQ.cast{b:Nat}{w:World}{v:Value}{F G:Nat→Rat}(h:CQ b w v F)(e:F=G):CQ b w v G:=e▸h
theorem U4{n:Nat}{F:Nat→Rat}{s:Nat}(hs:Bq n F)(hq:∀ i,qsz (F i)≤s):qsz (Kv n F)≤s+(1+n*s+1+s):=by
 unfold Kv;have h1:=F8 (ld F) (ld (pp (Cv n F)));have h2:=hq (pl F - 1);have h3:=Fj (DZ hs) (De (n:=n) ⟨n,hs⟩) (fun i=>JQ (n:=n) hq i) (pl (pp (Cv n F)) - 1);have e1:ld F=F (pl F - 1):=rfl;have e2:ld (pp (Cv n F))=pp (Cv n F) (pl (pp (Cv n F)) - 1):=rfl;rw[e1,e2]at h1;show qsz (F (pl F - 1) / pp (Cv n F) (pl (pp (Cv n F)) - 1))≤_;omega
end Go.Hp
namespace Go.Proofs.YtmhgnigpmompmaaGreat
open Go.RowKit Go.Hp
theorem Vs(v:Value)(l:List Rat)(s:Nat)(w:World)(hv:Kz 0 w v l)(hn:l.length≤1000)(hs:∀ i,qsz (co l i)≤s)(hs0:s≤1000000) :
  Calls Tryz.prog 116 #[v] w (Ad w fun r w'=>Lm (pl (co l)) (co l) r w'):=by
 by_cases h0:co l=pz
 ·have:=Rc v l w hv Aa h0
  rw[h0,BV];exact this
 ·exact Yh v l s w hv hn hs hs0 h0
theorem RB(v:Value)(l:List Rat)(s:Nat)(w:World)(hv:Kz 0 w v l)(hn:l.length≤1000)(hs:∀ i,qsz (co l i)≤s)(hs0:s≤1000000) :
  Calls Tryz.prog 72 #[v] w (Ad w fun r w'=>Lm (pl (co l)) (co l) r w'):=by
 by_cases h0:co l=pz
 ·have:=Qr v l w hv Aa h0
  rw[h0,BV];exact this
 ·exact XW v l s w hv hn hs hs0 h0
end Go.Proofs.YtmhgnigpmompmaaGreat
namespace Go.Hp
theorem Zq{F:Nat→Rat}{s:Nat}(z:ZI F)(h:∀ i,qsz (F i)≤s):CD s F:=by
 have h1:=CO (F 0);have h2:=h 0;refine⟨1,bp s - 1,⟨Aa,fun i=>⟨(F i).num,?_,?_⟩⟩,?_,?_⟩
 ·have e:((1:Nat):Rat)=1:=rfl
  rw[e,←z.num i];grind
 ·have h3:=Nat.le_trans (Fx (F i)) (h i)
  have h4:=Ew.1 h3;omega
 ·have:sz 1=1:=by decide
  omega
 ·have:0 < bp s:=by have:=Ew.1 (show sz 0≤s by have:sz 0=0:=Ab;omega);omega
  exact C8 Aa
end Go.Hp
namespace Go.Hp
open Go.RowKit
theorem Ib.one{base:Nat}{t:TypeId}{w:World}{A:Option Addr}{n c:Nat}{F:Nat→Rat}(hu:AQ 0 w (.slice A n c) F)(hb:base≤w.heap.size) :
  Ib base t (w.alloc (.cells #[.slice A n c] t)) (.slice (some ⟨w.heap.size,0,none⟩) 1 1) [.slice A n c] [F]:=by
 have hB:=Be.new w t #[.slice A n c] (by simp[Ag]);refine⟨⟨[#[.slice A n c]],rfl,Ac,⟨Ac,.inr ⟨_,1,_,rfl,hb,hB,Nat.le_refl _,by simp[maxLen],Ac,Ac⟩⟩,fun j h h'=>?_⟩,rfl,Pj hB.1 (by simp[QZ]),fun i h h'=>?_⟩
 ·have:j=0:=by simp at h;omega
  subst this;exact⟨rfl,_,_,_,rfl⟩
 ·have:i=0:=by simp at h;omega
  subst this;exact hu.ext ((Ext.refl w).alloc _)
theorem ZA{A B:Nat→Rat}(fA:Af A)(fB:Af B)(h0:B≠pz):nx A B=psc (if 0 < Kv (pl (pr A B)) (pr A B)then -1 else 1) (pp (Cv (pl (pr A B)) (pr A B))):=by
 by_cases h:pr A B=pz
 ·rw[J7 h,h,Sz,OC,Gq,Fe]
 ·rw[TY h]
  have:=(Tz (AJ (Ex fA fB)) h).1;by_cases h1:0 < ld (pr A B)
  ·rw[if_pos h1,if_pos (this.2 h1)]
  ·rw[if_neg h1,if_neg (fun q=>h1 (this.1 q))]
theorem K8{q:Rat}:0 < q.num↔0 < q:=by
 have h1:=Rat.num_nonneg (q:=q);have h2:=Rat.num_eq_zero (q:=q);constructor
 ·intro h
  have:0≤q:=h1.1 Aa;have h3:q≠0:=fun e=>by have:=h2.2 e;omega
  grind
 ·intro h
  have:0≤q.num:=h1.2 Aj;have h3:q.num≠0:=fun e=>by have:=h2.1 e;grind
  omega
theorem Oq{q:Rat}(h:0 < q):KA q=1:=Int.sign_eq_one_of_pos (K8.2 h)
theorem XZ{q:Rat}(h:¬ 0 < q):KA q≤0:=by
 unfold KA;have h1:¬ 0 < q.num:=fun k=>h (K8.1 k);rcases Int.lt_trichotomy q.num 0 with a | a | a
 ·rw[Int.sign_eq_neg_one_of_neg a];omega
 ·rw[a];decide
 ·exact absurd a h1
theorem F5.clear{F0 G0 A B:Nat→Rat}{D S M:Nat}(h:F5 F0 G0 D S A B)(h0:B≠pz)(hM:(S+1)*2^D≤M):CD M A∧CD M B∧CD (M+(D+1)*(M+1)) (pr A B):=by
 obtain⟨fA,fB,zA,zB,hd,qA,qB⟩:=h.facts;have cA:=Zq zA fun i=>Nat.le_trans (qA i) hM;have cB:=Zq zB fun i=>Nat.le_trans (qB i) hM;have hp:=AY fB h0;refine⟨cA,cB,(CD.pr (n:=pl A+1 - pl B) ((AJ fA).mono Aa) fB h0 cA cB).mono ?_⟩;have:(pl A+1 - pl B)*(M+1)≤(D+1)*(M+1):=Nat.mul_le_mul_right _ Aa;omega
end Go.Hp
namespace Go.Proofs.YtmhgnigpmompmaaGreat
open Go.RowKit Go.Hp
theorem WV(v:Value)(F:Nat→Rat)(w:World)(hv:AQ 0 w v F)(hs:∀ i,qsz (F i)≤1099511627776)(hn:pl F≤1099511627776):Calls Tryz.prog 115 #[v] w (Ad w fun r w'=>CQ 0 w' r F):=by
 obtain⟨l,h1,h2,-,rfl⟩:=hv.hz hs;exact Ad.imp (eZ v l w h1 Aa) fun _ _ h=>h.base_le (Nat.zero_le _)
theorem V5(v u:Value)(F G:Nat→Rat)(s:Nat)(w:World)(hv:CQ 0 w v F)(hu:CQ 0 w u G)(h0:G≠pz)(hF:CD s F)(hG:CD s G)(hs:s≤1000000)(hn:pl F≤1000)(hm:pl G≤1000) :
  Calls Tryz.prog 114 #[v,u] w (Ad w fun r w'=>∃ a b,r = .tuple #[a,b,.int .i64 0]∧CQ 0 w' a (pq F G)∧CQ 0 w' b (pr F G)):=by
 obtain⟨l,h1,h2,-,rfl⟩:=hv.hs fun i=>by have:=hF.elem i;omega
 obtain⟨m,k1,k2,-,rfl⟩:=hu.hs fun i=>by have:=hG.elem i;omega
 have:(pl (co l)+2)*(s+1)≤1002*1000001:=Nat.mul_le_mul Aa Aa;exact Ad.imp (WB v u l m s s w h1 k1 h0 hF hG Aa Aa Aa) fun r w' ⟨a,b,e,h,k⟩=>⟨a,b,e,h.base_le (Nat.zero_le _),k.base_le (Nat.zero_le _)⟩
theorem VK(v:Value)(F:Nat→Rat)(s:Nat)(w:World)(hv:CQ 0 w v F)(hF:CD s F)(hs:s≤1000000)(hn:pl F≤1000) :
  Calls Tryz.prog 116 #[v] w (Ad w fun r w'=>Lm (pl F) F r w'):=by
 obtain⟨l,h1,h2,-,rfl⟩:=hv.hs fun i=>by have:=hF.elem i;omega
 exact Vs v l s w h1 Aa hF.elem hs
theorem NY(v:Value)(F:Nat→Rat)(w:World)(hv:AQ 0 w v F)(hs:∀ i,qsz (F i)≤274877906944)(hn:pl F≤274877906944)(zF:ZI F)(fF:Af F) :
  Calls Tryz.prog 113 #[v] w (Ad w fun r w'=>AQ 0 w' r (rd F)):=by
 have HP:=Lib.hid (IA v F w hv (fun i=>by have:=hs i;omega) Aa);have HS:=Lib.hid (And.intro (fun W u (hu:AQ 0 W u (pp F)) z (hz:Bj W z (-1))=>KZ u z (pp F) (-1) W hu (fun i=>by have:=Fj zF fF hs i;omega) hz (by rw[Ep zF fF];omega)) (PQ F));have HZ:=Lib.hid (show pl F=0→¬ ld F < 0 from fun h=>by rw[(BF fF).1 h];show ¬ (0:Rat) < 0;decide);obtain⟨A,c,l,rfl,k1,k2,hA,k3,k4,k5⟩:=hv.form;have HA:=Lib.hid (And.intro hA (And.intro k3 k5));clear hv hA k3 k4 k5 hs zF fF
 go_enter Tryz.func113,Tryz.ntmps113
 go_wp2_with fail
 refine Calls.mono HP.out ?_;rintro e w1 ⟨r1,rfl,hr1,hx1⟩;obtain⟨A1,c1,rfl,-⟩:=hr1.shape;have hr:=hr1.base_le (b:=0) (Nat.zero_le _);clear hr1;by_cases hp:0 < pl F
 ·obtain⟨g,o,b,A2,n,c2,rfl,_,q0,q1,hq⟩:=HA.out.1.at_ (j:=pl F - 1) (by have:=HA.out.2.1;omega)
  have hbb:=hq.two.2;have hld:ld F=(l[pl F - 1]'(by have:=HA.out.2.1;omega):Rat):=by rw[←Cr,HA.out.2.2];rfl
  have hrd:rd F=psc (if b=true then -1 else 1) (pp F):=by
   rw[HS.out.2,hld,hbb];by_cases hneg:l[pl F - 1]'(by have:=HA.out.2.1;omega) < 0
   ·rw[if_pos (by exact_mod_cast hneg),if_pos (by simpa using hneg)]
   ·rw[if_neg (fun h=>hneg (by exact_mod_cast h)),if_neg (by simpa using hneg)]
  replace q0:=hx1.cell q0;have Hrd:=Lib.hid hrd;have Hr:=Lib.hid hr;clear hrd hld hbb hq q1 hr;cases b with
  | true =>
   go_wp2_with fail
   refine Calls.mono (Ji (-1) _ Aa Aa) ?_;rintro e w2 ⟨r2,rfl,hr2,hx2⟩
   go_wp2_with fail
   refine Calls.mono (HS.out.1 _ _ (Hr.out.ext hx2) _ (hr2.has Ab)) ?_;rintro e w3 ⟨r3,rfl,hr3,hx3⟩;go_wp2
   go_ret
   exact Ad.mk (hr3.cast (by rw[Hrd.out];simp)) ((hx1.trans hx2).trans hx3)
  | false =>
   go_wp2
   go_ret
   exact Ad.mk (Hr.out.cast (by rw[Hrd.out];simp[Ca])) hx1
 ·have h0:pl F=0:=by omega
  have e:rd F=pp F:=by
   rw[HS.out.2,if_neg (HZ.out h0),Ca]
  have Hr:=Lib.hid (hr.cast e.symm);clear hr e;rw[h0];clear h0 hp;go_wp2
  go_ret
  exact Ad.mk Hr.out hx1
theorem bA:(Tryz.prog.info? 23).map (fun i=>(i.zero,i.size,i.bytes))=some (some (.slice none 0 0),1,24):=by kernel_rfl
theorem Uc(W:World)(v:Value)(base ty n c g:Nat)(A:Option Addr)(us:List Value)(l:List (Nat→Rat))(F:Nat→Rat)(h:Ib base 23 W v us l)(hu:AQ 0 W (.slice A n c) F)(hg:g=W.heap.size)(hn:l.length≤1000000)(hb:base≤W.heap.size) :
  ∃ v' w',(Builtin.append_ #[55,55] ty #[v,.slice (some ⟨g,0,none⟩) 1 1]).run Tryz.prog (W.alloc (.cells #[.slice A n c] 23)) = .ok v' w' ∧
   (Ib base 23 w' v' (us ++ [.slice A n c]) (l ++ [F])∧Ch (blk v) (W.alloc (.cells #[.slice A n c] 23)) w'∧Nt (W.alloc (.cells #[.slice A n c] 23)) v):=by
 subst hg;obtain⟨i0,hi,hz0,hz1,hz2⟩:=info_parts bA;obtain⟨v',w',a,b,U,N⟩:=Ib.append (P:=Tryz.prog) h hu 55 ty i0 _ 24 Tryz.underlying55 hi hz0 hz1 hz2 rfl (by simp[nodig,Ag,Value.cells]) (by simp[QZ,Value.cells]) (by simp only[maxLen];omega) Aa hb;exact⟨v',w',a,b,U,N⟩
set_option maxRecDepth 20000 in
set_option maxHeartbeats 8000000 in
theorem TI(v u:Value)(F G:Nat→Rat)(S D M:Nat)(w:World)(hv:AQ 0 w v F)(hu:AQ 0 w u G)(zF:ZI F)(zG:ZI G)(fF:Af F)(fG:Af G)(hs:∀ i,qsz (F i)≤S)(ht:∀ i,qsz (G i)≤S)
  (hD:pl F+pl G=D) (hM:(S+1)*2^D≤M) (hB:M+(D+1)*(M+1)≤1000000) (hD9:D≤900) :
  Calls Tryz.prog 65 #[v,u] w (Ad w fun r w'=>∃ us K,Nv F G K∧K≤pl G+1∧Ib w.heap.size 23 w' r us (F4 F G K)):=by
 have hp2:1≤2^D:=Nat.one_le_two_pow;have hSM:S+1≤M:=Nat.le_trans (by have:=Nat.mul_le_mul_left (S+1) hp2;omega) hM;have hDM:(D+1)*1≤(D+1)*(M+1):=Nat.mul_le_mul_left _ Aa;obtain⟨K0,hK0,hK1⟩:=IC fF fG zF zG hs ht;have hR1:=fun W (x:Ext w W)=>NY v F W (hv.ext x) (fun i=>by have:=hs i;omega) Aa zF fF;have hR2:=fun W (x:Ext w W)=>NY u G W (hu.ext x) (fun i=>by have:=ht i;omega) Aa zG fG;have hst:∀ k,(∀ j,1≤j→j≤k→C9 F G j≠pz)→F5 F G D S (C9 F G k) (C9 F G (k+1)):=fun k h=>by rw[←hD];exact JG fF fG zF zG hs ht k h
 have hlow:=fun k h=>LH fF fG zF zG hs ht k h;obtain⟨A0,c0,rfl,-⟩:=hv.shape;obtain⟨A1,c1,rfl,-⟩:=hu.shape;have HX:=Lib.hid (And.intro hst (And.intro hlow (And.intro hM (And.intro hB (And.intro hD9 (And.intro hD hK1))))));have HR:=Lib.hid (And.intro hR1 hR2);clear hv hu zF zG fF fG hs ht hD hM hp2 hSM hDM hR1 hR2 hst hlow hK0 hK1 hB hD9
 go_enter Tryz.func65,Tryz.ntmps65
 go_wp2_with fail
 refine Calls.mono (HR.out.1 _ (Ext.refl w)) ?_;rintro e w1 ⟨r1,rfl,hr1,hx1⟩;obtain⟨A2,c2,rfl,-⟩:=hr1.shape;have hP1:=Ib.one (t:=23) (base:=w.heap.size) hr1 hx1.size;have hx:=hx1.alloc (.cells #[.slice A2 (pl (rd F)) c2] 23);have H1:=Lib.hid hP1;clear hP1 hr1 hx1
 go_wp2_with fail
 refine Calls.mono (HR.out.2 _ hx) ?_;rintro e w2 ⟨r2,rfl,hr2,hx2⟩;have hP2:=H1.out.ext hx2;replace hx:=hx.trans hx2;clear H1 hx2;go_wp2
 go_loopw [5,6] (fun ov nv wr=>∃ k us,Ib w.heap.size 23 wr ov us (F4 F G (k+1))∧AQ 0 wr nv (C9 F G (k+1))∧(∀ j,1≤j→j≤k→C9 F G j≠pz)∧Ext w wr) (fun _ nv _=>Ra nv)
 case atStart=>exact⟨0,_,hP2,hr2,fun j a b=>Aa,hx⟩
 case round =>
  clear hP2 hr2 hx;obtain⟨k,us,hP,hn,hk,hx⟩:=hrel;obtain⟨L,d,rfl⟩:=hP.shape;obtain⟨A3,c3,rfl,-⟩:=hn.shape;have HK:=Lib.hid hk;clear hk;have hf:=(HX.out.1 k HK.out).facts;have hkl:=HX.out.2.1 k HK.out;have hkk:k≤900:=by have:=HX.out;omega
  by_cases h0:0 < pl (C9 F G (k+1))
  ·have hbn:C9 F G (k+1)≠pz:=fun e=>by rw[e,BV]at h0;omega
   obtain⟨fA,fB,zA,zB,hdd,qA,qB⟩:=hf;have hcl:=(HX.out.1 k HK.out).clear hbn HX.out.2.2.1;have hall:=JC fA fB hbn;have hcx:=ZA fA fB hbn;have hpr:=DJ fA fB hbn;rw[←JW]at hall hcx;obtain⟨X,hXe⟩:∃ X,X=C9 F G k:=⟨_,rfl⟩
   obtain⟨Y,hYe⟩:∃ Y,Y=C9 F G (k+1):=⟨_,rfl⟩
   obtain⟨Z,hZe⟩:∃ Z,Z=C9 F G (k+2):=⟨_,rfl⟩
   obtain⟨R,hRe⟩:∃ R,R=pr X Y:=⟨_,rfl⟩
   simp only[←hXe,←hYe,←hZe]at hcl hall hcx hpr hkl hbn h0 fB zB qB fA zA qA hdd;simp only[←hRe]at hcl hall hcx hpr;have hM9:M≤1000000:=by have:=HX.out.2.2.2.1;have:0≤(D+1)*(M+1):=Nat.zero_le _;omega
   have hplR:pl R≤1000:=by have:=BB hpr;have:=HX.out.2.2.2.2.1;omega
   have hplXY:pl X≤1000∧pl Y≤1000:=by have:=HX.out.2.2.2.2.1;omega
   have hcR:Kv (pl R) R=Kv (pl R) R:=rfl;have hpR:∀ i,qsz (pp (Cv (pl R) R) i)≤1099511627776:=fun i=>by
    have fR:Af R:=⟨_,hpr⟩
    have h1:=Fj (DZ (AJ fR)) (De (n:=pl R) fR) (fun j=>JQ (n:=pl R) hcl.2.2.elem j) i;have h2:pl R*(M+(D+1)*(M+1))≤1000*1000000:=Nat.mul_le_mul hplR HX.out.2.2.2.1;have:=HX.out.2.2.2.1;omega
   have hplc:pl (pp (Cv (pl R) R))≤1000:=by
    have fR:Af R:=⟨_,hpr⟩
    rw[Ep (DZ (AJ fR)) (De (n:=pl R) fR)];exact Nat.le_trans (BB (show Bq (pl R) (Cv (pl R) R)from(AJ fR).psc _)) hplR
   have HC:=Lib.hid (And.intro hcl (And.intro hall (And.intro hcx (And.intro hM9 (And.intro hplR (And.intro hplXY (And.intro hbn (And.intro hpR hplc))))))));have HE:=Lib.hid (And.intro hXe (And.intro hYe (And.intro hZe hRe)));have hlt:(F4 F G (k+1)).length=k+1:=Co _ _ _;have HN:=Lib.hid (hYe▸hn);rw[←hYe];rw[hlt]at hP ⊢;have HP:=Lib.hid hP;have hbl:=Lib.hid hP.out.blk_ge;clear hcl hall hcx hM9 hplR hplXY hcR hpR hplc hpr fA fB zA zB hdd qA qB hbn hXe hYe hZe hRe hn hP hlt
   go_wp2_with (at_builtin;refine AB rfl _ _ 55 rfl (.slice L (k+1) d) (.slice (some ⟨wr.heap.size,0,none⟩) 1 1) rfl rfl (Uc wr _ w.heap.size _ _ _ _ _ us _ _ HP.out HN.out rfl (by rw[Co];omega) hx.size) ?_)
   intro v' w6 hP6 U hNB;have xa:=(Ext.refl wr).alloc (.cells #[.slice A3 (pl Y) c3] 23);have hP7:=hP6;rw[show F4 F G (k+1) ++ [Y]=F4 F G (k+1+1)from by rw[HE.out.2.1,←PO]]at hP7;obtain⟨L2,d2,rfl⟩:=hP7.shape;have hn7:=(HN.out.ext xa).updB U hNB;have hx7:=U.from_ (hx.trans xa) (fun g' hg=>(hbl.out _ hg).1);have hlt:(F4 F G (k+1+1)).length=k+2:=Co _ _ _;have hat:=hP7.at_ (i:=k) (by rw[hlt];omega);rw[OT]at hat
   obtain⟨g5,o5,E5,d5,rfl,hc5,h5⟩:=hat;rw[←HE.out.1]at hc5 h5;have H7:=Lib.hid (And.intro hP7 (And.intro hn7 h5));rw[hlt];clear hP6 hP7 hn7 h5 U hNB xa hx HP HN hbl hlt
   go_wp2_with fail
   refine Calls.mono (WV _ _ _ H7.out.2.2 (fun i=>by have:=HC.out.1.1.elem i;have:=HC.out.2.2.2.1;omega) (by have:=HC.out.2.2.2.2.2.1;omega)) ?_;rintro e w8 ⟨r8,rfl,hr8,hx8⟩;have H8:=Lib.hid (And.intro (H7.out.1.ext hx8) (And.intro (H7.out.2.1.ext hx8) hr8));replace hx7:=hx7.trans hx8;clear hx8 hr8 H7 hc5
   go_wp2_with fail
   refine Calls.mono (WV _ _ _ H8.out.2.1 (fun i=>by have:=HC.out.1.2.1.elem i;have:=HC.out.2.2.2.1;omega) (by have:=HC.out.2.2.2.2.2.1;omega)) ?_;rintro e w9 ⟨r9,rfl,hr9,hx9⟩;have H9:=Lib.hid (And.intro (H8.out.1.ext hx9) (And.intro (H8.out.2.2.ext hx9) hr9));replace hx7:=hx7.trans hx9;clear hx9 hr9 H8
   go_wp2_with fail
   refine Calls.mono (V5 _ _ X Y M _ H9.out.2.1 H9.out.2.2 HC.out.2.2.2.2.2.2.1 HC.out.1.1 HC.out.1.2.1 HC.out.2.2.2.1 HC.out.2.2.2.2.2.1.1 HC.out.2.2.2.2.2.1.2) ?_;rintro e w10 ⟨r10,rfl,⟨qv,rv,rfl,hq10,hr10⟩,hx10⟩;obtain⟨Aq,cq,_,rfl,-⟩:=hq10.form;obtain⟨Ar,cr,_,rfl,-⟩:=hr10.form;rw[←HE.out.2.2.2]at hr10 ⊢;have H10:=Lib.hid (And.intro (H9.out.1.ext hx10) hr10);replace hx7:=hx7.trans hx10;clear hx10 hr10 hq10 H9
   go_wp2_with fail
   refine Calls.mono (VK _ R (M+(D+1)*(M+1)) _ H10.out.2 HC.out.1.2.2 HX.out.2.2.2.1 HC.out.2.2.2.2.1) ?_;rintro e w11 ⟨r11,rfl,⟨pv,cv,rfl,hp11,hc11⟩,hx11⟩;obtain⟨Ap,cp,rfl,-⟩:=hp11.shape;obtain⟨b5,B5,n5,e5,b6,B6,n6,e6,rfl⟩:=hc11.cells;obtain⟨W12,eW,ec,x12⟩:=Be.made w11 28 #[.bool b5,.slice B5 n5 e5,.bool b6,.slice B6 n6 e6] (by simp[Ag]);have H12:=Lib.hid (And.intro ((H10.out.1.ext hx11).ext x12) (And.intro (hp11.ext x12) (hc11.ext x12)))
   replace hx7:=(hx7.trans hx11).trans x12;clear hx11 hp11 hc11 x12 H10
   go_upto_region 7 with(fail)
   rw[←eW];clear eW;generalize w11.heap.size=gc at *;obtain⟨cec0,cec1,cec2,cec3⟩:=ec.cells4;have fec:=ec.frozen;have hqc:qsz (Kv (pl R) R)≤274877906944:=by
    have h1:=U4 (AJ ⟨_,(show Bq (pl R) R from by
     have:=HC.out.2.1;exact AJ (by rw[HE.out.2.2.2];exact Ex (HX.out.1 k HK.out |>.facts |> fun f=>by rw[HE.out.1];exact f.1) (HX.out.1 k HK.out |>.facts |> fun f=>by rw[HE.out.2.1];exact f.2.1)))⟩) HC.out.1.2.2.elem
    have h2:pl R*(M+(D+1)*(M+1))≤1000*1000000:=Nat.mul_le_mul HC.out.2.2.2.2.1 HX.out.2.2.2.1;have:=HX.out.2.2.2.1;omega
   have hcx:=HC.out.2.2.1;have hpx:=HC.out.2.2.2.2.2.2.2
   go_wp2_with fail
   refine Calls.mono (Na _ (Kv (pl R) R) _ (H12.out.2.2.has hqc)) ?_;rintro e w13 ⟨r13,rfl,rfl,hx13⟩;replace hx7:=hx7.trans hx13;have H13a:=Lib.hid (And.intro (H12.out.1.ext hx13) (H12.out.2.1.ext hx13));have hZe:C9 F G (k+1+1)=Z:=HE.out.2.2.1.symm;clear hx13 H12 cec0 cec1 cec2 cec3 fec ec hqc;by_cases hc:0 < Kv (pl R) R
   ·rw[Oq hc]
    rw[if_pos hc]at hcx;have HCX:=Lib.hid (And.intro hcx (And.intro hpx hZe));clear hcx hpx hc hZe
    go_wp2_with fail
    refine Calls.mono (Ji (-1) _ Aa Aa) ?_;rintro e w14 ⟨r14,rfl,hr14,hx14⟩;have H14:=Lib.hid (And.intro (H13a.out.1.ext hx14) (H13a.out.2.ext hx14));replace hx7:=hx7.trans hx14;clear hx14 H13a
    go_wp2_with fail
    refine Calls.mono (KZ _ _ _ (-1) _ H14.out.2 HCX.out.2.1.1 (hr14.has Ab) (by have:=HCX.out.2.1.2;omega)) ?_;rintro e w15 ⟨r15,rfl,hr15,hx15⟩;replace hr15:=hr15.cast (show psc (((-1:Int):Rat)) (pp (Cv (pl R) R))=Z from by rw[HCX.out.1];rfl);obtain⟨A15,c15,rfl,-⟩:=hr15.shape;rw[←HCX.out.2.2]at hr15 ⊢;have H13:=Lib.hid (And.intro (H14.out.1.ext hx15) hr15);replace hx7:=hx7.trans hx15;have HCX:=Lib.hid HCX.out.2.2.symm
    clear hx15 H14 hr15 hr14;go_wp2
    go_roundw
    case rel=>exact⟨k+1,_,(by have:=H13.out.1;rw[Co]at this;exact this),H13.out.2,fun j a1 a2=>by
     rcases Nat.lt_or_ge j (k+1)with a3 | a3
     ·exact HK.out j a1 Aa
     ·obtain rfl:j=k+1:=by omega
      rw[←HE.out.2.1];exact HC.out.2.2.2.2.2.2.1,hx7⟩
    case measure =>
     have h1:=HC.out.2.1.2.2.2.1;rw[HCX.out]at h1;simp only[Ra];omega
   ·have hsg:=XZ hc
    have hdec:decide (0 < KA (Kv (pl R) R))=false:=decide_eq_false Aa;rw[if_neg hc,Ca]at hcx;have hr15:=H13a.out.2;rw[←hcx,←hZe]at hr15;rw[←hcx,←hZe];have H13:=Lib.hid (And.intro H13a.out.1 hr15);have HCX:=Lib.hid hZe.symm;clear hcx hpx hc hZe H13a hr15;go_wp2
    go_roundw
    case rel=>exact⟨k+1,_,(by have:=H13.out.1;rw[Co]at this;exact this),H13.out.2,fun j a1 a2=>by
     rcases Nat.lt_or_ge j (k+1)with a3 | a3
     ·exact HK.out j a1 Aa
     ·obtain rfl:j=k+1:=by omega
      rw[←HE.out.2.1];exact HC.out.2.2.2.2.2.2.1,hx7⟩
    case measure =>
     have h1:=HC.out.2.1.2.2.2.1;rw[HCX.out]at h1;simp only[Ra];omega
  ·have hz:C9 F G (k+1)=pz:=(BF hf.2.1).1 Aa
   have hS:Nv F G (k+1):=⟨Aa,hz,fun j a b=>HK.out j a Aa⟩
   have HS:=Lib.hid hS;clear hS hz hf;have HP:=Lib.hid hP;clear hP;have hlt:(F4 F G (k+1)).length=k+1:=Co _ _ _;go_wp2
   go_ret
   exact Ad.mk ⟨us,k+1,HS.out,Aa,HP.out⟩ hx
end Go.Proofs.YtmhgnigpmompmaaGreat
namespace Go.Hp
open Go.RowKit
theorem SS{base:Nat}{w:World}{v:Value}{n:Nat}{F:Nat→Rat}{e:TypeId}(h:D7 base e w v (Df n F))(hs:∀ i,i < n→qsz (F i)≤1099511627776):EI 0 w v (Df n F):=
 Ll.has h.row fun x hx=>by
  obtain⟨i,hi,rfl⟩:=List.getElem_of_mem hx;rw[BX];have:=hs i (by rw[AP]at hi;exact hi);unfold qsz at this;omega
end Go.Hp
namespace Go.Proofs.YtmhgnigpmompmaaGreat
open Go.RowKit Go.Hp
set_option maxRecDepth 20000 in
set_option maxHeartbeats 1000000 in
theorem Uw(v u:Value)(l:List Int)(ca:Int)(s:Nat)(w:World)(hv:EI 0 w v l)(hu:Bj w u ca)(hs:∀ i,qsz (cz l i)≤s)(hst:s+qsz (ca:Rat)≤549755813888)(hn:l.length≤549755813888) :
  Calls Tryz.prog 73 #[v,u] w (Ad w fun r w'=>AQ w.heap.size w' r (psc (ca:Rat) (cz l))):=by
 have HU:=Lib.hid hu;obtain⟨b1,A1,n1,c1,rfl⟩:=hu.cells;obtain⟨A,c,rfl,hl,hc,hA⟩:=hv;clear hu;have HA:Hid (I1 0 w A l):=Lib.hid hA;clear hA;have HS:=Lib.hid (And.intro hs hst);clear hs hst
 go_enter Tryz.func73,Tryz.ntmps73
 go_wp2
 go_loopw [5,6] (fun ov iv wr=>∃ (k:Nat),k≤l.length∧iv = .int .i64 k∧D7 (w.heap.size+1) 26 wr ov (Df k (psc (ca:Rat) (cz l)))∧Ext (w.alloc (.cells #[.bool b1,.slice A1 n1 c1] 26)) wr) (fun _ iv _=>l.length - (intOf iv).toNat)
 case atStart=>exact⟨0,Nat.zero_le _,rfl,BD.nil _ _ _ _ _,Ext.refl _⟩
 case round =>
  obtain⟨k,hk,rfl,hown,hx⟩:=hrel;by_cases hkl:k < l.length
  ·obtain⟨g,o,b,A2,n,c2,rfl,_,q0,q1,hq⟩:=HA.out.at_ (j:=k) hkl
   replace q0:=hx.a1.cell q0;replace q1:=hx.a1.cell q1;have ca0:=hx.box (g:=w.heap.size) (i:=0) rfl rfl;have ca1:=hx.box (g:=w.heap.size) (i:=1) rfl rfl;have hval:(psc (ca:Rat) (cz l) k).num=l[k]*ca:=by
    show((ca:Rat)*cz l k).num=_;rw[Cr hkl,num_mul,Int.mul_comm]
   have hqk:=HS.out.1 k;rw[Cr hkl,Ba]at hqk;have hqa:=HS.out.2;rw[Ba]at hqa;have Hq:=Lib.hid (And.intro hq (And.intro hval (And.intro hqk hqa)));clear hq hval hqk hqa;have Hown:=Lib.hid hown;clear hown
   go_wp2_with fail
   refine Ae 8 [13,14,15,16,17,18,19,20] [[],[],[],[1,2],[1,2,3],[],[1,2,3,4,5],[1,2,3,4,5,6],[0,1,2,3,4,5,6,7],[0,1,2,3,4,5,6,7,8]] [5,0,6,3] [_,_,_,_] [(kv ?_),(kv ?_),(kv ?_),(kv ?_),(kv ?_),(kv ?_),(fun γ=>γ 6),(fun γ=>γ 7)] (fun γ w'=>[True,True,True,True,True,True,AC w' (γ 6) (psc (ca:Rat) (cz l) k).num,EO w' (γ 7) (wr.heap.size) ((psc (ca:Rat) (cz l) k).num) 26]) Bd Ah Ah Bb Ah Bc Bg ?hstep1 ?_
   case hstep1 =>
    iterate 8 refine⟨?_,?_⟩
    trivial
    iterate 6 focus
     intro γ w' he hf;clear hf;refine⟨by trivial,?_⟩;intro R hR;have hc:=he.cells;have cq0:=he.cell q0;have cq1:=he.cell q1;have cq2:=he.cell ca0;have cq3:=he.cell ca1;go_simp;(try go_ints);(try(rw[if_neg Aa]));(try(rw[if_pos Aa]));(try go_simp);(try go_ints)
     refine hR _ _ (Ext.refl _) ?_ trivial;rfl
    ·intro γ w' he hf;clear hf;refine⟨trivial,?_⟩;intro R hR
     go_simp;exact AX (Hq.out.2.1▸IJ _ _ _ _ w' (Hq.out.1.kd (hx.a1.trans he).kd) (HU.out.kd (hx.a1.trans he).kd) (by have:=Hq.out.2.2;omega) (by have:=Hq.out.2.2;omega)) hR
    ·intro γ w' he hf;have f6:AC w' (γ 6) (psc (ca:Rat) (cz l) k).num:=hf 6 Ab;clear hf;refine⟨trivial,?_⟩;intro R hR
     refine AC.el f6 fun b5 A5 n5 c5 e6 f6'=>?_;clear f6;go_simp;exact hR _ _ ((Ext.refl _).alloc _) rfl (EO.mk f6' (Nat.le_trans Ac he.size) _)
   intro γ w1 hx1 hF;have p6:AC w1 (γ 6) (psc (ca:Rat) (cz l) k).num:=Au.get hF 6 Ab;have p7:EO w1 (γ 7) (wr.heap.size) ((psc (ca:Rat) (cz l) k).num) 26:=Au.get hF 7 Ab;clear hF;simp only[AZ,Nat.reduceAdd];generalize γ 6=g6 at *;generalize γ 7=g7 at *;clear γ;have hs:w.heap.size+1≤wr.heap.size:=by have:=hx.size;simpa using this
   have hs1:=hx1.size;refine AB rfl _ _ 22 rfl u5 g7 rfl rfl (IZ w1 _ _ (w.heap.size+1) _ _ _ _ (Hown.out.ext hx1) p7 (by rw[AP];omega) Aa) ?_;rintro v' w2 ⟨hown,U⟩;replace hx:=(Hown.out.ext hx1).from_ U (hx.trans hx1) Ac;have Hown':=Lib.hid hown;clear hown U p7 p6 q0 q1 ca0 ca1;go_wp2
   go_roundw
   case rel=>exact⟨k+1,Aa,by go_num,by rw[FD];exact Hown'.out,hx⟩
   case measure=>simp[intOf]<;>omega
  ·obtain rfl:k=l.length:=by omega
   have hh:=SS hown (fun i hi=>(by have h1:=Cq (ca:Rat) (cz l i);have h2:=HS.out.1 i;have h3:=HS.out.2;show qsz ((ca:Rat)*cz l i)≤_;omega));have hczl:=EP (n:=l.length) (F:=psc (ca:Rat) (cz l)) ((ZI.cz l).psc ca) ((Cb l).psc _);obtain⟨A2,c2,e2⟩:=hh.len;rw[AP]at e2;rw[e2]at hh;clear hown;subst e2;have HH:=Lib.hid (And.intro hh hczl);clear hh hczl
   go_wp2_with fail
   refine Calls.mono (Gf _ _ _ HH.out.1 (by rw[AP];omega)) ?_;rintro e w9 ⟨r,rfl,hr,hx9⟩;rw[HH.out.2]at hr;have hsz:=(hx.a1).size;have Hr:=Lib.hid hr;clear hr;go_wp2
   go_ret
   exact Ad.mk (Hr.out.base_le Aa) ((hx.a1).trans hx9)
end Go.Proofs.YtmhgnigpmompmaaGreat
namespace Go.Hp
open Go.RowKit
theorem Ze{F:Nat→Rat}(h:ZI F):ZI (pd F):=fun i=>by
 obtain⟨n,e⟩:=h (i+1);exact⟨((i+1:Nat):Int)*n,by unfold pd;rw[e,Rat.intCast_mul];rfl⟩
theorem D7.off{base:Nat}{e:TypeId}{w w':World}{v:Value}{l:List Int}{g:Nat}(h:D7 base e w v l)(U:Ch [g] w w')(hg:∀ k∈blk v,k < g):D7 base e w' v l:=
 BD.upd h U (fun k hk hG=>by have:=hg k hk;simp at hG;omega) fun _ _ q=>q.kd U.kd
end Go.Hp
namespace Go.Proofs.YtmhgnigpmompmaaGreat
open Go.RowKit Go.Hp
set_option maxRecDepth 20000 in
set_option maxHeartbeats 1000000 in
theorem Ns(v:Value)(l:List Int)(s:Nat)(w:World)(hv:EI 0 w v l)(hs:∀ i,qsz (cz l i)≤s)(hst:s+2≤549755813888)(hn:l.length≤549755813888) :
  Calls Tryz.prog 69 #[v] w (Ad w fun r w'=>AQ w.heap.size w' r (pd (cz l))):=by
 obtain⟨A,c,rfl,hl,hc,hA⟩:=hv;have HA:Hid (I1 0 w A l):=Lib.hid hA;clear hA;have HS:=Lib.hid hs;clear hs
 go_enter Tryz.func69,Tryz.ntmps69
 go_wp2
 go_loopw [3,4] (fun ov iv wr=>∃ (k:Nat),1≤k∧k≤max l.length 1∧iv = .int .i64 k∧D7 w.heap.size 26 wr ov (Df (k - 1) (pd (cz l)))∧Ext w wr) (fun _ iv _=>l.length - (intOf iv).toNat)
 case atStart=>exact⟨1,Aa,Aa,Ac,BD.nil _ _ _ _ _,Ext.refl _⟩
 case round =>
  obtain⟨k,hk1,hk,rfl,hown,hx⟩:=hrel;by_cases hkl:k < l.length
  ·obtain⟨g,o,b,A1,n,c1,rfl,_,q0,q1,hq⟩:=HA.out.at_ (j:=k) hkl
   replace q0:=hx.cell q0;replace q1:=hx.cell q1;have hval:(pd (cz l) (k - 1)).num=l[k]*(k:Int):=by
    unfold pd;rw[show k - 1+1=k from Aa,Cr hkl];show(((k:Nat):Int)*((l[k]:Int):Rat):Rat).num=_;rw[num_mul,Int.mul_comm]
   have hqk:=HS.out k;rw[Cr hkl,Ba]at hqk;have Hq:=Lib.hid (And.intro hq (And.intro hval hqk));clear hq hval hqk;have Hown:=Lib.hid hown;clear hown;have HK:=Lib.hid (show sz ((k:Nat):Int).natAbs≤2 from by
    have:=TE (x:=(k:Int)) Aa Aa;rw[Ba]at this;omega)
   go_wp2_with fail
   refine Ae 9 [11,12,13,14,15,16,17,18,19] [[],[],[],[1,2],[1,2,3],[],[5],[1,2,3,4,5,6],[1,2,3,4,5,6,7],[0,1,2,3,4,5,6,7,8],[0,1,2,3,4,5,6,7,8,9]] [3,0,4] [_,_,_] [(kv ?_),(kv ?_),(kv ?_),(kv ?_),(kv ?_),(kv ?_),(fun γ=>γ 6),(fun γ=>γ 7),(fun γ=>γ 8)] (fun γ w'=>[True,True,True,True,True,True,AC w' (γ 6) (k:Int),AC w' (γ 7) (pd (cz l) (k - 1)).num,EO w' (γ 8) (wr.heap.size) ((pd (cz l) (k - 1)).num) 26]) Bd Ah Ah Bb Ah Bc Bg ?hstep1 ?_
   case hstep1 =>
    iterate 9 refine⟨?_,?_⟩
    trivial
    iterate 6 focus
     intro γ w' he hf;clear hf;refine⟨by trivial,?_⟩;intro R hR;have hc:=he.cells;have cq0:=he.cell q0;have cq1:=he.cell q1;go_simp;(try go_ints);(try(rw[if_neg Aa]));(try(rw[if_pos Aa]));(try go_simp);(try go_ints)
     refine hR _ _ (Ext.refl _) ?_ trivial;rfl
    ·intro γ w' he hf;clear hf;refine⟨trivial,?_⟩;intro R hR
     go_simp;exact AX (Ls (k:Int) w' Aa Aa) hR
    ·intro γ w' he hf;have f6:AC w' (γ 6) (k:Int):=hf 6 Ab;clear hf;refine⟨trivial,?_⟩;intro R hR
     go_simp;exact AX (Hq.out.2.1▸IJ _ _ _ _ w' (Hq.out.1.kd (hx.trans he).kd) (f6.has (by have:=HK.out;omega)) (by have:=Hq.out.2.2;omega) (by have:=HK.out;omega)) hR
    ·intro γ w' he hf;have f7:AC w' (γ 7) (pd (cz l) (k - 1)).num:=hf 7 Ab;clear hf;refine⟨trivial,?_⟩;intro R hR
     refine AC.el f7 fun b5 A5 n5 c5 e7 f7'=>?_;clear f7;go_simp;exact hR _ _ ((Ext.refl _).alloc _) rfl (EO.mk f7' (Nat.le_trans Ac he.size) _)
   intro γ w1 hx1 hF;have p6:AC w1 (γ 6) (k:Int):=Au.get hF 6 Ab;have p7:AC w1 (γ 7) (pd (cz l) (k - 1)).num:=Au.get hF 7 Ab;have p8:EO w1 (γ 8) (wr.heap.size) ((pd (cz l) (k - 1)).num) 26:=Au.get hF 8 Ab;clear hF;simp only[AZ,Nat.reduceAdd];generalize γ 6=g6 at *;generalize γ 7=g7 at *;generalize γ 8=g8 at *;clear γ;have hs:=hx.size;have hs1:=hx1.size;refine AB rfl _ _ 22 rfl u3 g8 rfl rfl (IZ w1 _ _ w.heap.size _ _ _ _ (Hown.out.ext hx1) p8 (by rw[AP];omega) Aa) ?_
   rintro v' w2 ⟨hown,U⟩;replace hx:=(Hown.out.ext hx1).from_ U (hx.trans hx1) (Nat.le_refl _);have Hown':=Lib.hid hown;clear hown U p8 p7 p6;go_wp2
   go_roundw
   case rel=>exact⟨k+1,Aa,Aa,by go_num,by
    have:=Hown'.out;rw[←FD,show k - 1+1=k+1 - 1 from by omega]at this;exact this,hx⟩
   case measure=>simp[intOf]<;>omega
  ·skip
   have hh:=SS hown (fun i hi=>(by have h1:=Cq ((i+1:Nat):Rat) (cz l (i+1));have h2:=HS.out (i+1);have h3:=T9 (n:=i+1) Aa;show qsz (((i+1:Nat):Rat)*cz l (i+1))≤_;omega));have hczl:=EP (n:=(k - 1)) (F:=pd (cz l)) (Ze (ZI.cz l)) (fun i hi=>by unfold pd;rw[Iz Aa];exact Rat.mul_zero _);obtain⟨A2,c2,e2⟩:=hh.len;rw[AP]at e2;rw[e2]at hh;clear hown;subst e2;have HH:=Lib.hid (And.intro hh hczl);clear hh hczl
   go_wp2_with fail
   refine Calls.mono (Gf _ _ _ HH.out.1 (by rw[AP];omega)) ?_;rintro e w9 ⟨r,rfl,hr,hx9⟩;rw[HH.out.2]at hr;have hsz:=(hx).size;have Hr:=Lib.hid hr;clear hr;go_wp2
   go_ret
   exact Ad.mk (Hr.out.base_le Aa) ((hx).trans hx9)
theorem Uz(W:World)(v x:Value)(base b ty:Nat)(l:List Int)(q:Int)(h:D7 base 26 W v l)(hx:EO W x b q 26)(hn:l.length≤1099511627776)(hb:base≤W.heap.size) :
  ∃ v' w',(Builtin.append_ #[23,23] ty #[v,x]).run Tryz.prog W = .ok v' w'∧(D7 base 26 w' v' (l ++ [q])∧Ch (blk v) W w'):=by
 obtain⟨g,cs,rfl,h1,h2,h3,h4⟩:=hx;obtain⟨i0,hi,hz0,hz1,hz2⟩:=info_parts IB;have ho:=AC.one h4;obtain⟨v',w',a,b,c⟩:=BD.append (P:=Tryz.prog) h 23 ty i0 _ 32 Tryz.underlying23 hi hz0 hz1 hz2 rfl (by simp[nodig,Ag,Value.cells]) Ab ⟨g,0,none⟩ 1 cs h3 h4 h2.news ho.1 ho.2.1 (Gw hn) Aa hb (fun _ _ _ k hq=>AC.kd hq k);exact⟨v',w',a,b,c⟩
set_option maxRecDepth 20000 in
set_option maxHeartbeats 1000000 in
theorem G7(v:Value)(l:List Int)(w:World)(hv:EI 0 w v l)(hn:l.length≤1099511627776) :
  Calls Tryz.prog 66 #[v] w (Ad w fun r w'=>AQ w.heap.size w' r (pd (cz l))):=by
 obtain⟨A,c,rfl,hl,hc,hA⟩:=hv;have HA:Hid (I1 0 w A l):=Lib.hid hA;clear hA
 go_enter Tryz.func66,Tryz.ntmps66
 go_wp2
 go_loopw [3,4] (fun ov iv wr=>∃ (k:Nat),1≤k∧k≤max l.length 1∧iv = .int .i64 k∧D7 w.heap.size 26 wr ov (Df (k - 1) (pd (cz l)))∧Ext w wr) (fun _ iv _=>l.length - (intOf iv).toNat)
 case atStart=>exact⟨1,Aa,Aa,Ac,BD.nil _ _ _ _ _,Ext.refl _⟩
 case round =>
  obtain⟨k,hk1,hk,rfl,hown,hx⟩:=hrel;by_cases hkl:k < l.length
  ·obtain⟨g,o,b,A1,n,c1,rfl,_,q0,q1,hq⟩:=HA.out.at_ (j:=k) hkl
   replace q0:=hx.cell q0;replace q1:=hx.cell q1;have hval:(pd (cz l) (k - 1)).num=(k:Int)*l[k]:=by
    unfold pd;rw[show k - 1+1=k from Aa,Cr hkl];show(((k:Nat):Int)*((l[k]:Int):Rat):Rat).num=_;rw[num_mul]
   have Hq:=Lib.hid (And.intro hq hval);clear hq hval;have Hown:=Lib.hid hown;clear hown;have HK:=Lib.hid (show sz ((k:Nat):Int).natAbs≤2 from by
    have:=TE (x:=(k:Int)) Aa Aa;rw[Ba]at this;omega)
   go_wp2_with fail
   refine Ae 9 [11,12,13,14,15,16,17,18,19] [[],[],[1],[],[],[3,4],[3,4,5],[1,2,3,4,5,6],[1,2,3,4,5,6,7],[0,1,2,3,4,5,6,7,8],[0,1,2,3,4,5,6,7,8,9]] [3,4,0] [_,_,_] [(kv ?_),(kv ?_),(fun γ=>γ 2),(kv ?_),(kv ?_),(kv ?_),(kv ?_),(fun γ=>γ 7),(fun γ=>γ 8)] (fun γ w'=>[True,True,AC w' (γ 2) (k:Int),True,True,True,True,AC w' (γ 7) (pd (cz l) (k - 1)).num,EO w' (γ 8) (wr.heap.size) ((pd (cz l) (k - 1)).num) 26]) Bd Ah Ah Bb Ah Bc Bg ?hstep3 ?_
   case hstep3 =>
    iterate 9 refine⟨?_,?_⟩
    trivial
    iterate 2 focus
     intro γ w' he hf;clear hf;refine⟨by trivial,?_⟩;intro R hR;have hc:=he.cells;go_simp;refine hR _ _ (Ext.refl _) ?_ trivial;rfl
    ·intro γ w' he hf;clear hf;refine⟨trivial,?_⟩;intro R hR
     go_simp;exact AX (Ji (k:Int) w' Aa Aa) hR
    iterate 4 focus
     intro γ w' he hf;clear hf;refine⟨by trivial,?_⟩;intro R hR;have hc:=he.cells;have cq0:=he.cell q0;have cq1:=he.cell q1;go_simp;(try go_ints);(try(rw[if_neg Aa]));(try(rw[if_pos Aa]));(try go_simp);(try go_ints)
     refine hR _ _ (Ext.refl _) ?_ trivial;rfl
    ·intro γ w' he hf;have f2:AC w' (γ 2) (k:Int):=hf 2 Ab;clear hf;refine⟨trivial,?_⟩;intro R hR
     go_simp;exact AX (Hq.out.2▸Dh _ _ _ _ w' (f2.has (by have:=HK.out;omega)) (Hq.out.1.kd (hx.trans he).kd)) hR
    ·intro γ w' he hf;have f7:AC w' (γ 7) (pd (cz l) (k - 1)).num:=hf 7 Ab;clear hf;refine⟨trivial,?_⟩;intro R hR
     refine AC.el f7 fun b5 A5 n5 c5 e7 f7'=>?_;clear f7;go_simp;exact hR _ _ ((Ext.refl _).alloc _) rfl (EO.mk f7' (Nat.le_trans Ac he.size) _)
   intro γ w1 hx1 hF;have p2:AC w1 (γ 2) (k:Int):=Au.get hF 2 Ab;have p7:AC w1 (γ 7) (pd (cz l) (k - 1)).num:=Au.get hF 7 Ab;have p8:EO w1 (γ 8) (wr.heap.size) ((pd (cz l) (k - 1)).num) 26:=Au.get hF 8 Ab;clear hF;simp only[AZ,Nat.reduceAdd];generalize γ 2=g2 at *;generalize γ 7=g7 at *;generalize γ 8=g8 at *;clear γ;have hs:=hx.size;have hs1:=hx1.size;refine AB rfl _ _ 23 rfl u3 g8 rfl rfl (Uz w1 _ _ w.heap.size _ _ _ _ (Hown.out.ext hx1) p8 (by rw[AP];omega) Aa) ?_
   rintro v' w2 ⟨hown,U⟩;replace hx:=(Hown.out.ext hx1).from_ U (hx.trans hx1) (Nat.le_refl _);have Hown':=Lib.hid hown;clear hown U p8 p7 p2;go_wp2
   go_roundw
   case rel=>exact⟨k+1,Aa,Aa,by go_num,by
    have:=Hown'.out;rw[←FD,show k - 1+1=k+1 - 1 from by omega]at this;exact this,hx⟩
   case measure=>simp[intOf];omega
  ·have hz:Bq (k - 1) (pd (cz l)):=fun i hi=>by unfold pd;rw[Iz Aa];exact Rat.mul_zero _
   have hco:=EP (Ze (ZI.cz l)) hz;obtain⟨A2,c2,h1,h2,h3,h4⟩:=hown.row;rw[AP]at h1 h2;have hT:=DY w.heap.size A2 c2 _ wr (by rw[AP];exact h2) h3 h4;rw[AP,←h1]at hT;have Hrow:=Lib.hid (And.intro h4 (And.intro hco (And.intro h2 h3)));clear h1 h2 h3 h4 hco hz hown
   go_wp2_with fail
   refine Calls.mono hT ?_;rintro e w2 ⟨rfl,rfl⟩;go_wp2
   go_ret
   exact Ad.mk (AQ.of_trim (Ll.trim Hrow.out.1 (by rw[AP];exact Hrow.out.2.2.1) Hrow.out.2.2.2) Hrow.out.2.1) hx
end Go.Proofs.YtmhgnigpmompmaaGreat
namespace Go.Hp
open Go.RowKit
end Go.Hp
namespace Go.Proofs.YtmhgnigpmompmaaGreat
open Go.RowKit Go.Hp
theorem aN(v u:Value)(F:Nat→Rat)(ca:Int)(s:Nat)(w:World)(hv:AQ 0 w v F)(hu:Bj w u ca)(hs:∀ i,qsz (F i)≤s)(hst:s+qsz (ca:Rat)≤549755813888)(hn:pl F≤549755813888) :
  Calls Tryz.prog 73 #[v,u] w (Ad w fun r w'=>AQ 0 w' r (psc (ca:Rat) F)):=by
 obtain⟨l,h1,h2,-,rfl⟩:=hv.hz (fun i=>by have:=hs i;omega);exact Ad.imp (Uw v u l ca s w h1 hu hs hst Aa) fun _ _ h=>h.base_le (Nat.zero_le _)
end Go.Proofs.YtmhgnigpmompmaaGreat
namespace Go.Hp
open Go.RowKit
theorem dM{P:Nat→Rat}(h:BI P){e:Rat}(he:e=1∨e = -1):rd (psc e P)=psc e P:=by
 have hc:cn (psc e P)=1:=by
  rcases he with rfl | rfl
  ·rw[Ca];exact h.c
  ·have:=Gy (a:=-1) Ab h.z h.f
   rw[h.c]at this;exact this
 unfold rd;rw[hc,show(1:Rat) / ((1:Nat):Rat)=1 from by decide +kernel,Ca]
theorem dJ{A B:Nat→Rat}(fA:Af A)(fB:Af B)(hn:nx A B≠pz):rd (nx A B)=nx A B:=by
 have hR:pr A B≠pz:=fun e=>hn (J7 e);have fR:=Ex fA fB;rw[TY hR];exact dM (BI.pp (DZ (AJ fR)) (De (n:=pl (pr A B)) fR) (Nh (n:=pl (pr A B)) fR hR)) (JD _)
theorem dA{F:Nat→Rat}(z:ZI F)(f:Af F):pl (rd F)=pl F:=by
 rw[PQ,DI (Jn (JD _)) (Dm f),Ep z f]
end Go.Hp
namespace Go.Proofs.YtmhgnigpmompmaaGreat
open Go.RowKit Go.Hp
theorem Wn(v:Value)(F:Nat→Rat)(w:World)(hv:AQ 0 w v F)(hs:∀ i,qsz (F i)≤274877906944)(hn:pl F≤274877906944):Calls Tryz.prog 71 #[v] w (Ad w fun r w'=>CQ 0 w' r F):=by
 obtain⟨l,h1,h2,-,rfl⟩:=hv.hz fun i=>by have:=hs i;omega
 exact Ad.imp (eO v l w h1 hs Aa) fun _ _ h=>h.base_le (Nat.zero_le _)
theorem Rq(v u:Value)(F G:Nat→Rat)(s:Nat)(w:World)(hv:CQ 0 w v F)(hu:CQ 0 w u G)(h0:G≠pz)(hF:CD s F)(hG:CD s G)(hs:s≤1000000)(hn:pl F≤1000)(hm:pl G≤1000) :
  Calls Tryz.prog 70 #[v,u] w (Ad w fun r w'=>∃ a b,r = .tuple #[a,b]∧CQ 0 w' a (pq F G)∧CQ 0 w' b (pr F G)):=by
 have:(pl F+2)*(s+1)≤1002*1000001:=Nat.mul_le_mul Aa Aa;exact Ad.imp (Un v u F G s s w hv hu h0 hF hG Aa Aa Aa) fun r w' ⟨a,b,e,h,k⟩=>⟨a,b,e,h.base_le (Nat.zero_le _),k.base_le (Nat.zero_le _)⟩
theorem Vn(v:Value)(F:Nat→Rat)(s:Nat)(w:World)(hv:CQ 0 w v F)(hF:CD s F)(hs:s≤1000000)(hn:pl F≤1000) :
  Calls Tryz.prog 72 #[v] w (Ad w fun r w'=>Lm (pl F) F r w'):=by
 obtain⟨l,h1,h2,-,rfl⟩:=hv.hs fun i=>by have:=hF.elem i;omega
 exact RB v l s w h1 Aa hF.elem hs
theorem QU(v:Value)(F:Nat→Rat)(w:World)(hv:AQ 0 w v F)(hs:∀ i,qsz (F i)≤274877906944)(hn:pl F≤274877906944)(zF:ZI F)(fF:Af F)(h0:F≠pz) :
  Calls Tryz.prog 68 #[v] w (Ad w fun r w'=>AQ 0 w' r (rd F)):=by
 obtain⟨l,h1,h2,-,rfl⟩:=hv.hz fun i=>by have:=hs i;omega
 obtain⟨A,c,rfl⟩:=h1.len;have hc:=M9 _ l w h1 (fun i=>by have:=hs i;omega) Aa;have hcz:sz ((cn (cz l):Nat):Int).natAbs≤274877906944:=by have:=Gh hs (pl (cz l));simpa[cn] using this
 have hc0:((cn (cz l):Nat):Int)≠0:=by have:=Io zF fF h0;omega
 have hov:=fun W (x:Ext w W) u (hu:Bj W u (cn (cz l):Nat))=>Oc _ u l (cn (cz l):Nat) W (h1.ext x) hu (fun i=>by have:=hs i;omega) Aa hc0 (fun i=>IK fF i) Aa;have HC:=Lib.hid (And.intro hc (And.intro hcz hov));clear hc hcz hc0 hov h1 hv hs zF fF h0 hn h2
 go_enter Tryz.func68,Tryz.ntmps68
 go_wp2_with fail
 refine Calls.mono HC.out.1 ?_;rintro e w1 ⟨r1,rfl,hr1,hx1⟩
 go_wp2_with fail
 refine Calls.mono (HC.out.2.2 _ hx1 _ (hr1.has (by have:=HC.out.2.1;omega))) ?_;rintro e w2 ⟨r2,rfl,hr2,hx2⟩;go_wp2
 go_ret
 exact Ad.mk (hr2.base_le (Nat.zero_le _)) (hx1.trans hx2)
end Go.Proofs.YtmhgnigpmompmaaGreat
namespace Go.Hp
open Go.RowKit
def fO(F G:Nat→Rat)(S:Nat)(k:Nat)(N:Nat→Rat):Prop:=ZI N∧Af N∧(∀ i,qsz (N i)≤S)∧rd N=C9 F G (k+1)
def Kn(w:World)(v:Value)(X Y:Nat→Rat):Prop:=∃ q r,v = .tuple #[q,r]∧CQ 0 w q X∧CQ 0 w r Y
theorem Kn.ext{w w':World}{v:Value}{X Y:Nat→Rat}(h:Kn w v X Y)(e:Ext w w'):Kn w' v X Y:=by
 obtain⟨q,r,h1,h2,h3⟩:=h;exact⟨q,r,h1,CQ.ext h2 e,CQ.ext h3 e⟩
end Go.Hp
namespace Go.Proofs.YtmhgnigpmompmaaGreat
open Go.RowKit Go.Hp
theorem bQ:(Tryz.prog.info? 22).map (fun i=>(i.zero,i.size,i.bytes))=some (some (.slice none 0 0),1,24):=by kernel_rfl
theorem Uh(W:World)(v:Value)(base ty n c g:Nat)(A:Option Addr)(us:List Value)(l:List (Nat→Rat))(F:Nat→Rat)(h:Ib base 22 W v us l)(hu:AQ 0 W (.slice A n c) F)(hg:g=W.heap.size)(hn:l.length≤1000000)(hb:base≤W.heap.size) :
  ∃ v' w',(Builtin.append_ #[60,60] ty #[v,.slice (some ⟨g,0,none⟩) 1 1]).run Tryz.prog (W.alloc (.cells #[.slice A n c] 22)) = .ok v' w' ∧
   (Ib base 22 w' v' (us ++ [.slice A n c]) (l ++ [F])∧Ch (blk v) (W.alloc (.cells #[.slice A n c] 22)) w'∧Nt (W.alloc (.cells #[.slice A n c] 22)) v):=by
 subst hg;obtain⟨i0,hi,hz0,hz1,hz2⟩:=info_parts bQ;obtain⟨v',w',a,b,U,N⟩:=Ib.append (P:=Tryz.prog) h hu 60 ty i0 _ 24 Tryz.underlying60 hi hz0 hz1 hz2 rfl (by simp[nodig,Ag,Value.cells]) (by simp[QZ,Value.cells]) (by simp only[maxLen];omega) Aa hb;exact⟨v',w',a,b,U,N⟩
set_option maxRecDepth 20000 in
set_option maxHeartbeats 8000000 in
theorem X7(v:Value)(l:List Int)(S D M:Nat)(w:World)(hv:EI 0 w v l)(h0:cz l≠pz)(hl:l.length≤1000)(hs:∀ i,qsz (cz l i)≤S)(ht:∀ i,qsz (pd (cz l) i)≤S)
  (hD:pl (cz l)+pl (pd (cz l))=D) (hM:(S+1)*2^D≤M) (hB:M+(D+1)*(M+1)≤1000000) (hD9:D≤900) :
  Calls Tryz.prog 28 #[v] w (Ad w fun r w'=>∃ us K,Nv (cz l) (pd (cz l)) K∧K≤pl (pd (cz l))+1∧Ib w.heap.size 22 w' r us (F4 (cz l) (pd (cz l)) K)):=by
 have hp2:1≤2^D:=Nat.one_le_two_pow;have hSM:S+1≤M:=Nat.le_trans (by have:=Nat.mul_le_mul_left (S+1) hp2;omega) hM;have hDM:(D+1)*1≤(D+1)*(M+1):=Nat.mul_le_mul_left _ Aa;have zF:=ZI.cz l;have fF:=Af.cz l;have zG:ZI (pd (cz l)):=EM zF;have fG:Af (pd (cz l)):=BS fF;have hnm:=Gf v l w hv Aa;have hsg:=fun W u (hu:AQ 0 W u (cz l))=>QU u (cz l) W hu (fun i=>by have:=hs i;omega) Aa zF fF h0;have hder:=fun W (x:Ext w W)=>Ns v l S W (hv.ext x) hs Aa Aa
 have hsn:∀ k N W u,fO (cz l) (pd (cz l)) M k N→pl N≤1000→N≠pz→AQ 0 W u N→Calls Tryz.prog 68 #[u] W (Ad W fun r w'=>AQ 0 w' r (C9 (cz l) (pd (cz l)) (k+1))):=fun k N W u hN hn h1 hu=>by
  rw[←hN.2.2.2];exact QU u N W hu (fun i=>by have:=hN.2.2.1 i;omega) Aa hN.1 hN.2.1 h1
 obtain⟨F,hFe⟩:∃ F,F=cz l:=⟨_,rfl⟩
 obtain⟨G,hGe⟩:∃ G,G=pd F:=⟨_,rfl⟩
 simp only[←hFe]at hs ht hD zF fF zG fG hnm hsg hder hsn h0 ⊢;simp only[←hGe]at ht hD zG fG hder hsn ⊢;obtain⟨A0,c0,rfl⟩:=hv.len;have hst:∀ k,(∀ j,1≤j→j≤k→C9 F G j≠pz)→F5 F G D S (C9 F G k) (C9 F G (k+1)):=fun k h=>by rw[←hD];exact JG fF fG zF zG hs ht k h
 have hlow:=fun k h=>LH fF fG zF zG hs ht k h;have hR0:fO F G M 0 G:=⟨zG,fG,fun i=>by have:=ht i;omega,rfl⟩
 have HX:=Lib.hid (And.intro hst (And.intro hlow (And.intro hM (And.intro hB (And.intro hD9 (And.intro hD hR0))))));have HR:=Lib.hid (And.intro hnm (And.intro hsg (And.intro hder hsn)));clear hv zF zG fF fG hs ht hD hM hp2 hSM hDM hnm hsg hder hsn hst hlow hB hD9 hR0 h0 hFe hGe
 go_enter Tryz.func28,Tryz.ntmps28
 go_wp2_with fail
 refine Calls.mono HR.out.1 ?_;rintro e w0 ⟨r0,rfl,hr0,hx0⟩
 go_wp2_with fail
 refine Calls.mono (HR.out.2.1 _ _ (hr0.base_le (Nat.zero_le _))) ?_;rintro e w1 ⟨r1,rfl,hr1,hx1⟩;replace hx1:=hx0.trans hx1;obtain⟨A2,c2,rfl,-⟩:=hr1.shape;have hP1:=Ib.one (t:=22) (base:=w.heap.size) hr1 hx1.size;have hx:=hx1.alloc (.cells #[.slice A2 (pl (rd F)) c2] 22);have H1:=Lib.hid hP1;clear hP1 hr1 hx1 hr0 hx0
 go_wp2_with fail
 refine Calls.mono (HR.out.2.2.1 _ hx) ?_;rintro e w2 ⟨r2,rfl,hr2,hx2⟩;have hP2:=H1.out.ext hx2;replace hx:=hx.trans hx2;replace hr2:=hr2.base_le (b:=0) (Nat.zero_le _);clear H1 hx2;go_wp2
 go_loopw [3,4] (fun ov nv wr=>∃ k us N,Ib w.heap.size 22 wr ov us (F4 F G (k+1))∧AQ 0 wr nv N∧fO F G M k N∧(∀ j,1≤j→j≤k→C9 F G j≠pz)∧Ext w wr) (fun _ nv _=>Ra nv)
 case atStart=>exact⟨0,_,_,hP2,hr2,HX.out.2.2.2.2.2.2,fun j a b=>Aa,hx⟩
 case round =>
  clear hP2 hr2 hx;obtain⟨k,us,N,hP,hn,hN,hk,hx⟩:=hrel;obtain⟨L,d,rfl⟩:=hP.shape;obtain⟨A3,c3,rfl,-⟩:=hn.shape;have HK:=Lib.hid hk;clear hk;have hf:=(HX.out.1 k HK.out).facts;have hkl:=HX.out.2.1 k HK.out;have hkk:k≤900:=by have:=HX.out;omega
  have hNl:pl N=pl (C9 F G (k+1)):=by rw[←hN.2.2.2,dA hN.1 hN.2.1]
  by_cases h0:0 < pl N
  ·have hN0:N≠pz:=fun e=>by rw[e,BV]at h0;omega
   have hbn:C9 F G (k+1)≠pz:=fun e=>by rw[hNl,e,BV]at h0;omega
   obtain⟨fA,fB,zA,zB,hdd,qA,qB⟩:=hf;have hcl:=(HX.out.1 k HK.out).clear hbn HX.out.2.2.1;have hall:=JC fA fB hbn;have hcx:=ZA fA fB hbn;have hpr:=DJ fA fB hbn;have hnext:fO F G M (k+1) (nx (C9 F G k) (C9 F G (k+1))):=by
    refine⟨hall.1,hall.2.1,?_,?_⟩
    ·intro i
     by_cases hz:C9 F G (k+2)=pz
     ·have:nx (C9 F G k) (C9 F G (k+1))=pz:=hz
      rw[this];show qsz 0≤_;rw[II];have:=HX.out.2.2.1;have:=Nat.mul_le_mul_left (S+1) (Nat.one_le_two_pow (n:=D));omega
     ·have h1:=(HX.out.1 k HK.out).step hbn
      exact Nat.le_trans (h1.facts.2.2.2.2.2.2 i) HX.out.2.2.1
    ·by_cases hz:nx (C9 F G k) (C9 F G (k+1))=pz
     ·rw[hz,Xm];exact hz.symm
     ·exact dJ fA fB hz
   have hNs:=HR.out.2.2.2 k N;have hpN:pl N≤1000:=by have:=HX.out.2.2.2.2.1;omega
   rw[←JW]at hall hcx hnext;obtain⟨X,hXe⟩:∃ X,X=C9 F G k:=⟨_,rfl⟩
   obtain⟨Y,hYe⟩:∃ Y,Y=C9 F G (k+1):=⟨_,rfl⟩
   obtain⟨Z,hZe⟩:∃ Z,Z=C9 F G (k+2):=⟨_,rfl⟩
   obtain⟨R,hRe⟩:∃ R,R=pr X Y:=⟨_,rfl⟩
   simp only[←hXe,←hYe,←hZe]at hcl hall hcx hpr hkl hbn fB zB qB fA zA qA hdd hNs hNl hnext;simp only[←hRe]at hcl hall hcx hpr;have hM9:M≤1000000:=by have:=HX.out.2.2.2.1;have:0≤(D+1)*(M+1):=Nat.zero_le _;omega
   have hplR:pl R≤1000:=by have:=BB hpr;have:=HX.out.2.2.2.2.1;omega
   have hplXY:pl X≤1000∧pl Y≤1000:=by have:=HX.out.2.2.2.2.1;omega
   have fR:Af R:=⟨_,hpr⟩
   have hpR:∀ i,qsz (pp (Cv (pl R) R) i)≤274877906944:=fun i=>by
    have h1:=Fj (DZ (AJ fR)) (De (n:=pl R) fR) (fun j=>JQ (n:=pl R) hcl.2.2.elem j) i;have h2:pl R*(M+(D+1)*(M+1))≤1000*1000000:=Nat.mul_le_mul hplR HX.out.2.2.2.1;have:=HX.out.2.2.2.1;omega
   have hplc:pl (pp (Cv (pl R) R))≤1000:=by
    rw[Ep (DZ (AJ fR)) (De (n:=pl R) fR)];exact Nat.le_trans (BB (show Bq (pl R) (Cv (pl R) R)from(AJ fR).psc _)) hplR
   have hqc:qsz (Kv (pl R) R)≤274877906944:=by
    have h1:=U4 (AJ fR) hcl.2.2.elem;have h2:pl R*(M+(D+1)*(M+1))≤1000*1000000:=Nat.mul_le_mul hplR HX.out.2.2.2.1;have:=HX.out.2.2.2.1;omega
   have HS:=Lib.hid (And.intro (fun W u h=>hNs W u hN hpN hN0 h) (And.intro hpR (And.intro hplc hqc)));have HC:=Lib.hid (And.intro hcl (And.intro hall (And.intro hcx (And.intro hM9 (And.intro hplR (And.intro hplXY (And.intro hbn (And.intro hplR (And.intro hplR hnext)))))))));have HE:=Lib.hid (And.intro hXe (And.intro hYe (And.intro hZe (And.intro hRe hNl))));have hlt:(F4 F G (k+1)).length=k+1:=Co _ _ _
   have HN:=Lib.hid hn;rw[hlt]at hP ⊢;have HP:=Lib.hid hP;clear hcl hall hcx hM9 hplR hplXY hpR hplc hpr fA fB zA zB hdd qA qB hbn hXe hYe hZe hRe hn hP hlt hNs hN hN0 hNl hnext hqc fR
   go_wp2_with fail
   refine Calls.mono (HS.out.1 _ _ HN.out) ?_;rintro e w5 ⟨r5,rfl,hr5,hx5⟩;obtain⟨A5,c5,rfl,-⟩:=hr5.shape;have HP5:=Lib.hid (And.intro (HP.out.ext hx5) hr5);have hbl:=Lib.hid (HP.out.ext hx5).out.blk_ge;replace hx:=hx.trans hx5;clear hx5 hr5 HP HN
   go_wp2_with (at_builtin;refine AB rfl _ _ 60 rfl (.slice L (k+1) d) (.slice (some ⟨w5.heap.size,0,none⟩) 1 1) rfl rfl (Uh w5 _ w.heap.size _ _ _ _ _ us _ _ HP5.out.1 HP5.out.2 rfl (by rw[Co];omega) hx.size) ?_)
   intro v' w6 hP6 U hNB;have xa:=(Ext.refl w5).alloc (.cells #[.slice A5 (pl Y) c5] 22);have hP7:=hP6;rw[show F4 F G (k+1) ++ [Y]=F4 F G (k+1+1)from by rw[HE.out.2.1,←PO]]at hP7;obtain⟨L2,d2,rfl⟩:=hP7.shape;have hx7:=U.from_ (hx.trans xa) (fun g' hg=>(hbl.out _ hg).1);have hlt:(F4 F G (k+1+1)).length=k+2:=Co _ _ _;have hat:=hP7.at_ (i:=k) (by rw[hlt];omega);have hbt:=hP7.at_ (i:=k+1) (by rw[hlt];omega)
   rw[OT]at hat hbt;obtain⟨g5,o5,E5,d5,rfl,hc5,h5⟩:=hat;obtain⟨g6,o6,E6,d6,e6,hc6,h6⟩:=hbt;cases e6;rw[←HE.out.1]at hc5 h5;rw[←HE.out.2.1]at hc6 h6;have H7:=Lib.hid (And.intro hP7 (And.intro h5 h6));rw[hlt];clear hP6 hP7 h5 h6 U hNB xa hx HP5 hbl hlt
   go_upto_region 6 with(fail)
   go_cut [6,7] (fun qv rv wx=>CQ 0 wx qv (pq X Y)∧CQ 0 wx rv (pr X Y)∧Ext w6 wx)
   case first =>
    refine BJ 16 15 1 [27,28,29,30,31,32,33,34,35,36,37,38,39,26,40,41] [[],[],[1],[0,1,2],[0,1,2,3],[0,1,2,3,4],[],[],[7],[6,7,8],[6,7,8,9],[0,1,2,3,4,5,6,7,8,9,10],[0,1,2,3,4,5,6,7,8,9,10,11],[0,1,2,3,4,5,6,7,8,9,10,11,12],[0,1,2,3,4,5,6,7,8,9,10,11,12,13],[0,1,2,3,4,5,6,7,8,9,10,11,12,13],[0,1,2,3,4,5,6,7,8,9,10,11,12,13,14],[0,1,2,3,4,5,6,7,8,9,10,11,12,13,14,15,16]] [3,5] [_,_] [(kv ?_),(kv ?_),(kv ?_),(kv ?_),(kv ?_),(fun γ=>γ 5),(kv ?_),(kv ?_),(kv ?_),(kv ?_),(kv ?_),(fun γ=>γ 11),(fun γ=>γ 12),(fun γ=>γ 12),(fun γ=>γ 14),(fun γ=>γ 15)] (fun γ w'=>[True,True,True,True,True,CQ 0 w' (γ 5) X,True,True,True,True,True,CQ 0 w' (γ 11) Y,Kn w' (γ 12) (pq X Y) (pr X Y),True,CQ 0 w' (γ 14) (pq X Y),CQ 0 w' (γ 15) (pr X Y)]) _ rfl Bd Ah Ah Ah Ah Ah Bb Ah Bc ?hmono1 ?hstep1 ?_ ?hlate1
    case hstep1 =>
     iterate 16 refine⟨?_,?_⟩
     trivial
     iterate 5 focus
      intro γ w' he hf;clear hf;refine⟨by trivial,?_⟩;intro R hR;have hc:=he.cells;have cq0:=he.cell hc5;have cq1:=he.cell hc6;go_simp;(try go_ints);(try(rw[if_neg Aa]));(try(rw[if_pos Aa]));(try go_simp);(try go_ints)
      refine hR _ _ (Ext.refl _) ?_ trivial;rfl
     ·intro γ w' he hf;clear hf;refine⟨trivial,?_⟩;intro R hR
      go_simp;exact AX (F:=fun r w''=>CQ 0 w'' (r) X) (Wn _ X w' (H7.out.2.1.ext he) (fun i=>by have:=HC.out.1.1.elem i;have:=HC.out.2.2.2.1;omega) (by have:=HC.out.2.2.2.2.2.1;omega)) hR
     iterate 5 focus
      intro γ w' he hf;clear hf;refine⟨by trivial,?_⟩;intro R hR;have hc:=he.cells;have cq0:=he.cell hc5;have cq1:=he.cell hc6;go_simp;(try go_ints);(try(rw[if_neg Aa]));(try(rw[if_pos Aa]));(try go_simp);(try go_ints)
      refine hR _ _ (Ext.refl _) ?_ trivial;rfl
     ·intro γ w' he hf;clear hf;refine⟨trivial,?_⟩;intro R hR
      go_simp;exact AX (F:=fun r w''=>CQ 0 w'' (r) Y) (Wn _ Y w' (H7.out.2.2.ext he) (fun i=>by have:=HC.out.1.2.1.elem i;have:=HC.out.2.2.2.1;omega) (by have:=HC.out.2.2.2.2.2.1;omega)) hR
     ·intro γ w' he hf;have f5:CQ 0 w' (γ 5) X:=hf 5 Ab;have f11:CQ 0 w' (γ 11) Y:=hf 11 Ab;clear hf;refine⟨trivial,?_⟩;intro R hR
      go_simp;exact AX (Rq _ _ X Y M w' f5 f11 HC.out.2.2.2.2.2.2.1 HC.out.1.1 HC.out.1.2.1 HC.out.2.2.2.1 HC.out.2.2.2.2.2.1.1 HC.out.2.2.2.2.2.1.2) hR
     ·intro γ w' he hf;clear hf;refine⟨trivial,?_⟩;intro R hR
      have hc:=he.cells;go_simp
      (try go_ints);(try(rw[if_neg Aa]));(try(rw[if_pos Aa]));(try go_simp);(try go_ints)
      refine hR _ _ (Ext.refl _) ?_ trivial;rfl
     ·intro γ w' he hf;have f12:Kn w' (γ 12) (pq X Y) (pr X Y):=hf 12 Ab;clear hf;refine⟨trivial,?_⟩;intro R hR
      obtain⟨q',r',e,ha,hb⟩:=f12;go_simp;exact hR _ _ (Ext.refl _) rfl ha
     ·intro γ w' he hf;have f12:Kn w' (γ 12) (pq X Y) (pr X Y):=hf 12 Ab;clear hf;refine⟨trivial,?_⟩;intro R hR
      obtain⟨q',r',e,ha,hb⟩:=f12;go_simp;exact hR _ _ (Ext.refl _) rfl hb
    case hmono1 =>
     exact⟨⟨⟨⟨⟨⟨⟨⟨⟨⟨⟨⟨⟨⟨⟨⟨trivial,(fun γ wA w' e h=>h)⟩,(fun γ wA w' e h=>h)⟩,(fun γ wA w' e h=>h)⟩,(fun γ wA w' e h=>h)⟩,(fun γ wA w' e h=>h)⟩,(fun γ wA w' e h=>(show CQ 0 wA (γ 5) X from h).ext e)⟩,(fun γ wA w' e h=>h)⟩,(fun γ wA w' e h=>h)⟩,(fun γ wA w' e h=>h)⟩,(fun γ wA w' e h=>h)⟩,(fun γ wA w' e h=>h)⟩,(fun γ wA w' e h=>(show CQ 0 wA (γ 11) Y from h).ext e)⟩,(fun γ wA w' e h=>(show Kn wA (γ 12) (pq X Y) (pr X Y)from h).ext e)⟩,(fun γ wA w' e h=>h)⟩,(fun γ w w' e h=>CQ.ext h e)⟩,(fun γ w w' e h=>CQ.ext h e)⟩
    case hlate1 =>
     intro γ w8 hx8 hF;have p5:CQ 0 w8 (γ 5) X:=(Au.get hF 5 Ab).resolve_left Ab;have p11:CQ 0 w8 (γ 11) Y:=(Au.get hF 11 Ab).resolve_left Ab;have p12:Kn w8 (γ 12) (pq X Y) (pr X Y):=(Au.get hF 12 Ab).resolve_left Ab;have p14:CQ 0 w8 (γ 14) (pq X Y):=(Au.get hF 14 Ab).resolve_left Ab;clear hF;simp only[AZ,Nat.reduceAdd,EB,Array.getD_eq_getD_getElem?,List.getElem?_toArray,List.getElem?_cons_succ,List.getElem?_cons_zero,Option.getD_some]
     generalize γ 5=g5 at *;generalize γ 11=g11 at *;generalize γ 12=g12 at *;generalize γ 14=g14 at *;clear γ;obtain⟨q12,r12,rfl,hq12,hr12⟩:=p12;clear hc5 hc6 p5 p11;go_wp2;refine⟨?_,trivial⟩;go_wp2
     first | (go_meet;case rel=>exact⟨p14,p15,hx8⟩) | (go_meet;case rel=>exact⟨p14,hr12,hx8⟩)
    intro γ w8 hx8 hF;have p5:CQ 0 w8 (γ 5) X:=Au.get hF 5 Ab;have p11:CQ 0 w8 (γ 11) Y:=Au.get hF 11 Ab;have p12:Kn w8 (γ 12) (pq X Y) (pr X Y):=Au.get hF 12 Ab;have p14:CQ 0 w8 (γ 14) (pq X Y):=Au.get hF 14 Ab;have p15:CQ 0 w8 (γ 15) (pr X Y):=Au.get hF 15 Ab;clear hF;simp only[AZ,Nat.reduceAdd];generalize γ 5=g5 at *;generalize γ 11=g11 at *;generalize γ 12=g12 at *;generalize γ 14=g14 at *;generalize γ 15=g15 at *
    clear γ;obtain⟨q12,r12,rfl,hq12,hr12⟩:=p12;clear hc5 hc6 p5 p11;go_wp2
    first | (go_meet;case rel=>exact⟨p14,p15,hx8⟩) | (go_meet;case rel=>exact⟨p14,hr12,hx8⟩)
   case rest =>
   clear hc5 hc6;obtain⟨hq10,hr10,hx8⟩:=hcut;obtain⟨Aq,cq,_,rfl,-⟩:=hq10.form;obtain⟨Ar,cr,_,rfl,-⟩:=hr10.form;have H9:=Lib.hid (H7.out.1.ext hx8);replace hx7:=hx7.trans hx8;have hx10:=Ext.refl wc;have H9:=Lib.hid (And.intro H9.out True.intro);clear hx8 H7;rw[←HE.out.2.2.2.1]at hr10 ⊢;have H10:=Lib.hid (And.intro (H9.out.1.ext hx10) hr10);replace hx7:=hx7.trans hx10;clear hx10 hr10 hq10 H9
   go_wp2_with fail
   refine Calls.mono (Vn _ R (M+(D+1)*(M+1)) _ H10.out.2 HC.out.1.2.2 HX.out.2.2.2.1 HC.out.2.2.2.2.1) ?_;rintro e w11 ⟨r11,rfl,⟨pv,cv,rfl,hp11,hc11⟩,hx11⟩;obtain⟨Ap,cp,rfl,-⟩:=hp11.shape;obtain⟨b5,B5,n5,e5,b6,B6,n6,e6,rfl⟩:=hc11.cells;obtain⟨W12,eW,ec,x12⟩:=Be.made w11 28 #[.bool b5,.slice B5 n5 e5,.bool b6,.slice B6 n6 e6] (by simp[Ag]);have H12:=Lib.hid (And.intro ((H10.out.1.ext hx11).ext x12) (And.intro (hp11.ext x12) (hc11.ext x12)))
   replace hx7:=(hx7.trans hx11).trans x12;clear hx11 hp11 hc11 x12 H10
   go_upto_region 8 with(fail)
   rw[←eW];clear eW;generalize w11.heap.size=gc at *;obtain⟨cec0,cec1,cec2,cec3⟩:=ec.cells4;have fec:=ec.frozen;have hcx:=HC.out.2.2.1
   go_wp2_with fail
   refine Calls.mono (Pf _ (Kv (pl R) R) _ (H12.out.2.2.has HS.out.2.2.2)) ?_;rintro e w13 ⟨r13,rfl,rfl,hx13⟩;replace hx7:=hx7.trans hx13;have H13a:=Lib.hid (And.intro (H12.out.1.ext hx13) (H12.out.2.1.ext hx13));clear hx13 H12 cec0 cec1 cec2 cec3 fec ec;by_cases hc:0 < Kv (pl R) R
   ·rw[Oq hc]
    rw[if_pos hc]at hcx;have HCX:=Lib.hid hcx;clear hcx hc
    go_wp2_with fail
    refine Calls.mono (Ls (-1) _ Aa Aa) ?_;rintro e w14 ⟨r14,rfl,hr14,hx14⟩;have H14:=Lib.hid (And.intro (H13a.out.1.ext hx14) (H13a.out.2.ext hx14));replace hx7:=hx7.trans hx14;clear hx14 H13a
    go_wp2_with fail
    refine Calls.mono (aN _ _ _ (-1) 274877906944 _ H14.out.2 (hr14.has Ab) HS.out.2.1 (by decide +kernel) (by have:=HS.out.2.2.1;omega)) ?_;rintro e w15 ⟨r15,rfl,hr15,hx15⟩;replace hr15:=hr15.cast (show psc (((-1:Int):Rat)) (pp (Cv (pl R) R))=Z from by rw[HCX.out];rfl);obtain⟨A15,c15,rfl,-⟩:=hr15.shape;have H13:=Lib.hid (And.intro (H14.out.1.ext hx15) hr15);replace hx7:=hx7.trans hx15;clear hx15 H14 hr15 hr14 HCX
    go_wp2
    go_roundw
    case rel=>exact⟨k+1,_,Z,(by have:=H13.out.1;rw[Co]at this;exact this),H13.out.2,HC.out.2.2.2.2.2.2.2.2.2,fun j a1 a2=>by
     rcases Nat.lt_or_ge j (k+1)with a3 | a3
     ·exact HK.out j a1 Aa
     ·obtain rfl:j=k+1:=by omega
      rw[←HE.out.2.1];exact HC.out.2.2.2.2.2.2.1,hx7⟩
    case measure =>
     have h1:=HC.out.2.1.2.2.2.1;have h2:=HE.out.2.2.2.2;simp only[Ra];omega
   ·have hsg:=XZ hc
    have hdec:decide (0 < KA (Kv (pl R) R))=false:=decide_eq_false Aa;rw[if_neg hc,Ca]at hcx;have hr15:=H13a.out.2;rw[←hcx]at hr15 ⊢;have H13:=Lib.hid (And.intro H13a.out.1 hr15);clear hcx hc H13a hr15;go_wp2
    go_roundw
    case rel=>exact⟨k+1,_,Z,(by have:=H13.out.1;rw[Co]at this;exact this),H13.out.2,HC.out.2.2.2.2.2.2.2.2.2,fun j a1 a2=>by
     rcases Nat.lt_or_ge j (k+1)with a3 | a3
     ·exact HK.out j a1 Aa
     ·obtain rfl:j=k+1:=by omega
      rw[←HE.out.2.1];exact HC.out.2.2.2.2.2.2.1,hx7⟩
    case measure =>
     have h1:=HC.out.2.1.2.2.2.1;have h2:=HE.out.2.2.2.2;simp only[Ra];omega
  ·have hz:C9 F G (k+1)=pz:=(BF hf.2.1).1 Aa
   have hS:Nv F G (k+1):=⟨Aa,hz,fun j a b=>HK.out j a Aa⟩
   have HS:=Lib.hid hS;clear hS hz hf;have HP:=Lib.hid hP;clear hP hN hn;have hlt:(F4 F G (k+1)).length=k+1:=Co _ _ _;go_wp2
   go_ret
   exact Ad.mk ⟨us,k+1,HS.out,Aa,HP.out⟩ hx
end Go.Proofs.YtmhgnigpmompmaaGreat
namespace Go.Proofs.YtmhgnigpmompmaaGreat
open Go.RowKit
end Go.Proofs.YtmhgnigpmompmaaGreat
namespace Go.Hp
open Go.RowKit
def OM(e:TypeId)(base:Nat)(w:World)(v:Value)(l:List Nat):Prop:=w.ownsRow base e 1 v l.length (l.map fun d=>Value.int .u8 (d:Nat))
theorem OM.alloc{e:TypeId}{base:Nat}{w:World}{v:Value}{l:List Nat}(h:OM e base w v l)(o:Obj):OM e base (w.alloc o) v l:=World.ownsRow.alloc h o
theorem OM.from_{e:TypeId}{base:Nat}{a w w':World}{v:Value}{l:List Nat}(h:OM e base w v l)(hg:w.grownBy w' v.ownBlock)(x:Ext a w)(hb:a.heap.size≤base):Ext a w':=
 x.grown hg fun k hk=>Nat.le_trans hb (World.ownsRow.lt h k hk).1
theorem OM.row{e:TypeId}{base:Nat}{w:World}{v:Value}{l:List Nat}(h:OM e base w v l)(h0:l≠[]):∃ g cap,v = .slice (some ⟨g,0,none⟩) l.length cap∧base≤g∧l.length≤cap∧cap≤maxLen∧∀ j (hj:j < l.length),w.cell? ⟨g,j,none⟩=some (.int .u8 (l[j]:Nat)):=by
 rcases h.2 with⟨-,h1⟩ | ⟨g,cap,cur,hv,r⟩
 ·exact absurd (List.eq_nil_of_length_eq_zero h1) h0
 ·refine⟨g,cap,hv,r.1,r.2.2.1,r.2.2.2.1,fun j hj=>?_⟩
  have:=World.ownsRow.cells h (g:=g) (by rw[hv];rfl) j (.int .u8 (l[j]:Nat)) (by simp[hj]);have e:(⟨g,0,none⟩:Addr).add j=⟨g,j,none⟩:=by simp only[Addr.add];split<;>simp_all
  rw[e]at this;exact this
theorem Be.grown{A B:World}{row:Option Nat}{g:Nat}{t:TypeId}{cs:Array Value}(h:Be A g t cs)(hg:A.grownBy B row)(hne:row≠some g):Be B g t cs:=
 ⟨(hg.block g h.lt (fun e=>hne e.symm)).trans h.1,h.2⟩
theorem OM.ne{e:TypeId}{base g:Nat}{w:World}{v:Value}{l:List Nat}(h:OM e base w v l)(hg:g < base):v.ownBlock≠some g:=fun e=>by
 have:=(World.ownsRow.lt h g e).1;omega
end Go.Hp
namespace Go.Proofs.YtmhgnigpmompmaaGreat
open Go.RowKit Go.Hp
theorem dO(v:Value)(x:Int)(w:World)(hv:Bj w v x):Calls Tryz.prog 162 #[v] w (Ad w fun r w'=>AC w' r (x.natAbs:Nat)):=by
 obtain⟨neg,A,n,c,N,rfl,h1,h2,h3,hN,hx⟩:=hv.form;have HN:=Lib.hid hN;clear hN hv;have Hx:=Lib.hid (show((x.natAbs:Nat):Int)=if false=true then -(N:Int)else N by rw[hx];cases neg<;>simp);clear hx;have hs:sz N≤n:=HN.out.sz
 go_enter Tryz.func162,Tryz.ntmps162
 go_wp2_with fail
 refine Calls.mono (Bz _ N n _ (HN.out.ext (((Ext.refl w).alloc _).alloc _))) ?_;rintro e w1 ⟨r1,rfl,p5,hx1⟩
 go_wp2_with fail
 refine Calls.mono (IY _ N _ p5 Aa) ?_;rintro e w2 ⟨r2,rfl,p6,hx2⟩;replace hx1:=hx1.trans hx2
 go_wp2_with fail
 refine Calls.mono (Cn (x.natAbs:Nat) false _ N _ w2 Hx.out (p6.num (Nat.le_refl _))) ?_;rintro e w3 ⟨r3,rfl,hr,hx3⟩;replace hx1:=hx1.trans hx3;obtain⟨b5,A5,n5,c5,rfl⟩:=hr.cells;have hc1:=hx1.cells;have hf1:=hx1.frozens;have Hfin:=Lib.hid (BZ hr hx1.a2 (AL.at_ hx1 (g:=w.heap.size+1) Ac (by simp[Ag])) Aa);clear hr;go_wp2;refine bodyPost_ret (v := .agg #[.bool b5,.slice A5 n5 c5]) (by simp[results,Tryz.results162,go_sem,hc1]) rfl ?_
 exact Hfin.out
end Go.Proofs.YtmhgnigpmompmaaGreat
namespace Go.Hp
open Go.RowKit
def dz(n k:Nat)(h:k≤n):List (Fin n):=(List.range k).pmap (fun j (hj:j < n)=>(⟨n - 1 - j,Aa⟩:Fin n)) (fun j hj=>by have:=List.mem_range.1 hj;omega)
theorem OV{n k:Nat}(h:k+1≤n):dz n (k+1) h=dz n k (by omega) ++ [⟨n - 1 - k,by omega⟩]:=by
 unfold dz;simp[List.range_succ,List.pmap_append]
theorem Uf{n k:Nat}(h:k≤n):(dz n k h).length=k:=by simp[dz]
def FB(W:World)(b o:Nat)(v:Value):Prop:=
 ∃ b1 A1 n1 c1,v = .agg #[.bool b1,.slice A1 n1 c1]∧W.cell? ⟨b,o,none⟩=some (.bool b1)∧W.cell? ⟨b,o+1,none⟩=some (.slice A1 n1 c1)
theorem FB.below{n₀ b o:Nat}{A B:World}{v:Value}(h:Below n₀ A B)(hb:b < n₀)(c:FB A b o v):FB B b o v:=by
 obtain⟨b1,A1,n1,c1,e,q0,q1⟩:=c;exact⟨b1,A1,n1,c1,e,(h.cell (p:=⟨b,o,none⟩) hb).trans q0,(h.cell (p:=⟨b,o+1,none⟩) hb).trans q1⟩
def Vx(n₀ Bs:Nat)(W W':World):Prop:=Below n₀ W W'∧∀ v,W.cell? ⟨Bs,0,none⟩=some v→W'.cell? ⟨Bs,0,none⟩=some v
theorem Vx.refl(n₀ Bs:Nat)(W:World):Vx n₀ Bs W W:=⟨Below.refl _ _,fun _ h=>h⟩
theorem Vx.trans{n₀ Bs:Nat}{A B C:World}(h:Vx n₀ Bs A B)(k:Vx n₀ Bs B C):Vx n₀ Bs A C:=⟨h.1.trans k.1,fun v e=>k.2 v (h.2 v e)⟩
theorem dN{n₀ Bs:Nat}{w:World}(hn:n₀≤w.heap.size)(W:World)(l:Nat)(o o':Obj)(hl:w.heap.size≤l)(h:W.heap[l]? = some o)(h1:o.isCells=false)(h2:o.isWalk=false):Vx n₀ Bs W (W.putObj l o'):=
 ⟨belowK_b hn W l o o' hl h h1 h2,fun v e=>cell_kept e (grownBy_putObj' W l o') (fun r er=>by cases er;exact⟨o,h,h1⟩)⟩
end Go.Hp
namespace Go.Proofs.YtmhgnigpmompmaaGreat
open Go.RowKit Go.Hp Go.Shelf
attribute [local go_sem] Oper.semAt_some
set_option maxRecDepth 100000 in
set_option maxHeartbeats 2000000 in
theorem V8(F:Fence)(n:Nat)(h7:F.fn 171)(hro:F.round=none)(hn:1≤n)(l Bs n₀ b off len cap:Nat)(enc:Fin len→Value)(hreach:len*4≤1099511627776)(hb:b < n₀)(J Jx:List (Fin len)→World→Prop)
  (hY:∀ pre x W,J pre W→pre.length < len→YieldAt F (n - 1) Tryz.prog l #[.int .i64 (x.1:Nat),enc x] W fun e W' =>
   (e = .returned (.bool true)∧J (pre ++ [x]) W'∧Vx n₀ Bs W W')∨(e = .returned (.bool false)∧Jx (pre ++ [x]) W'))
  (W:World) (hBs:W.cell? ⟨Bs,0,none⟩=some (.slice (some ⟨b,off,none⟩) len cap)) (hc:∀ j (hj:j < len),FB W b (off+j*2) (enc ⟨j,hj⟩)) (h0:J [] W) :
  CallsIn F n Tryz.prog 171 #[.func (.yield l) #[] #[],.pointer (some ⟨Bs,0,none⟩)] W fun e W'=>(∃ v,e = .returned v) ∧
   ((∃ ys,ys=dz len len (Nat.le_refl _)∧J ys W')∨(∃ pre,(∃ k,∃ h:k≤len,pre=dz len k h)∧Jx pre W')):=by
 refine callsIn_of_wp Tryz.func171 rfl h7 ?_ hro;simp only[Tryz.ntmps171,List.size_toArray,List.length_cons,List.length_nil,Nat.reduceAdd,Nat.reduceSub,Array.replicate_succ,Array.replicate_zero,List.push_toArray,List.append_toArray,List.nil_append,List.cons_append]
 gi_wp2
 gi_loopw [3] (fun i wr=>∃ (k:Nat) (hk:k≤len),i = .int .i64 ((len:Int) - 1 - k)∧J (dz len k hk) wr∧Vx n₀ Bs W wr)
  (fun i _=>(intOf i+1).toNat)
 case atStart=>exact⟨0,Nat.zero_le _,by go_num,h0,Vx.refl _ _ _⟩
 case round =>
  obtain⟨k,hk,rfl,hJs,hnx⟩:=hrel;by_cases hlt:k < len
  ·obtain⟨b1,A1,n1,c1,hv,q0,q1⟩:=(hc (len - 1 - k) Aa).below hnx.1 hb
   have hbx:=hnx.2 _ hBs;obtain⟨fn,tmps,assign,body,hy,hR⟩:=hY _ ⟨len - 1 - k,Aa⟩ wr hJs (by rw[Uf];exact hlt)
   dsimp only at hy
   rw[hv]at hy;obtain⟨m,hm⟩:∃ m,m=len - 1 - k:=⟨_,rfl⟩
   have hmi:(len:Int) - 1 - k=(m:Int):=by omega
   have hml:m < len:=by omega
   simp only[←hm]at hy q0 q1;rw[hmi];clear hJs hY h0 hc;have Hm:=Lib.hid (And.intro hm hmi);clear hm hmi
   gi_wp2
   refine hR.mono ?_;rintro e W3 (⟨rfl,hJ3,hk3⟩ | ⟨rfl,hJx3⟩)
   ·gi_wp2
    go_roundw
    case rel=>exact⟨k+1,Aa,by have:=Hm.out.2;congr 1;omega,by rw[OV];exact hJ3,hnx.trans hk3⟩
    case measure=>simp[intOf]
   ·gi_wp2
    refine bodyPost_ret (results_none rfl _ _ _) rfl ?_;exact⟨⟨_,rfl⟩,.inr ⟨_,⟨k+1,Aa,(OV Aa).symm⟩,hJx3⟩⟩
  ·obtain rfl:k=len:=by omega
   gi_wp2
   go_end0
   exact⟨⟨_,rfl⟩,.inl ⟨_,rfl,hJs⟩⟩
set_option maxRecDepth 100000 in
set_option maxHeartbeats 1000000 in
theorem Nj(F:Fence)(n:Nat)(h7:F.fn 171)(hro:F.round=none)(l Bs cap:Nat)(A:Option Addr)(J:List (Fin 0)→World→Prop)(W:World)(hBs:W.cell? ⟨Bs,0,none⟩=some (.slice A 0 cap))(h0:J [] W) :
  CallsIn F n Tryz.prog 171 #[.func (.yield l) #[] #[],.pointer (some ⟨Bs,0,none⟩)] W fun e W'=>(∃ v,e = .returned v)∧J [] W':=by
 refine callsIn_of_wp Tryz.func171 rfl h7 ?_ hro;simp only[Tryz.ntmps171,List.size_toArray,List.length_cons,List.length_nil,Nat.reduceAdd,Nat.reduceSub,Array.replicate_succ,Array.replicate_zero,List.push_toArray,List.append_toArray,List.nil_append,List.cons_append]
 gi_wp2
 gi_loopw [3] (fun i wr=>i = .int .i64 (-1)∧J [] wr) (fun _ _=>0)
 case atStart=>exact⟨rfl,h0⟩
 case round =>
  obtain⟨rfl,hJs⟩:=hrel
  gi_wp2
  go_end0
  exact⟨⟨_,rfl⟩,hJs⟩
set_option maxHeartbeats 1000000 in
/-- slices.Backward(s): the slice is boxed;the function captures the box. -/
theorem Xa(F:Fence)(n:Nat)(h5:F.fn 139)(hro:F.round=none)(a:Option Addr)(len cap:Nat)(w:World) :
  CallsIn F n Tryz.prog 139 #[.slice a len cap] w fun e w'=>e = .returned (.func (.func 171) #[] #[.pointer (some ⟨w.heap.size,0,none⟩)])∧w'=w.alloc (.cells #[.slice a len cap] 23):=by
 refine callsIn_of_wp Tryz.func139 rfl h5 ?_ hro;simp only[Tryz.ntmps139,List.size_toArray,List.length_cons,List.length_nil,Nat.reduceAdd,Nat.reduceSub,Array.replicate_succ,Array.replicate_zero,List.push_toArray,List.append_toArray,List.nil_append,List.cons_append]
 gi_wp2
 go_ret
 exact⟨rfl,rfl⟩
theorem QT(F:Fence)(n:Nat)(h7:F.fn 171)(hro:F.round=none)(hn:1≤n)(Bs n₀ len cap:Nat)(A:Option Addr)(enc:Fin len→Value)(hreach:len*4≤1099511627776)(w:World)(hBs:Bs < w.heap.size)(hn₀:n₀≤w.heap.size)
  (hc:w.cell? ⟨Bs,0,none⟩=some (.slice A len cap)) (hI:0 < len→∃ b off,A=some ⟨b,off,none⟩∧b < n₀∧∀ j (hj:j < len),FB w b (off+j*2) (enc ⟨j,hj⟩)) :
  SeqStopsK F n Tryz.prog 171 #[.pointer (some ⟨Bs,0,none⟩)] (fun x:Fin len=>#[Value.int .i64 (x.1:Nat),enc x]) (Vx n₀ Bs) (fun ys=>ys=dz len len (Nat.le_refl _)) (fun pre=>∃ k,∃ h:k≤len,pre=dz len k h) len w:=fun l J Jx W hW _ _ hY h0=>by
 have hc':=(hW.cell (p:=⟨Bs,0,none⟩) hBs).trans hc;by_cases hl:0 < len
 ·obtain⟨b,off,rfl,hb,hcs⟩:=hI hl
  exact V8 F n h7 hro hn l Bs n₀ b off len cap enc hreach hb J Jx hY W hc' (fun j hj=>(hcs j hj).below (hW.mono hn₀) hb) h0
 ·obtain rfl:len=0:=by omega
  exact(Nj F n h7 hro l Bs cap A J W hc' h0).mono fun e W' ⟨he,hj⟩=>⟨he,.inl ⟨_,rfl,hj⟩⟩
end Go.Proofs.YtmhgnigpmompmaaGreat
