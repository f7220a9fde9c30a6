/- Lemmas. -/
import Derived.Test.YtmhgnigpmompmaaGreatCv1
set_option linter.unusedVariables false
set_option linter.unusedSimpArgs false
set_option maxHeartbeats 16000000
namespace Go.Hp
open Go.RowKit
theorem AO.nat{w:World}{A:Option Addr}{n c:Nat}{b:Bool}{x:Int}(h:AO w (.agg #[.bool b,.slice A n c]) x):BA w (.slice A n c) x.natAbs:=by
 obtain⟨A',c',e,_,_,k⟩:=h.form;simp only[Value.agg.injEq,Array.mk.injEq,List.cons.injEq,Value.slice.injEq]at e;obtain⟨_,⟨rfl,rfl,rfl⟩,_⟩:=e;exact k
end Go.Hp
namespace Go.Proofs.YtmhgnigpmompmaaGreat
open Go.RowKit Go.Hp
theorem Ob(v u:Value)(N M:Nat)(w:World)(hv:BA w v N)(hu:BA w u M):Bh 110 #[v,u] w (fun r _=>r = .bool (decide (N < M))):=by
 obtain⟨ds,hd,rfl,ht⟩:=hv;obtain⟨es,he,rfl,ht'⟩:=hu;exact Zf v u ds es w hd he ht ht'
theorem Ui(v u:Value)(N M l m:Nat)(w:World)(hv:Cr w v N l)(hu:Cr w u M m)(hn:l≤1099511627776)(hm:m≤1099511627776) :
  Bh 109 #[v,u] w (fun r w'=>Cr w' r (N+M) (max l m+1)):=by
 obtain⟨ds,hd,rfl,hl⟩:=hv;obtain⟨es,he,rfl,hl'⟩:=hu;exact Ah.imp (eO v u ds es w hd he Aa Aa) fun _ _ ⟨k,h1,h2,h3⟩=>⟨k,h1,h2,Aa⟩
theorem NK(v u:Value)(N M:Nat)(w:World)(hv:BA w v N)(hu:BA w u M)(hle:M≤N)(hn:sz N≤1099511627776) :
  Bh 111 #[v,u] w (fun r w'=>Cr w' r (N - M) (sz N)):=by
 obtain⟨ds,hd,hN,ht,hl⟩:=hv.len;obtain⟨es,he,hM,ht',hl'⟩:=hu.len;subst hN hM;exact Ah.imp (ZJ v u ds es w hd he Aa (by rw[hl,hl'];exact Bp hle) hle) fun _ _ ⟨k,h1,h2,h3⟩=>⟨k,h1,h2,Aa⟩
theorem O9(v u:Value)(x y:Int)(w:World)(hv:Bu w v x)(hu:Bu w u y)(sx:sz x.natAbs≤549755813888)(sy:sz y.natAbs≤549755813888):Bh 61 #[v,u] w (fun r w'=>AO w' r (x+y)):=by
 have HV:=Ad hv;have HU:=Ad hu;obtain⟨neg,A,n,c,N,rfl,-,-,-,-,-⟩:=hv.form;obtain⟨neg',A',n',c',M,rfl,-,-,-,-,-⟩:=hu.form;clear hv hu
 go_enter Tryz.func61,Tryz.ntmps61
 go_wp2_with fail
 refine CU 6 [7,8,9,10,5,6] [[],[0],[],[0,1,2],[],[],[0,1,2,3,4,5],[0,1,2,3,4,5,6]] [2,3] [_,_] [(kv ?_),(fun γ=>γ 1),(kv ?_),(fun γ=>γ 3),(fun γ=>γ 4),(fun γ=>γ 5)] (fun γ w'=>[True,AO w' (γ 1) x,True,AO w' (γ 3) y,AZ w' (γ 4) (w.heap.size+3) #[.bool false,.slice none 0 0] 26,AZ w' (γ 5) (w.heap.size+3) #[.bool false,.slice none 0 0] 26]) Bn Aj Aj Bo Aj Bl Br ?hstep1 ?_
 case hstep1 =>
  iterate 6 refine⟨?_,?_⟩
  trivial
  iterate 1 focus
   intro γ w' he hf;clear hf;refine⟨by trivial,?_⟩;intro R hR;have hc:=he.cells;go_simp;refine hR _ _ (Ext.refl _) ?_ trivial;rfl
  ·intro γ w' he hf;clear hf;refine⟨trivial,?_⟩;intro R hR
   go_simp;exact Bd (EN _ x w' (HV.out.ext he.a3)) hR
  iterate 1 focus
   intro γ w' he hf;clear hf;refine⟨by trivial,?_⟩;intro R hR;have hc:=he.cells;go_simp;refine hR _ _ (Ext.refl _) ?_ trivial;rfl
  ·intro γ w' he hf;clear hf;refine⟨trivial,?_⟩;intro R hR
   go_simp;exact Bd (EN _ y w' (HU.out.ext he.a3)) hR
  ·intro γ w' he hf;clear hf;refine⟨trivial,?_⟩;intro R hR
   go_simp;exact hR _ _ ((Ext.refl _).alloc _) rfl (AZ.mk (Nat.le_trans Ac he.size) (by simp[Ag]))
  ·intro γ w' he hf;clear hf;refine⟨trivial,?_⟩;intro R hR
   go_simp;exact hR _ _ ((Ext.refl _).alloc _) rfl (AZ.mk (Nat.le_trans Ac he.size) (by simp[Ag]))
 intro γ w1 hx1 hF hA;have na4x5:γ 4≠γ 5:=hA 4 5 Ab Ab Ab ⟨_,_,rfl,rfl⟩ ⟨_,_,rfl,rfl⟩;clear hA;have p1:AO w1 (γ 1) x:=AA.get hF 1 Ab;have p3:AO w1 (γ 3) y:=AA.get hF 3 Ab;have p4:AZ w1 (γ 4) (w.heap.size+3) #[.bool false,.slice none 0 0] 26:=AA.get hF 4 Ab;have p5:AZ w1 (γ 5) (w.heap.size+3) #[.bool false,.slice none 0 0] 26:=AA.get hF 5 Ab;clear hF;simp only[Bf,Nat.reduceAdd];generalize γ 1=g1 at *
 generalize γ 3=g3 at *;generalize γ 4=g4 at *;generalize γ 5=g5 at *;clear γ;obtain⟨ga,rfl,hga,ea⟩:=p4;obtain⟨gb,rfl,hgb,eb⟩:=p5;have hab:ga≠gb:=fun e=>na4x5 (by rw[e]);clear na4x5;obtain⟨A1,c1,rfl,q1,q2,-⟩:=p1.form;obtain⟨A2,c2,rfl,q3,q4,-⟩:=p3.form;obtain⟨bx,hbx⟩:∃ b,b=decide (x < 0):=⟨_,rfl⟩
 obtain⟨by_,hby⟩:∃ b,b=decide (y < 0):=⟨_,rfl⟩
 rw[←hbx]at p1 ⊢;rw[←hby]at p3 ⊢;have Hb:=Ad (Ak hbx hby);clear hbx hby;obtain⟨cea0,cea1⟩:=ea.cells2;have fea:=ea.frozen;obtain⟨ceb0,ceb1⟩:=eb.cells2;have feb:=eb.frozen
 go_upto_region 2 with(fail)
 obtain⟨W1,eW,ea',U⟩:=ea.put2 (.bool bx) (.slice A1 (sz x.natAbs) c1) rfl rfl;rw[←eW];clear eW ea;replace p1:=p1.kd U.kd;replace p3:=p3.kd U.kd;replace eb:=eb.upd U Ai;replace hx1:=U.from_ hx1 Ai;have ea:=ea';clear U ea';obtain⟨W2,eW,eb',U⟩:=eb.put2 (.bool by_) (.slice A2 (sz y.natAbs) c2) rfl rfl;rw[←eW];clear eW eb;replace p1:=p1.kd U.kd;replace p3:=p3.kd U.kd;replace ea:=ea.upd U Ai;replace hx1:=U.from_ hx1 Ai
 have eb:=eb';clear U eb';clear cea0 cea1 ceb0 ceb1 fea feb;obtain⟨cea0,cea1⟩:=ea.cells2;have fea:=ea.frozen;obtain⟨ceb0,ceb1⟩:=eb.cells2;have feb:=eb.frozen;have hc1:=hx1.cells;have hf1:=hx1.frozens;replace p1:=p1.nat;replace p3:=p3.nat;by_cases hs:bx=by_
 ·subst hs
  have hb:(bx==bx)=true:=by simp
  go_wp2_with fail
  refine Ae 7 [16,17,18,19,20,21,22] [[],[0],[],[2],[],[4],[2,3,4,5],[0,1,2,3,4,5,6],[0,1,2,3,4,5,6,7]] [5,6] [_,_] [(kv ?_),(kv ?_),(kv ?_),(kv ?_),(kv ?_),(kv ?_),(fun γ=>γ 6)] (fun γ w'=>[True,True,True,True,True,True,Cr w' (γ 6) (x.natAbs+y.natAbs) (max (sz x.natAbs) (sz y.natAbs)+1)]) Bn Aj Aj Bo Aj Bl Br ?hstep2 ?_
  case hstep2 =>
   iterate 7 refine⟨?_,?_⟩
   trivial
   iterate 6 focus
    intro γ w' he hf;clear hf;refine⟨by trivial,?_⟩;intro R hR;have hc:=he.cells;have cq0:=he.cell cea0;have cq1:=he.cell cea1;have cq2:=he.cell ceb0;have cq3:=he.cell ceb1;go_simp;refine hR _ _ (Ext.refl _) ?_ trivial;rfl
   ·intro γ w' he hf;clear hf;refine⟨trivial,?_⟩;intro R hR
    go_simp;exact Bd (Ui _ _ _ _ _ _ w' ((p1.ext he).num (Nat.le_refl _)) ((p3.ext he).num (Nat.le_refl _)) Aa Aa) hR
  intro γ w3 hx3 hF;have p6:Cr w3 (γ 6) (x.natAbs+y.natAbs) (max (sz x.natAbs) (sz y.natAbs)+1):=AA.get hF 6 Ab;clear hF;simp only[Bf,Nat.reduceAdd];generalize γ 6=g6 at *;clear γ
  go_wp2_with fail
  refine AL (Dc (x+y) bx _ _ _ _ (by have h1:=Hb.out.1;have h2:=Hb.out.2;rw[h1]at h2 ⊢;by_cases e1:x < 0<;>by_cases e2:y < 0<;>simp[e1,e2]at h2 ⊢ <;> omega) p6 Aa) ?_;rintro r w4 hr hx4;clear hc1 hf1 p6;replace hx1:=(hx1.trans hx3).trans hx4;obtain⟨b5,A5,n5,c5,rfl⟩:=hr.cells;have hc1:=hx1.cells;have hf1:=hx1.frozens;have Hfin:=Ad (Ci hr hx1.a3 (AX.at_ hx1 (g:=w.heap.size+2) Ac (by simp[Ag])) Aa);clear hr
  go_wp2;refine bodyPost_ret (v := .agg #[.bool b5,.slice A5 n5 c5]) (by simp[results,Tryz.results61,go_sem,hc1]) rfl ?_;exact Hfin.out
 ·have hb:(bx==by_)=false:=by simpa using hs
  go_wp2_with fail
  refine AL (Ob _ _ _ _ _ p1 p3) ?_;rintro r w3 rfl hx3;clear hc1 hf1 hb cea0 cea1 ceb0 ceb1 fea feb;replace hx1:=hx1.trans hx3;replace p1:=p1.ext hx3;replace p3:=p3.ext hx3;replace ea:=ea.ext hx3;replace eb:=eb.ext hx3;clear hx3;have hc1:=hx1.cells;have hf1:=hx1.frozens;obtain⟨cea0,cea1⟩:=ea.cells2;have fea:=ea.frozen;obtain⟨ceb0,ceb1⟩:=eb.cells2;have feb:=eb.frozen;by_cases hlt:x.natAbs < y.natAbs
  ·have hb2:decide (x.natAbs < y.natAbs)=true:=by simpa using hlt
   go_wp2_with fail
   refine Ae 7 [29,30,31,32,33,34,35] [[],[0],[],[2],[],[4],[2,3,4,5],[0,1,2,3,4,5,6],[0,1,2,3,4,5,6,7]] [6,5] [_,_] [(kv ?_),(kv ?_),(kv ?_),(kv ?_),(kv ?_),(kv ?_),(fun γ=>γ 6)] (fun γ w'=>[True,True,True,True,True,True,Cr w' (γ 6) (y.natAbs - x.natAbs) (sz y.natAbs)]) Bn Aj Aj Bo Aj Bl Br ?hstep3 ?_
   case hstep3 =>
    iterate 7 refine⟨?_,?_⟩
    trivial
    iterate 6 focus
     intro γ w' he hf;clear hf;refine⟨by trivial,?_⟩;intro R hR;have hc:=he.cells;have cq0:=he.cell cea0;have cq1:=he.cell cea1;have cq2:=he.cell ceb0;have cq3:=he.cell ceb1;go_simp;refine hR _ _ (Ext.refl _) ?_ trivial;rfl
    ·intro γ w' he hf;clear hf;refine⟨trivial,?_⟩;intro R hR
     go_simp;exact Bd (NK _ _ _ _ w' (p3.ext he) (p1.ext he) Aa Aa) hR
   intro γ w4 hx4 hF;have p6:Cr w4 (γ 6) (y.natAbs - x.natAbs) (sz y.natAbs):=AA.get hF 6 Ab;clear hF;simp only[Bf,Nat.reduceAdd];generalize γ 6=g6 at *;clear γ
   go_wp2_with fail
   refine AL (Dc (x+y) by_ _ _ _ _ (by have h1:=Hb.out.1;have h2:=Hb.out.2;rw[h2];rw[h1,h2]at hs;by_cases e1:x < 0<;>by_cases e2:y < 0<;>simp[e1,e2]at hs ⊢ <;> omega) p6 Aa) ?_;rintro r w5 hr hx5;clear hc1 hf1 p6;replace hx1:=(hx1.trans hx4).trans hx5;obtain⟨b5,A5,n5,c5,rfl⟩:=hr.cells;have hc1:=hx1.cells;have hf1:=hx1.frozens;have Hfin:=Ad (Ci hr hx1.a3 (AX.at_ hx1 (g:=w.heap.size+2) Ac (by simp[Ag])) Aa)
   clear hr;go_wp2;refine bodyPost_ret (v := .agg #[.bool b5,.slice A5 n5 c5]) (by simp[results,Tryz.results61,go_sem,hc1]) rfl ?_;exact Hfin.out
  ·have hb2:decide (x.natAbs < y.natAbs)=false:=by simpa using hlt
   go_wp2_with fail
   refine Ae 7 [37,38,39,40,41,42,43] [[],[0],[],[2],[],[4],[2,3,4,5],[0,1,2,3,4,5,6],[0,1,2,3,4,5,6,7]] [5,6] [_,_] [(kv ?_),(kv ?_),(kv ?_),(kv ?_),(kv ?_),(kv ?_),(fun γ=>γ 6)] (fun γ w'=>[True,True,True,True,True,True,Cr w' (γ 6) (x.natAbs - y.natAbs) (sz x.natAbs)]) Bn Aj Aj Bo Aj Bl Br ?hstep4 ?_
   case hstep4 =>
    iterate 7 refine⟨?_,?_⟩
    trivial
    iterate 6 focus
     intro γ w' he hf;clear hf;refine⟨by trivial,?_⟩;intro R hR;have hc:=he.cells;have cq0:=he.cell cea0;have cq1:=he.cell cea1;have cq2:=he.cell ceb0;have cq3:=he.cell ceb1;go_simp;refine hR _ _ (Ext.refl _) ?_ trivial;rfl
    ·intro γ w' he hf;clear hf;refine⟨trivial,?_⟩;intro R hR
     go_simp;exact Bd (NK _ _ _ _ w' (p1.ext he) (p3.ext he) Aa Aa) hR
   intro γ w4 hx4 hF;have p6:Cr w4 (γ 6) (x.natAbs - y.natAbs) (sz x.natAbs):=AA.get hF 6 Ab;clear hF;simp only[Bf,Nat.reduceAdd];generalize γ 6=g6 at *;clear γ
   go_wp2_with fail
   refine AL (Dc (x+y) bx _ _ _ _ (by have h1:=Hb.out.1;have h2:=Hb.out.2;rw[h1];rw[h1,h2]at hs;by_cases e1:x < 0<;>by_cases e2:y < 0<;>simp[e1,e2]at hs ⊢ <;> omega) p6 Aa) ?_;rintro r w5 hr hx5;clear hc1 hf1 p6;replace hx1:=(hx1.trans hx4).trans hx5;obtain⟨b5,A5,n5,c5,rfl⟩:=hr.cells;have hc1:=hx1.cells;have hf1:=hx1.frozens;have Hfin:=Ad (Ci hr hx1.a3 (AX.at_ hx1 (g:=w.heap.size+2) Ac (by simp[Ag])) Aa)
   clear hr;go_wp2;refine bodyPost_ret (v := .agg #[.bool b5,.slice A5 n5 c5]) (by simp[results,Tryz.results61,go_sem,hc1]) rfl ?_;exact Hfin.out
theorem gX(v u:Value)(x y:Int)(w:World)(hv:Bu w v x)(hu:Bu w u y)(sx:sz x.natAbs≤549755813888)(sy:sz y.natAbs≤549755813888):Bh 178 #[v,u] w (fun r w'=>AO w' r (x - y)):=by
 have HV:=Ad hv;have HU:=Ad hu;obtain⟨neg,A,n,c,N,rfl,-,-,-,-,-⟩:=hv.form;obtain⟨neg',A',n',c',M,rfl,-,-,-,-,-⟩:=hu.form;clear hv hu
 go_enter Tryz.func178,Tryz.ntmps178
 go_wp2_with fail
 refine Ae 3 [5,6,7] [[],[],[1],[0,1,2],[0,1,2,3]] [2,3] [_,_] [(kv ?_),(kv ?_),(fun γ=>γ 2)] (fun γ w'=>[True,True,AO w' (γ 2) (-y)]) Bn Aj Aj Bo Aj Bl Br ?hstep5 ?_
 case hstep5 =>
  iterate 3 refine⟨?_,?_⟩
  trivial
  iterate 2 focus
   intro γ w' he hf;clear hf;refine⟨by trivial,?_⟩;intro R hR;have hc:=he.cells;go_simp;refine hR _ _ (Ext.refl _) ?_ trivial;rfl
  ·intro γ w' he hf;clear hf;refine⟨trivial,?_⟩;intro R hR
   go_simp;exact Bd (Uj _ y w' (HU.out.ext he.a3)) hR
 intro γ w1 hx1 hF;have p2:AO w1 (γ 2) (-y):=AA.get hF 2 Ab;clear hF;simp only[Bf,Nat.reduceAdd];generalize γ 2=g2 at *;clear γ
 go_wp2_with fail
 refine AL (O9 _ _ x (-y) _ (HV.out.ext hx1.a3) (p2.has (by rw[Int.natAbs_neg];omega)) sx (by rw[Int.natAbs_neg];exact sy)) ?_;rintro r w2 hr hx2;replace hx1:=hx1.trans hx2;clear hx2 p2;rw[←Int.sub_eq_add_neg]at hr;obtain⟨b5,A5,n5,c5,rfl⟩:=hr.cells;have hc1:=hx1.cells;have hf1:=hx1.frozens;have Hfin:=Ad (Ci hr hx1.a3 (AX.at_ hx1 (g:=w.heap.size+2) Ac (by simp[Ag])) Aa);clear hr;go_wp2;refine bodyPost_ret (v := .agg #[.bool b5,.slice A5 n5 c5]) (by simp[results,Tryz.results178,go_sem,hc1]) rfl ?_
 exact Hfin.out
theorem bX(v:Value)(ds:List Nat)(w:World)(hv:BJ w v ds)(hn:ds.length≤2) :
  Bh 154 #[v] w (fun r _=>r = .int .u64 (nv ds:Nat)):=by
 obtain⟨A,p1,rfl,hl,hc,hA⟩:=hv
 go_enter Tryz.func154,Tryz.ntmps154
 go_wp2
 go_loopw [3,4] (fun nw iv wr=>∃ k:Nat,k≤ds.length∧(∃ q:Int,q+1=k∧iv = .int .i64 q)∧nw = .int .u64 (nv (ds.drop k):Nat)∧Ext w wr) (fun _ iv _=>(intOf iv+1).toNat)
 case atStart=>exact⟨ds.length,Nat.le_refl _,⟨_,Aa,rfl⟩,by rw[List.drop_length];rfl,Ext.refl _⟩
 case round =>
  obtain⟨k,hk,⟨q,hq,rfl⟩,rfl,hx⟩:=hrel;have hb:=Ee (Bc.drop hA.1 k);have hb2:bp (ds.drop k).length≤bp (2 - k):=FY (by rw[List.length_drop];omega);by_cases hk0:0 < k
  ·obtain⟨k,rfl⟩:∃ j,k=j+1:=⟨k - 1,Aa⟩
   obtain rfl:q=(k:Int):=by omega
   clear hq;have hb3:bp (2 - (k+1))≤4294967296:=by rw[←Wp];exact FY Aa
   have hd:=Dm (show k < ds.length by omega);rw[←Dn (show k < ds.length by omega)]at hd;obtain⟨a,rfl,hca⟩:=BS hA (k:=k) Aa;replace hca:=hx.cell hca;have x1:=Ba hA.1 k;generalize hxx:dg ds k=x at *;generalize hyy:nv (ds.drop (k+1))=y at *;have hy:y < 4294967296:=by omega
   clear hb hb2 hb3 hxx;have Hd:=Ad hd;clear hd hyy;go_wp2
   go_roundw
   case rel=>exact⟨k,Aa,⟨_,Aa,rfl⟩,by rw[Hd.out];go_num,hx⟩
   case measure=>simp[intOf]<;>omega
  ·obtain rfl:k=0:=by omega
   have q1:q < 0:=by omega
   clear hb hb2;go_wp2
   go_ret
   exact Ah.mk (by rw[List.drop_zero];rfl) hx
theorem UC(N:Nat)(w:World)(hN:N < 18446744073709551616) :
  Bh 155 #[.int .u64 (N:Nat)] w (fun r w'=>BA w' r N):=by
 have key:∀(n g:Nat) (W:World) (t:TypeId) (a b:Int),a=(n % 4294967296:Nat)→b=(n / 4294967296:Nat)→g=W.heap.size→n < 18446744073709551616→Cr (W.alloc (.cells #[.int .u32 a,.int .u32 b] t)) (.slice (some ⟨g,0,none⟩) 2 2) n 2:=by
  intro n g W t a b ha hb hg hn;subst ha hb hg;have hb:BO (W.alloc (.cells #[.int .u32 (n % 4294967296:Nat),.int .u32 (n / 4294967296:Nat)] t)) W.heap.size t [n % 4294967296,n / 4294967296]:=Lp (heap_alloc_new W _);exact⟨_,hb.digv (Bc.cons Aa (Bc.cons Aa Bc.nil)) (c:=2) Ac Aa,by simp[Ct,BV];omega,Ac⟩
 have Hk:=Ad key;clear key
 go_enter Tryz.func155,Tryz.ntmps155
 go_wp2_with fail
 refine AL (GM _ N 2 _ (Hk.out N _ _ _ _ _ Aa Aa Ac Aa) Aa) ?_;rintro r w1 hr hx1;go_wp2
 go_ret
 exact Ah.mk hr hx1.a1
theorem FQ(v u:Value)(x y:Int)(w:World)(hv:Bu w v x)(hu:Bu w u y)(sx:sz x.natAbs≤549755813888)(sy:sz y.natAbs≤549755813888):Bh 62 #[v,u] w (fun r w'=>AO w' r (x*y)):=by
 obtain⟨neg,A,n,c,N,rfl,h1,h2,h3,hN,hx⟩:=hv.form;obtain⟨neg',A',n',c',M,rfl,k1,k2,k3,kN,hy⟩:=hu.form;have HN:=Ad hN;have HM:=Ad kN;clear hN hv hu kN;have sN:sz N≤549755813888:=by rw[hx]at sx;cases neg<;>simpa using sx
 have sM:sz M≤549755813888:=by rw[hy]at sy;cases neg'<;>simpa using sy
 have Hz:=Ad (show x*y=if (neg != neg')=true then -((N*M:Nat):Int)else((N*M:Nat):Int) by rw[hx,hy];cases neg<;>cases neg'<;>simp[Int.neg_mul,Int.mul_neg]);clear hx hy sx sy
 go_enter Tryz.func62,Tryz.ntmps62
 go_wp2_with fail
 refine Ae 5 [12,13,14,15,16] [[],[0],[0,1],[],[3],[0,1,2,3,4],[0,1,2,3,4,5],[0,1,2,3,4,5,6]] [2,3] [_,_] [(kv ?_),(kv ?_),(fun γ=>γ 2),(kv ?_),(kv ?_)] (fun γ w'=>[True,True,BA w' (γ 2) N,True,True]) Bn Aj Aj Bo Aj Bl Br ?hstep1 ?_
 case hstep1 =>
  iterate 5 refine⟨?_,?_⟩
  trivial
  iterate 2 focus
   intro γ w' he hf;clear hf;refine⟨by trivial,?_⟩;intro R hR;have hc:=he.cells;go_simp;refine hR _ _ (Ext.refl _) ?_ trivial;rfl
  ·intro γ w' he hf;clear hf;refine⟨trivial,?_⟩;intro R hR
   go_simp;exact Bd (GM _ N n w' (HN.out.ext he.a3) Aa) hR
  iterate 2 focus
   intro γ w' he hf;clear hf;refine⟨by trivial,?_⟩;intro R hR;have hc:=he.cells;go_simp;refine hR _ _ (Ext.refl _) ?_ trivial;rfl
 intro γ w1 hx1 hF;have p2:BA w1 (γ 2) N:=AA.get hF 2 Ab;clear hF;simp only[Bf,Nat.reduceAdd];generalize γ 2=g2 at *;clear γ
 go_wp2_with fail
 refine AL (GM _ M n' _ (HM.out.ext hx1.a3) Aa) ?_;rintro r w2 p5 hx2;replace p2:=p2.ext hx2;replace hx1:=hx1.trans hx2;clear hx2;obtain⟨ds,hd,hnv,-,hl⟩:=p2.len;obtain⟨es,he,hnv',-,hl'⟩:=p5.len;clear p2 p5;obtain⟨E,r1,rfl,hdl,hdc,hE⟩:=hd;obtain⟨F,r2,rfl,hel,hec,hF⟩:=he;have hdn:ds.length≤549755813888:=by omega
 have hen:es.length≤549755813888:=by omega
 rw[←hnv,←hnv']at Hz;clear hnv hnv' hl hl' sN sM HN HM h1 h2 h3 k1 k2 k3;have hmk:=fun W=>Du (ds.length+es.length) ((ds.length:Int)+es.length) Aa Aa W;go_wp2
 go_loopw [8] (fun iv wr=>∃ (i:Nat) (l:List Nat),i≤ds.length∧iv = .int .i64 i∧l.length=ds.length+es.length∧BO wr w2.heap.size 113 l∧Bc l∧(∀ q,i+es.length≤q→dg l q=0)∧nv l=nv (ds.take i)*nv es∧Ext w2 wr) (fun iv _=>ds.length - (intOf iv).toNat)
 case atStart=>exact⟨0,_,Nat.zero_le _,rfl,List.length_replicate,BO.new _ _ _,Bc.zeros _,fun q _=>by unfold dg;rw[List.getD_eq_getElem?_getD,List.getElem?_replicate];split<;>rfl,by rw[IK];simp[BV],(Ext.refl w2).alloc _⟩
 case round =>
  obtain⟨i,l,hi,rfl,hll,hblk,hdl,hz,hval,hx⟩:=hrel;have Hll:=Ad hll;clear hll;have Hval:=Ad hval;clear hval;have Hz':=Ad hz;clear hz;by_cases hil:i < ds.length
  ·obtain⟨a,rfl,hca⟩:=BS hE hil
   have x1:=Ba hE.1 i;generalize hxx:dg ds i=x at *;have Hx:=Ad hxx;clear hxx;go_wp2;obtain⟨wo,rfl⟩:∃ wo:World,wo=wr:=⟨_,rfl⟩
   go_loopw [9,10] (fun cv jv wr=>∃ (j c0:Nat) (m:List Nat),j≤es.length∧jv = .int .i64 j∧cv = .int .u64 c0∧c0 < 4294967296∧m.length=ds.length+es.length∧BO wr w2.heap.size 113 m∧Bc m∧(∀ q,i+es.length≤q→dg m q=0)∧nv m+c0*(bp i*bp j)=nv l+x*bp i*nv (es.take j)∧Ext w2 wr) (fun _ jv _=>es.length - (intOf jv).toNat)
   case atStart=>exact⟨0,0,l,Nat.zero_le _,rfl,rfl,Aa,Hll.out,hblk,hdl,Hz'.out,by simp[BV],hx⟩
   case round =>
    obtain⟨j,c0,m,hj,rfl,rfl,hc0,hml,hbm,hdm,hzm,hvm,hxm⟩:=hrel;have Hml:=Ad hml;clear hml;have Hvm:=Ad hvm;clear hvm;have Hzm:=Ad hzm;clear hzm;by_cases hje:j < es.length
    ·obtain⟨b,rfl,hcb⟩:=BS hF hje
     replace hcb:=hxm.cell hcb;have hcar:=hxm.cell hca;have y1:=Ba hF.1 j;generalize hyy:dg es j=y at *;have Hy:=Ad hyy;clear hyy;have hmc:=hbm.celld (i:=i+j) (by have:=Hml.out;omega);have z1:=Ba hdm (i+j);have hfz:=hbm.frozen (i+j);generalize hzz:dg m (i+j)=z at *;have Hzz:=Ad hzz;clear hzz;have hxy:x*y≤4294967295*4294967295:=Nat.mul_le_mul Aa Aa;have hxy2:x*y≤18446744065119617025:=hxy;clear hxy;have k1:(0:Int)≤(x:Int)*y:=by rw[←Int.natCast_mul];omega
     have k2:(x:Int)*y≤18446744065119617025:=by rw[←Int.natCast_mul];omega
     have Hxy:=Ad hxy2;clear hxy2;go_wp2;refine Ae 20 [36,37,38,39,40,41,42,43,44,45,46,47,48,49,50,51,52,53,54,55] [[],[],[0,1],[0,1,2],[0,1,2,3],[],[],[5,6],[5,6,7],[5,6,7,8],[0,1,2,3,4,5,6,7,8,9],[],[],[],[12,13],[11,12,13,14],[11,12,13,14,15],[11,12,13,14,15,16],[0,1,2,3,4,5,6,7,8,9,10,11,12,13,14,15,16,17],[],[0,1,2,3,4,5,6,7,8,9,10,11,12,13,14,15,16,17,18,19],[0,1,2,3,4,5,6,7,8,9,10,11,12,13,14,15,16,17,18,19,20]] [5,8,6,10,7,9] [_,_,_,_,_,_] [(kv ?_),(kv ?_),(kv ?_),(kv ?_),(kv ?_),(kv ?_),(kv ?_),(kv ?_),(kv ?_),(kv ?_),(kv ?_),(kv ?_),(kv ?_),(kv ?_),(kv ?_),(kv ?_),(kv ?_),(kv ?_),(kv ?_),(kv ?_)] (fun γ w'=>[True,True,True,True,True,True,True,True,True,True,True,True,True,True,True,True,True,True,True,True]) Bn Aj Aj Bo Aj Bl Br ?hstep2 ?_
     case hstep2 =>
      iterate 20 refine⟨?_,?_⟩
      trivial
      iterate 20 focus
       intro γ w' he hf;clear hf;refine⟨by trivial,?_⟩;intro R hR;have hc:=he.cells;have cq0:=he.cell hcar;have cq1:=he.cell hcb;have cq2:=he.cell hmc;go_simp;(try go_ints);(try(rw[if_neg Aa]));(try(rw[if_pos Aa]));(try go_simp);(try go_ints)
       refine hR _ _ (Ext.refl _) ?_ trivial;rfl
     intro γ w3 hx3 hF;clear hF;simp only[Bf,Nat.reduceAdd];clear γ;replace hbm:=hbm.ext hx3;replace hxm:=hxm.trans hx3;have hmc:=hbm.celld (i:=i+j) (by have:=Hml.out;omega);have hfz:=hbm.frozen (i+j);rw[Hzz.out]at hmc;go_wp2
     go_roundw
     case rel =>
      have hml:=Hml.out;have e1:(((x*y+z+c0) % 4294967296:Nat):Int)=((x:Int)*y+z+c0) % 4294967296:=by rw[←Int.natCast_mul];omega
      have e2:(((x*y+z+c0) / 4294967296:Nat):Int)=((x:Int)*y+z+c0) / 4294967296:=by rw[←Int.natCast_mul];omega
      refine⟨j+1,(x*y+z+c0) / 4294967296,m.set (i+j) ((x*y+z+c0) % 4294967296),Aa,by go_num,by rw[e2],by have:=Hxy.out;omega,by simpa using hml,hbm.setI _ _ e1.symm,hdm.set Aa _,fun q hq=>by rw[EM Aa];exact Hzm.out q hq,?_,hxm.setCell _ _ (Nat.le_refl _)⟩;have hs:=Na (l:=m) (p:=i+j) (d:=(x*y+z+c0) % 4294967296) Aa;rw[Hzz.out,IP]at hs;rw[AV,Hy.out,BC];exact QY hs Hvm.out
     case measure=>simp[intOf];omega
    ·obtain rfl:j=es.length:=by omega
     have hmc:=hbm.celld (i:=i+es.length) (by have:=Hml.out;omega);have hfz:=hbm.frozen (i+es.length);go_wp2
     go_roundw
     case rel =>
      have hml:=Hml.out;refine⟨i+1,m.set (i+es.length) c0,Aa,by go_num,by simpa using hml,hbm.setI _ _ Aa,hdm.set Aa _,fun q hq=>by rw[EM Aa];exact Hzm.out q Aa,?_,hxm.setCell _ _ (Nat.le_refl _)⟩;have hs:=Na (l:=m) (p:=i+es.length) (d:=c0) Aa;rw[Hzm.out _ (Nat.le_refl _),Nat.mul_zero,Nat.add_zero,IP]at hs;have h1:=Hvm.out;rw[List.take_of_length_le (Nat.le_refl _),Hval.out]at h1;rw[hs,AV,Hx.out,Nat.mul_comm _ c0,h1]
      grind
     case measure=>simp[intOf];omega
  ·obtain rfl:i=ds.length:=by omega
   have hll:=Hll.out;have hq:=hblk.digv hdl (c:=ds.length+es.length) Aa Aa;rw[hll]at hq;have hr:Cr wr _ (nv ds*nv es) (ds.length+es.length):=⟨l,hq,by rw[Hval.out,List.take_of_length_le (Nat.le_refl _)],Aa⟩
   clear hq hll hblk hdl;replace hx1:=hx1.trans hx;have hc1:=hx1.cells;have hf1:=hx1.frozens
   go_wp2_with fail
   refine AL (Dc (x*y) (neg != neg') _ _ _ _ Hz.out hr Aa) ?_;rintro r w4 hr hx4;clear hc1 hf1;replace hx1:=hx1.trans hx4;clear hx hx4;obtain⟨b5,A5,n5,c5,rfl⟩:=hr.cells;have hc1:=hx1.cells;have hf1:=hx1.frozens;have Hfin:=Ad (Ci hr hx1.a3 (AX.at_ hx1 (g:=w.heap.size+2) Ac (by simp[Ag])) Aa);clear hr;go_wp2;refine bodyPost_ret (v := .agg #[.bool b5,.slice A5 n5 c5]) (by simp[results,Tryz.results62,go_sem,hc1]) rfl ?_
   exact Hfin.out
end Go.Proofs.YtmhgnigpmompmaaGreat
namespace Go.Hp
open Go.RowKit
def BL(n b:Nat):Prop:=n < 2^b∧(0 < b→2^(b - 1)≤n)
theorem BL.zero:BL 0 0:=⟨Ab,fun h=>absurd h Ab⟩
theorem BL.top{ds:List Nat}{j:Nat}(hd:Bc ds)(hl:0 < ds.length)(h1:dg ds (ds.length - 1) < 2^j)(h2:0 < j)(h3:2^(j - 1)≤dg ds (ds.length - 1)):BL (nv ds) (32*(ds.length - 1)+j):=by
 have h:=AV ds (ds.length - 1);rw[List.take_of_length_le Aa]at h;have hb:=Ee (hd.take (ds.length - 1));have hb2:bp (ds.take (ds.length - 1)).length≤bp (ds.length - 1):=FY (by rw[List.length_take];omega);generalize dg ds (ds.length - 1)=d at *;have hp:=Cw (ds.length - 1);generalize hmm:ds.length - 1=m at *;constructor
 ·rw[h,Nat.pow_add,←hp]
  have:bp m*(d+1)≤bp m*2^j:=Nat.mul_le_mul_left _ h1;rw[Nat.mul_add]at this;omega
 ·intro _
  rw[h,show 32*m+j - 1=32*m+(j - 1) by omega,Nat.pow_add,←hp];have:bp m*2^(j - 1)≤bp m*d:=Nat.mul_le_mul_left _ h3;omega
theorem BL.le{n b m:Nat}(h:BL n b)(hm:n < 2^m):b≤m:=by
 rcases Nat.lt_or_ge m b with h1 | h1
 ·have h2:=h.2 Aa
  have:2^m≤2^(b - 1):=Nat.pow_le_pow_right Ab Aa;omega
 ·exact h1
end Go.Hp
namespace Go.Proofs.YtmhgnigpmompmaaGreat
open Go.RowKit Go.Hp
theorem WH(v:Value)(x:Int)(w:World)(hv:Bu w v x):Bh 46 #[v] w (fun r _=>∃ b:Nat,r = .int .i64 b∧BL x.natAbs b):=by
 obtain⟨neg,A,n,c,N,rfl,h1,h2,h3,hN,hx⟩:=hv.form;have HN:=Ad hN;clear hN hv;have Hx:=Ad (show x.natAbs=N by rw[hx];cases neg<;>simp);clear hx
 go_enter Tryz.func46,Tryz.ntmps46
 go_wp2_with fail
 refine AL (GM _ N n _ (HN.out.ext ((Ext.refl w).alloc _)) Aa) ?_;rintro r w1 hr hx1;obtain⟨ds,hd,hnv,ht,hl⟩:=hr.len;obtain⟨E,p1,rfl,hl1,hc1,hE⟩:=hd;have HX:=Ad (show x.natAbs=nv ds by rw[Hx.out,←hnv]);have hx:=hx1.a1;have hm:ds.length≤1099511627776:=by rw[hl];exact Nat.le_trans HN.out.sz h3
 clear hx1 hr hl HN Hx hnv h1 h2 h3;rcases Nat.eq_zero_or_pos ds.length with h0 | h0
 ·have hb:(((ds.length:Nat):Int)==0)=true:=by rw[h0];rfl
  have:ds=[]:=List.eq_nil_of_length_eq_zero h0;clear h0;have Hd:=Ad this;clear this;go_wp2
  go_ret
  exact Ah.mk ⟨0,rfl,by rw[HX.out,Hd.out];exact BL.zero⟩ hx
 ·have hb:(((ds.length:Nat):Int)==0)=false:=beq_eq_false_iff_ne.2 Aa
  obtain⟨a,ha,hca⟩:=BS hE (k:=ds.length - 1) Aa;have x1:=Ba hE.1 (ds.length - 1);have hd0:dg ds (ds.length - 1)≠0:=by
   rw[Dn Aa];have:=ht (List.ne_nil_of_length_pos h0);rwa[List.getLast_eq_getElem]at this
  obtain⟨d,hdd⟩:∃ d,d=dg ds (ds.length - 1):=⟨_,rfl⟩
  rw[←hdd]at hca x1 hd0;replace hca:=hca;have Hd:=Ad (Ak hdd ht);clear hdd ht;obtain⟨m,hmm⟩:∃ m,ds.length=m+1:=⟨ds.length - 1,Aa⟩
  rw[hmm]at hca hb hl1 hm ⊢;clear h0;have Hm:=Ad hmm;clear hmm;subst ha;rw[Nat.add_sub_cancel]at hca;go_wp2
  go_loopw [4,5] (fun bv tv wr=>∃ j:Nat,j≤32∧bv = .int .i64 (32*m+j:Nat)∧tv = .int .u32 (d / 2^j:Nat)∧(0 < j→2^(j - 1)≤d)∧Ext w wr) (fun _ tv _=>(intOf tv).toNat)
  case atStart=>exact⟨0,Aa,by go_num,Ac,fun h=>absurd h Ab,hx⟩
  case round =>
   obtain⟨j,hj,rfl,rfl,hlow,hx⟩:=hrel;have Hlow:=Ad hlow;clear hlow;obtain⟨t,htt⟩:∃ t,d / 2^j=t:=⟨_,rfl⟩
   rw[htt];have t1:t < 4294967296:=by rw[←htt];exact Nat.lt_of_le_of_lt (Nat.div_le_self _ _) x1
   have h2:d / 2^(j+1)=t / 2:=by rw[←htt,Nat.pow_succ,Nat.div_div_eq_div_mul]
   have h3:0 < t→2^j≤d:=fun h=>by
    rcases Nat.lt_or_ge d (2^j)with h' | h'
    ·rw[Nat.div_eq_of_lt h']at htt;omega
    ·exact h'
   have h4:t=0→d < 2^j:=fun h=>by
    rcases Nat.lt_or_ge d (2^j)with h' | h'
    ·exact h'
    ·have:=Nat.div_pos h' (Nat.two_pow_pos j);omega
   have H:=Ad (Ak h2 (Ak h3 h4));clear h2 h3 h4 htt;by_cases ht0:0 < t
   ·have hj32:j < 32:=by
     rcases Nat.lt_or_ge j 32 with h | h
     ·exact h
     ·have:=H.out.2.1 ht0
      have h5:2^32≤2^j:=Nat.pow_le_pow_right Ab h;omega
    go_wp2
    go_roundw
    case rel=>exact⟨j+1,Aa,by go_num,by rw[H.out.1];go_num,fun _=>H.out.2.1 ht0,hx⟩
    case measure=>simp[intOf]<;>omega
   ·have ht1:t=0:=by omega
    go_wp2
    go_ret
    refine Ah.mk ⟨32*m+j,rfl,?_⟩ hx;have hj0:0 < j:=by
     rcases Nat.eq_zero_or_pos j with h | h
     ·subst h;have:=H.out.2.2 ht1;omega
     ·exact h
    have:=BL.top (ds:=ds) (j:=j) hE.1 (by have:=Hm.out;omega) (by rw[←Hd.out.1];exact H.out.2.2 ht1) hj0 (by rw[←Hd.out.1];exact Hlow.out hj0);rw[Hm.out,Nat.add_sub_cancel]at this;rw[HX.out];exact this
theorem FD.made(w:World)(z base:Nat)(hb:base≤w.heap.size)(hz:z≤70368744177664):FD base (w.alloc (.cells (FC z) 113)) (.slice (some ⟨w.heap.size,0,none⟩) z z) (List.replicate z 0):=by
 unfold FD;rw[List.length_replicate];refine⟨Ac,.inr ⟨_,_,_,rfl,hb,heap_alloc_new w _,Nat.le_refl _,by simp only[maxLen];omega,by simp[FC],by simp[FC,dv]⟩⟩
theorem ZF{L X p S c d B:Nat}(h:L+c*p=X):L+p*((d*S+c) % B)+(d*S+c) / B*(B*p)=X+p*(d*S):=by
 have e:(d*S+c) % B+B*((d*S+c) / B)=d*S+c:=Nat.mod_add_div _ _;generalize (d*S+c) % B=r at *;generalize (d*S+c) / B=q at *;grind
theorem UR(v:Value)(ds:List Nat)(s:Nat)(w:World)(hv:BJ w v ds)(hs:s≤70368744177664)(hn:ds.length≤2199023255552) :
  Bh 191 #[v,.int .i64 (s:Nat)] w (fun r w'=>BA w' r (nv ds*2^s)):=by
 obtain⟨A,p1,rfl,hl,hc,hA⟩:=hv;obtain⟨z,hz⟩:∃ z,z=s / 32:=⟨_,rfl⟩
 obtain⟨p,hp⟩:∃ p,p=s % 32:=⟨_,rfl⟩
 have hp32:p < 32:=by omega
 have hmk:=fun W=>Du z z rfl Aa W;obtain⟨S,hS⟩:∃ S,2^p=S:=⟨_,rfl⟩
 have hSi:(2:Int)^p=(S:Nat):=by rw[←hS];simp
 have hS1:S≤2147483648:=by rw[←hS];exact Nat.pow_le_pow_right Ab (show p≤31 by omega)
 have hS0:0 < S:=by rw[←hS];exact Nat.two_pow_pos _
 have Hs:=Ad (show 2^s=S*bp z by rw[Cw,←hS,←Nat.pow_add];congr 1;omega);have e1:(s:Int) / 32=z:=by omega
 have e2:(s:Int) % 32=p:=by omega
 have e3:(s:Int) < 70368744177665:=by omega
 clear hz hp hS
 go_enter Tryz.func191,Tryz.ntmps191
 go_wp2
 go_loopw [5,6,7] (fun ov cv iv wr=>∃ (k c0:Nat) (l:List Nat),k≤ds.length∧iv = .int .i64 k∧cv = .int .u64 c0∧c0 < 2147483648∧l.length=k+z∧FD w.heap.size wr ov l∧Bc l∧nv l+c0*bp (k+z)=nv (ds.take k)*(S*bp z)∧Ext w wr) (fun _ _ iv _=>ds.length - (intOf iv).toNat)
 case atStart=>exact⟨0,0,List.replicate z 0,Nat.zero_le _,rfl,rfl,Aa,Ac,FD.made w z _ (Nat.le_refl _) Aa,Bc.zeros _,by rw[IK];simp[BV],(Ext.refl w).alloc _⟩
 case round =>
  obtain⟨k,c0,l,hk,rfl,rfl,hc0,hll,hown,hdl,hval,hx⟩:=hrel;have x1:=Ba hA.1 k;have Hl:=Ad (Ak hll (Ak hdl hval));clear hll hdl hval;have Hown:=Ad hown;clear hown;have hsz:=hx.size;by_cases hkm:k < ds.length
  ·obtain⟨a,rfl,hca⟩:=BS hA hkm
   generalize hxx:dg ds k=x at *;have Hx:=Ad hxx;clear hxx;replace hca:=hx.cell hca;have hxS:x*S≤4294967295*2147483648:=Nat.mul_le_mul Aa hS1;have hxS2:x*S≤9223372034707292160:=hxS;clear hxS;have k1:(0:Int)≤(x:Int)*S:=by rw[←Int.natCast_mul];omega
   have k2:(x:Int)*S≤9223372034707292160:=by rw[←Int.natCast_mul];omega
   have e4:(((x*S+c0) % 4294967296:Nat):Int)=((x:Int)*S+c0) % 4294967296:=by rw[←Int.natCast_mul];omega
   have e5:(((x*S+c0) / 4294967296:Nat):Int)=((x:Int)*S+c0) / 4294967296:=by rw[←Int.natCast_mul];omega
   have Hq:=Ad (Ak hxS2 (Ak e4 e5));clear hxS2 e4 e5
   go_wp2_with (at_builtin;refine AB rfl _ _ 24 rfl u5 (.slice (some ⟨wr.heap.size,0,none⟩) 1 1) rfl rfl (Dp wr w.heap.size _ _ l ((x*S+c0) % 4294967296) _ _ Hown.out (by exact Hq.out.2.1.symm) (by have:=Hl.out.1;omega) hsz rfl) ?_)
   rintro v' w2 hown hg;replace hx:=(Hown.out.alloc _).from_ hg (hx.alloc _) (Nat.le_refl _);have Hown':=Ad hown;clear hown hg;go_wp2
   go_roundw
   case rel=>exact⟨k+1,(x*S+c0) / 4294967296,_,Aa,by go_num,by rw[Hq.out.2.2],by have:=Hq.out.1;omega,by rw[List.length_append,Hl.out.1];simp;omega,Hown'.out,Hl.out.2.1.append (Bc.cons Aa Bc.nil),by
    rw[DU,Hl.out.1,AV,Hx.out,show k+1+z=(k+z)+1 by omega,BC,Nat.add_mul,ZF Hl.out.2.2,IP];congr 1;grind,hx⟩
   case measure=>simp[intOf];omega
  ·obtain rfl:k=ds.length:=by omega
   go_wp2_with (at_builtin;refine AB rfl _ _ 24 rfl u5 (.slice (some ⟨wr.heap.size,0,none⟩) 1 1) rfl rfl (Dp wr w.heap.size _ _ l c0 _ _ Hown.out Aa (by have:=Hl.out.1;omega) hsz rfl) ?_)
   rintro v' w2 hown hg;replace hx:=(Hown.out.alloc _).from_ hg (hx.alloc _) (Nat.le_refl _);have hN:Cr w2 v' (nv ds*2^s) (ds.length+z+1):=⟨_,hown.digv (Hl.out.2.1.append (Bc.cons Aa Bc.nil)),by
    have h3:=Hl.out.2.2;rw[List.take_of_length_le (Nat.le_refl _)]at h3;rw[DU,Hl.out.1,Hs.out,←h3,Nat.mul_comm],by rw[List.length_append,Hl.out.1];simp⟩
   have hzz:z≤2199023255552:=by omega
   clear hown hg
   go_wp2_with fail
   refine AL (GM _ _ _ _ hN Aa) ?_;rintro r w3 hr hx3;go_wp2
   go_ret
   exact Ah.mk hr (hx.trans hx3)
end Go.Proofs.YtmhgnigpmompmaaGreat
namespace Go.Hp
def co(l:List Rat)(i:Nat):Rat:=l.getD i 0
def tl(F:Nat→Rat)(n:Nat):Rat:=F (n+1)
def cs(a:Rat)(F:Nat→Rat):Nat→Rat
 | 0=>a
 | n+1=>F n
def cv(F G:Nat→Rat):Nat→Rat
 | 0=>F 0*G 0
 | n+1=>F 0*G (n+1)+cv (tl F) G n
def pad(F G:Nat→Rat)(n:Nat):Rat:=F n+G n
def psb(F G:Nat→Rat)(n:Nat):Rat:=F n - G n
def psc(a:Rat)(F:Nat→Rat)(n:Nat):Rat:=a*F n
def pz(_:Nat):Rat:=0
def pone:Nat→Rat:=cs 1 pz
def Xr(F:Nat→Rat)(n:Nat):Rat:=(n:Rat)*F n
def pd(F:Nat→Rat)(n:Nat):Rat:=((n+1:Nat):Rat)*F (n+1)
theorem CQ(F G:Nat→Rat):cv F G 0=F 0*G 0:=by unfold cv;rfl
theorem BX(F G:Nat→Rat)(n:Nat):cv F G (n+1)=F 0*G (n+1)+cv (tl F) G n:=by rw[cv]
theorem Xx(F:Nat→Rat):cs (F 0) (tl F)=F:=by funext n;cases n<;>rfl
theorem iC(F G:Nat→Rat):tl (cv F G)=pad (psc (F 0) (tl G)) (cv (tl F) G):=by funext n;exact BX F G n
theorem XM(F G:Nat→Rat):tl (pad F G)=pad (tl F) (tl G):=rfl
theorem dG(a:Rat)(F:Nat→Rat):tl (psc a F)=psc a (tl F):=rfl
theorem iI:tl pz=pz:=rfl
theorem Kk(F:Nat→Rat):cv F pz=pz:=by
 funext n
 induction n generalizing F with
 | zero=>rw[CQ];exact Rat.mul_zero _
 | succ n ih=>rw[BX,ih];show F 0*0+0=0;grind
theorem CG(F:Nat→Rat):cv pz F=pz:=by
 funext n
 induction n with
 | zero=>rw[CQ];exact Rat.zero_mul _
 | succ n ih=>rw[BX,iI,ih];show 0*_+0=0;grind
theorem FW(F G H:Nat→Rat):cv F (pad G H)=pad (cv F G) (cv F H):=by
 funext n
 induction n generalizing F with
 | zero=>simp only[CQ,pad];grind
 | succ n ih=>have:=ih (tl F);simp only[BX,pad]at this ⊢;rw[this];grind
theorem Dk(F G H:Nat→Rat):cv (pad F G) H=pad (cv F H) (cv G H):=by
 funext n
 induction n generalizing F G with
 | zero=>simp only[CQ,pad];grind
 | succ n ih=>have:=ih (tl F) (tl G);simp only[BX,XM,this];simp only[pad,BX];grind
theorem OP(a:Rat)(F G:Nat→Rat):cv F (psc a G)=psc a (cv F G):=by
 funext n
 induction n generalizing F with
 | zero=>simp only[CQ,psc];grind
 | succ n ih=>have:=ih (tl F);simp only[BX,psc]at this ⊢;rw[this];grind
theorem D6(a:Rat)(F G:Nat→Rat):cv (psc a F) G=psc a (cv F G):=by
 funext n
 induction n generalizing F with
 | zero=>simp only[CQ,psc];grind
 | succ n ih=>have:=ih (tl F);simp only[BX,dG,this];simp only[psc,BX];grind
theorem Me(F G:Nat→Rat):psb F G=pad F (psc (-1) G):=by funext n;simp only[psb,pad,psc];grind
theorem FE(F G H:Nat→Rat):cv (psb F G) H=psb (cv F H) (cv G H):=by rw[Me,Me,Dk,D6]
theorem Qv(F G:Nat→Rat)(n:Nat):cv F G (n+1)=cv F (tl G) n+F (n+1)*G 0:=by
 induction n generalizing F with
 | zero=>simp only[BX,CQ,tl]
 | succ n ih=>rw[BX,ih,BX];simp only[tl];grind
theorem Bw(F G:Nat→Rat):cv F G=cv G F:=by
 funext n
 induction n generalizing F G with
 | zero=>simp only[CQ];grind
 | succ n ih=>rw[BX,Qv,ih];grind
theorem AJ(F G H:Nat→Rat):cv (cv F G) H=cv F (cv G H):=by
 funext n
 induction n generalizing F with
 | zero=>simp only[CQ];grind
 | succ n ih =>
  rw[BX,iC,Dk,D6];have h1:∀ A B:Nat→Rat,pad A B n=A n+B n:=fun _ _=>rfl;have h2:∀(a:Rat) (B:Nat→Rat),psc a B n=a*B n:=fun _ _=>rfl;rw[h1,h2,ih,BX F,BX G,CQ];grind
theorem Db(F:Nat→Rat):cv pone F=F:=by
 funext n
 cases n with
 | zero=>rw[CQ];show 1*_=_;grind
 | succ n=>rw[BX];show 1*_+cv pz F n=_;rw[CG];show _+0=_;grind
theorem KQ(F:Nat→Rat):cv F pone=F:=by rw[Bw,Db]
theorem LA(a:Rat)(F G:Nat→Rat):cv (cs a F) G=pad (psc a G) (cs 0 (cv F G)):=by
 funext n
 cases n with
 | zero=>rw[CQ];show a*_=a*_+0;grind
 | succ n=>rw[BX];rfl
theorem Xq(F G:Nat→Rat):cv (cs 0 F) G=cs 0 (cv F G):=by
 rw[LA]
 funext n
 show 0*G n+_=_;grind
/-! ### sums -/
def sm(n:Nat)(f:Nat→Rat):Rat:=match n with
 | 0=>0
 | n+1=>sm n f+f n
theorem EY(f:Nat→Rat):sm 0 f=0:=rfl
theorem BF(n:Nat)(f:Nat→Rat):sm (n+1) f=sm n f+f n:=rfl
theorem CJ{n:Nat}{f g:Nat→Rat}(h:∀ i,i < n→f i=g i):sm n f=sm n g:=by
 induction n with
 | zero=>rfl
 | succ n ih=>rw[BF,BF,ih (fun i hi=>h i Aa),h n Aa]
theorem QP(n:Nat)(f:Nat→Rat):sm (n+1) f=f 0+sm n (fun i=>f (i+1)):=by
 induction n with
 | zero=>simp only[BF,EY];grind
 | succ n ih=>rw[BF,ih,BF n];grind
theorem Nt(n:Nat):sm n (fun _=>0)=0:=by
 induction n with
 | zero=>rfl
 | succ n ih=>rw[BF,ih];grind
theorem dA(n:Nat)(f g:Nat→Rat):sm n (fun i=>f i+g i)=sm n f+sm n g:=by
 induction n with
 | zero=>simp only[EY];grind
 | succ n ih=>rw[BF,ih,BF,BF];grind
theorem Sq(n:Nat)(a:Rat)(f:Nat→Rat):sm n (fun i=>a*f i)=a*sm n f:=by
 induction n with
 | zero=>simp only[EY];grind
 | succ n ih=>rw[BF,ih,BF];grind
theorem R7(F G:Nat→Rat)(n:Nat):cv F G n=sm (n+1) (fun i=>F i*G (n - i)):=by
 induction n generalizing F with
 | zero=>rw[CQ,BF,EY];grind
 | succ n ih =>
  rw[BX,ih,QP (n+1)];congr 1
  apply CJ
  intro i hi;show F (i+1)*_=F (i+1)*G (n+1 - (i+1));rw[show n+1 - (i+1)=n - i from by omega]
/-! ### degrees -/
def BB(n:Nat)(F:Nat→Rat):Prop:=∀ i,n≤i→F i=0
theorem BB.mono{n m:Nat}{F:Nat→Rat}(h:BB n F)(k:n≤m):BB m F:=fun i hi=>h i Aa
theorem BB.tl{n:Nat}{F:Nat→Rat}(h:BB (n+1) F):BB n (tl F):=fun i hi=>h (i+1) Aa
theorem BB.pad{n:Nat}{F G:Nat→Rat}(h:BB n F)(k:BB n G):BB n (pad F G):=fun i hi=>by show F i+G i=0;rw[h i hi,k i hi];grind
theorem BB.psb{n:Nat}{F G:Nat→Rat}(h:BB n F)(k:BB n G):BB n (psb F G):=fun i hi=>by show F i - G i=0;rw[h i hi,k i hi];grind
theorem BB.psc{n:Nat}{F:Nat→Rat}(a:Rat)(h:BB n F):BB n (psc a F):=fun i hi=>by show a*F i=0;rw[h i hi];exact Rat.mul_zero _
theorem BB.pz(n:Nat):BB n pz:=fun _ _=>rfl
theorem BB.cs{n:Nat}{F:Nat→Rat}(a:Rat)(h:BB n F):BB (n+1) (cs a F):=fun i hi=>by
 obtain⟨i,rfl⟩:∃ j,i=j+1:=⟨i - 1,Aa⟩
 exact h i Aa
theorem BB.zero{F:Nat→Rat}(h:BB 0 F):F=Hp.pz:=by funext i;exact h i (Nat.zero_le _)
theorem BB.cv{n m:Nat}{F G:Nat→Rat}(h:BB n F)(k:BB m G):BB (n+m - 1) (cv F G):=by
 induction n generalizing F with
 | zero=>rw[h.zero,CG];exact fun _ _=>rfl
 | succ n ih =>
  intro i hi;have h1:=ih h.tl;cases i with
  | zero =>
   rw[CQ,k 0 Aa];exact Rat.mul_zero _
  | succ i =>
   rw[BX,k (i+1) Aa];rcases Nat.eq_zero_or_pos n with h0 | h0
   ·subst h0;rw[h.tl.zero,CG];show _*0+0=0;grind
   ·rw[h1 i Aa];grind
theorem RI{n m:Nat}{F G:Nat→Rat}(h:BB (n+1) F)(k:BB (m+1) G):cv F G (n+m)=F n*G m:=by
 induction n generalizing F with
 | zero =>
  cases m with
  | zero=>rw[CQ]
  | succ m=>rw[Nat.zero_add,BX,h.tl.zero,CG];show _+0=_;grind
 | succ n ih =>
  have:=ih h.tl;rw[show n+1+m=n+m+1 from Aa,BX,this,k (n+m+1) Aa];show _*0+F (n+1)*G m=_;grind
theorem FM(l:List Rat):BB l.length (co l):=fun i hi=>by unfold co;rw[List.getD_eq_getElem?_getD,List.getElem?_eq_none hi];rfl
theorem P9:co []=pz:=rfl
theorem DW{l:List Rat}{i:Nat}(h:i < l.length):co l i=l[i]:=by unfold co;rw[List.getD_eq_getElem?_getD,List.getElem?_eq_getElem h];rfl
def Af(F:Nat→Rat):Prop:=∃ n,BB n F
theorem Oo{p:Nat→Prop}(h:∃ n,p n):∃ n,p n∧∀ m,m < n→¬ p m:=by
 obtain⟨n,hn⟩:=h;induction n using Nat.strongRecOn with
 | _ n ih =>
  by_cases hm:∃ m,m < n∧p m
  ·obtain⟨m,h1,h2⟩:=hm;exact ih m h1 h2
  ·exact⟨n,hn,fun m h1 h2=>hm ⟨m,h1,h2⟩⟩
open Classical in
/-- One more than the degree;0 of 0. -/
noncomputable def pl(F:Nat→Rat):Nat:=if h:Af F then(Oo h).choose else 0
theorem AU{F:Nat→Rat}(h:Af F):BB (pl F) F:=by
 unfold pl;rw[dif_pos h];exact(Oo h).choose_spec.1
theorem Bq{F:Nat→Rat}{n:Nat}(h:BB n F):pl F≤n:=by
 have hf:Af F:=⟨n,h⟩
 rcases Nat.lt_or_ge n (pl F)with hlt | hge
 ·unfold pl at hlt;rw[dif_pos hf]at hlt
  exact absurd h ((Oo hf).choose_spec.2 n hlt)
 ·exact hge
theorem Ex{F:Nat→Rat}(h:Af F)(h0:0 < pl F):F (pl F - 1)≠0:=by
 intro e;have:=Bq (F:=F) (n:=pl F - 1) fun i hi=>by
  rcases Nat.eq_or_lt_of_le hi with e' | e'
  ·rw[←e'];exact e
  ·exact AU h i Aa
 omega
theorem KE{F:Nat→Rat}{n:Nat}(h:BB n F)(h0:0 < n→F (n - 1)≠0):pl F=n:=by
 have h1:=Bq h;rcases Nat.lt_or_ge (pl F) n with hlt | hge
 ·exact absurd (AU ⟨n,h⟩ (n - 1) Aa) (h0 Aa)
 ·omega
theorem Ca:pl pz=0:=by have:=Bq (BB.pz 0);omega
theorem BG{F:Nat→Rat}(h:Af F):pl F=0↔F=pz:=by
 constructor
 ·intro e;have:=AU h;rw[e]at this;exact this.zero
 ·rintro rfl;exact Ca
theorem Af.pad{F G:Nat→Rat}(h:Af F)(k:Af G):Af (pad F G):=by
 obtain⟨n,h⟩:=h;obtain⟨m,k⟩:=k;exact⟨max n m,(h.mono Aa).pad (k.mono Aa)⟩
theorem Af.psb{F G:Nat→Rat}(h:Af F)(k:Af G):Af (psb F G):=by
 obtain⟨n,h⟩:=h;obtain⟨m,k⟩:=k;exact⟨max n m,(h.mono Aa).psb (k.mono Aa)⟩
theorem Af.psc{F:Nat→Rat}(a:Rat)(h:Af F):Af (psc a F):=by obtain⟨n,h⟩:=h;exact⟨n,h.psc a⟩
theorem Af.cv{F G:Nat→Rat}(h:Af F)(k:Af G):Af (cv F G):=by obtain⟨n,h⟩:=h;obtain⟨m,k⟩:=k;exact⟨_,h.cv k⟩
theorem Af.pz:Af pz:=⟨0,BB.pz 0⟩
theorem Af.co(l:List Rat):Af (co l):=⟨_,FM l⟩
theorem Af.cs{F:Nat→Rat}(a:Rat)(h:Af F):Af (cs a F):=by obtain⟨n,h⟩:=h;exact⟨n+1,h.cs a⟩
theorem GK{F G:Nat→Rat}(h:Af F)(k:Af G)(hF:F≠pz)(hG:G≠pz):pl (cv F G)=pl F+pl G - 1:=by
 have p1:0 < pl F:=Nat.pos_of_ne_zero fun e=>hF ((BG h).1 e);have p2:0 < pl G:=Nat.pos_of_ne_zero fun e=>hG ((BG k).1 e);refine KE ((AU h).cv (AU k)) fun _=>?_;have h1:=AU h;have h2:=AU k;have e:=RI (n:=pl F - 1) (m:=pl G - 1) (F:=F) (G:=G) (by rw[show pl F - 1+1=pl F from by omega];exact h1) (by rw[show pl G - 1+1=pl G from by omega];exact h2);rw[show pl F+pl G - 1 - 1=pl F - 1+(pl G - 1)from Aa,e]
 intro h0;rcases Rat.mul_eq_zero.1 h0 with h0 | h0
 ·exact Ex h p1 h0
 ·exact Ex k p2 h0
theorem JY{F G:Nat→Rat}(h:Af F)(k:Af G)(e:cv F G=pz):F=pz∨G=pz:=by
 by_cases hF:F=pz
 ·exact .inl hF
 ·by_cases hG:G=pz
  ·exact .inr hG
  ·have:=GK h k hF hG
   rw[e,Ca]at this;have p1:0 < pl F:=Nat.pos_of_ne_zero fun e=>hF ((BG h).1 e);have p2:0 < pl G:=Nat.pos_of_ne_zero fun e=>hG ((BG k).1 e);have:=KE (F:=F) (n:=1) (fun i hi=>?_) (fun _=>?_)
   ·exact absurd (by
     have hF1:F 0≠0:=by have:=Ex h p1;rwa[show pl F - 1=0 from by omega]at this
     have hG1:G 0≠0:=by have:=Ex k p2;rwa[show pl G - 1=0 from by omega]at this
     have h0:cv F G 0=0:=by rw[e];rfl
     rw[CQ]at h0;rcases Rat.mul_eq_zero.1 h0 with h0 | h0
     ·exact hF1 h0
     ·exact hG1 h0) not_false
   ·have:pl F=1:=by omega
    exact AU h i Aa
   ·have:=Ex h p1
    rwa[show pl F - 1=0 from by omega]at this
/-! ### division -/
theorem MJ{F G Q R Q' R':Nat→Rat}(hG:Af G)(hQ:Af Q)(hQ':Af Q')(h0:G≠pz)(h:F=pad (cv Q G) R)(h':F=pad (cv Q' G) R')(hR:BB (pl G - 1) R)(hR':BB (pl G - 1) R'):Q=Q'∧R=R':=by
 have p2:0 < pl G:=Nat.pos_of_ne_zero fun e=>h0 ((BG hG).1 e);have e1:cv (psb Q Q') G=psb R' R:=by
  rw[FE]
  funext n
  have:=congrFun (h.symm.trans h') n;simp only[pad,psb]at this ⊢;grind
 have hs:BB (pl G - 1) (cv (psb Q Q') G):=by rw[e1];exact hR'.psb hR
 have hz:psb Q Q'=pz:=by
  by_cases hz:psb Q Q'=pz
  ·exact hz
  ·have h1:=GK (hQ.psb hQ') hG hz h0
   have h2:=Bq hs;have p1:0 < pl (psb Q Q'):=Nat.pos_of_ne_zero fun e=>hz ((BG (hQ.psb hQ')).1 e);omega
 constructor
 ·funext n
  have:=congrFun hz n;simp only[psb,pz]at this;grind
 ·rw[hz,CG]at e1
  funext n
  have:=congrFun e1 n;simp only[psb,pz]at this;grind
/-! ### derivations -/
theorem bP(F:Nat→Rat):tl (Xr F)=pad (Xr (tl F)) (tl F):=by
 funext n
 simp only[tl,Xr,pad];have:((n+1:Nat):Rat)=(n:Rat)+1:=by simp
 rw[this];grind
theorem bV(F G:Nat→Rat):Xr (cv F G)=pad (cv (Xr F) G) (cv F (Xr G)):=by
 funext n
 induction n generalizing F with
 | zero =>
  simp only[Xr,pad,CQ];have:((0:Nat):Rat)=0:=rfl;rw[this];grind
 | succ n ih =>
  have h:=ih (tl F);have h1:∀ A B:Nat→Rat,∀ m,pad A B m=A m+B m:=fun _ _ _=>rfl;have h2:∀(A:Nat→Rat) m,Xr A m=(m:Rat)*A m:=fun _ _=>rfl;rw[h1,h2]at h;rw[h1,h2,BX,BX,BX,bP,Dk,h1,h2,h2];have e:((n+1:Nat):Rat)=(n:Rat)+1:=by simp
  have e0:((0:Nat):Rat)=0:=rfl;rw[e,e0];grind
theorem XB(F:Nat→Rat):pd F=tl (Xr F):=rfl
theorem Lv(F G:Nat→Rat):pd (cv F G)=pad (cv (pd F) G) (cv F (pd G)):=by
 funext n
 rw[XB,bV,XM];show cv (Xr F) G (n+1)+cv F (Xr G) (n+1)=cv (pd F) G n+cv F (pd G) n;have e0:((0:Nat):Rat)=0:=rfl;rw[BX,Qv,←XB,←XB];show((0:Nat):Rat)*F 0*_+_+(_+_*(((0:Nat):Rat)*G 0))=_;rw[e0];grind
/-! ### values -/
def CV:Nat→(Nat→Rat)→Rat→Rat
 | 0,_,_=>0
 | n+1,F,x=>F 0+x*CV n (tl F) x
theorem SI(n:Nat)(x:Rat):CV n pz x=0:=by
 induction n with
 | zero=>rfl
 | succ n ih=>show 0+x*CV n pz x=0;rw[ih];grind
theorem M5{n m:Nat}{F:Nat→Rat}(h:BB n F)(k:n≤m)(x:Rat):CV m F x=CV n F x:=by
 induction n generalizing F m with
 | zero=>rw[h.zero,SI];rfl
 | succ n ih =>
  obtain⟨m,rfl⟩:∃ j,m=j+1:=⟨m - 1,Aa⟩
  show F 0+x*CV m (tl F) x=F 0+x*CV n (tl F) x;rw[ih h.tl Aa]
noncomputable def ev(F:Nat→Rat)(x:Rat):Rat:=CV (pl F) F x
theorem F6{n:Nat}{F:Nat→Rat}(h:BB n F)(x:Rat):ev F x=CV n F x:=(M5 (AU ⟨n,h⟩) (Bq h) x).symm
theorem Un(n:Nat)(F G:Nat→Rat)(x:Rat):CV n (pad F G) x=CV n F x+CV n G x:=by
 induction n generalizing F G with
 | zero=>show(0:Rat)=0+0;grind
 | succ n ih =>
  show F 0+G 0+x*CV n (pad (tl F) (tl G)) x=F 0+x*CV n (tl F) x+(G 0+x*CV n (tl G) x);rw[ih];grind
theorem Zj(n:Nat)(a:Rat)(F:Nat→Rat)(x:Rat):CV n (psc a F) x=a*CV n F x:=by
 induction n generalizing F with
 | zero=>show(0:Rat)=a*0;grind
 | succ n ih =>
  show a*F 0+x*CV n (psc a (tl F)) x=a*(F 0+x*CV n (tl F) x);rw[ih];grind
theorem JR{F G:Nat→Rat}(h:Af F)(k:Af G)(x:Rat):ev (pad F G) x=ev F x+ev G x:=by
 obtain⟨n,h⟩:=h;obtain⟨m,k⟩:=k;have h1:=h.mono (Nat.le_max_left n m);have k1:=k.mono (Nat.le_max_right n m);rw[F6 (h1.pad k1),F6 h1,F6 k1,Un]
theorem Gu{F:Nat→Rat}(a:Rat)(h:Af F)(x:Rat):ev (psc a F) x=a*ev F x:=by
 obtain⟨n,h⟩:=h;rw[F6 (h.psc a),F6 h,Zj]
theorem bD{F G:Nat→Rat}(h:Af F)(k:Af G)(x:Rat):ev (psb F G) x=ev F x - ev G x:=by
 rw[Me,JR h (k.psc _),Gu _ k];grind
theorem Qa(x:Rat):ev pz x=0:=by unfold ev;rw[SI]
theorem O8{F:Nat→Rat}(a:Rat)(h:Af F)(x:Rat):ev (cs a F) x=a+x*ev F x:=by
 obtain⟨n,h⟩:=h;rw[F6 (h.cs a),F6 h];rfl
theorem Gm{F G:Nat→Rat}(h:Af F)(k:Af G)(x:Rat):ev (cv F G) x=ev F x*ev G x:=by
 obtain⟨n,h⟩:=h;induction n generalizing F with
 | zero=>rw[h.zero,CG,Qa];grind
 | succ n ih =>
  have e:=LA (F 0) (tl F) G;rw[Xx]at e;have hf:Af (tl F):=⟨n,h.tl⟩
  rw[e,JR (k.psc _) ((hf.cv k).cs 0),Gu _ k,O8 0 (hf.cv k),ih h.tl];have e2:=O8 (F 0) hf x;rw[Xx]at e2;rw[e2];grind
noncomputable def ld(F:Nat→Rat):Rat:=F (pl F - 1)
def mono(k:Nat)(a:Rat)(n:Nat):Rat:=if n=k then a else 0
def sh(k:Nat)(F:Nat→Rat)(n:Nat):Rat:=if n < k then 0 else F (n - k)
theorem CX(k:Nat)(a:Rat):BB (k+1) (mono k a):=fun i hi=>by unfold mono;rw[if_neg Aa]
theorem Ja(k:Nat)(a:Rat):mono k a k=a:=if_pos rfl
theorem Ez{k i:Nat}{a:Rat}(h:i≠k):mono k a i=0:=if_neg h
theorem Yz(F:Nat→Rat):sh 0 F=F:=by funext n;unfold sh;rw[if_neg Aa];rfl
theorem YB(k:Nat)(F:Nat→Rat):sh (k+1) F=cs 0 (sh k F):=by
 funext n
 cases n with
 | zero=>unfold sh;rw[if_pos Aa];rfl
 | succ n =>
  show sh (k+1) F (n+1)=sh k F n;unfold sh;by_cases h:n < k
  ·rw[if_pos h,if_pos Aa]
  ·rw[if_neg h,if_neg Aa,show n+1 - (k+1)=n - k from by omega]
theorem VE(k:Nat)(a:Rat):mono (k+1) a=cs 0 (mono k a):=by
 funext n
 cases n with
 | zero=>unfold mono;rw[if_neg Aa];rfl
 | succ n =>
  show mono (k+1) a (n+1)=mono k a n;unfold mono;by_cases h:n=k
  ·rw[if_pos h,if_pos Aa]
  ·rw[if_neg h,if_neg Aa]
theorem UI(a:Rat):mono 0 a=cs a pz:=by funext n;cases n<;>rfl
theorem EX(k:Nat)(a:Rat)(F:Nat→Rat):cv (mono k a) F=psc a (sh k F):=by
 induction k with
 | zero=>rw[UI,LA,CG,Yz];funext n;cases n<;>simp only[pad,psc,cs,pz]<;>grind
 | succ k ih=>rw[VE,Xq,ih,YB];funext n;cases n<;>simp only[psc,cs]<;>grind
theorem Af.mono(k:Nat)(a:Rat):Af (mono k a):=⟨_,CX k a⟩
theorem D8{F:Nat→Rat}(h:Af F)(h0:F≠pz):ld F≠0:=Ex h (Nat.pos_of_ne_zero fun e=>h0 ((BG h).1 e))
theorem Be{F:Nat→Rat}(h:Af F)(h0:F≠pz):0 < pl F:=Nat.pos_of_ne_zero fun e=>h0 ((BG h).1 e)
theorem F3{n:Nat}{R G:Nat→Rat}(hG:Af G)(h0:G≠pz)(hR:BB (n+pl G) R):BB (n+pl G - 1) (psb R (cv (mono n (R (n+pl G - 1) / ld G)) G)):=by
 have hp:=Be hG h0;have hl:=D8 hG h0;intro i hi;rw[EX];show R i - _*sh n G i=0;unfold sh;rw[if_neg Aa];rcases Nat.eq_or_lt_of_le hi with e | e
 ·rw[←e,show n+pl G - 1 - n=pl G - 1 from by omega]
  show _ - _ / ld G*ld G=0;grind
 ·rw[hR i Aa,AU hG (i - n) Aa];grind
theorem Ij{F G:Nat→Rat}(hF:Af F)(hG:Af G)(h0:G≠pz):∃ Q R,Af Q∧F=pad (cv Q G) R∧BB (pl G - 1) R:=by
 have hp:=Be hG h0
 suffices H:∀ n (F:Nat→Rat),BB (n+pl G - 1) F→∃ Q R,Af Q∧F=pad (cv Q G) R∧BB (pl G - 1) R from by
  obtain⟨n,hn⟩:=hF;exact H n F (hn.mono Aa)
 intro n;induction n with
 | zero=>intro F h;exact⟨pz,F,Af.pz,by rw[CG];funext n;simp only[pad,pz];grind,by rwa[Nat.zero_add]at h⟩
 | succ n ih =>
  intro F h;obtain⟨Q,R,h1,h2,h3⟩:=ih _ (F3 (n:=n) hG h0 (show BB (n+pl G) F from h.mono Aa));refine⟨pad (mono n (F (n+pl G - 1) / ld G)) Q,R,(Af.mono _ _).pad h1,?_,h3⟩;rw[Dk]
  funext m
  have:=congrFun h2 m;simp only[pad,psb]at this ⊢;grind
open Classical in
/-- Quotient and remainder. -/
noncomputable def pq(F G:Nat→Rat):Nat→Rat:=if h:Af F∧Af G∧G≠pz then(Ij h.1 h.2.1 h.2.2).choose else pz
noncomputable def pr(F G:Nat→Rat):Nat→Rat:=psb F (cv (pq F G) G)
theorem DJ(F G:Nat→Rat):Af (pq F G):=by
 unfold pq
 split
 ·rename_i h;exact(Ij h.1 h.2.1 h.2.2).choose_spec.choose_spec.1
 ·exact Af.pz
theorem EQ{F G:Nat→Rat}(hF:Af F)(hG:Af G):Af (pr F G):=hF.psb ((DJ F G).cv hG)
theorem Ko(F G:Nat→Rat):F=pad (cv (pq F G) G) (pr F G):=by funext n;simp only[pad,pr,psb];grind
theorem Ea{F G:Nat→Rat}(hF:Af F)(hG:Af G)(h0:G≠pz):BB (pl G - 1) (pr F G):=by
 have h:Af F∧Af G∧G≠pz:=⟨hF,hG,h0⟩
 obtain⟨R,h1,h2,h3⟩:=(Ij hF hG h0).choose_spec;have e:pq F G=(Ij hF hG h0).choose:=by unfold pq;rw[dif_pos h]
 have e2:pr F G=R:=by
  unfold pr;rw[e]
  funext n
  have:=congrFun h2 n;simp only[psb,pad]at this ⊢;grind
 rw[e2];exact h3
theorem GU{F G Q R:Nat→Rat}(hF:Af F)(hG:Af G)(h0:G≠pz)(hQ:Af Q)(h:F=pad (cv Q G) R)(hR:BB (pl G - 1) R):Q=pq F G∧R=pr F G:=
 MJ hG hQ (DJ F G) h0 h (Ko F G) hR (Ea hF hG h0)
theorem Nc{F G:Nat→Rat}(hF:Af F)(hG:Af G)(h0:G≠pz):pq (cv F G) G=F∧pr (cv F G) G=pz:=by
 have:=GU (hF.cv hG) hG h0 hF (R:=pz) (by funext n;simp only[pad,pz];grind) (BB.pz _);exact⟨this.1.symm,this.2.symm⟩
/-! ### divisors -/
def Dv(D F:Nat→Rat):Prop:=∃ Q,Af Q∧F=cv Q D
theorem Dv.refl(F:Nat→Rat):Dv F F:=⟨pone,⟨1,(BB.pz 0).cs 1⟩,(Db F).symm⟩
theorem Dv.zero(D:Nat→Rat):Dv D pz:=⟨pz,Af.pz,(CG D).symm⟩
theorem Dv.trans{D E F:Nat→Rat}(h:Dv D E)(k:Dv E F):Dv D F:=by
 obtain⟨Q,hQ,rfl⟩:=h;obtain⟨S,hS,rfl⟩:=k;exact⟨cv S Q,hS.cv hQ,(AJ _ _ _).symm⟩
theorem Dv.pad{D F G:Nat→Rat}(h:Dv D F)(k:Dv D G):Dv D (pad F G):=by
 obtain⟨Q,hQ,rfl⟩:=h;obtain⟨S,hS,rfl⟩:=k;exact⟨Hp.pad Q S,hQ.pad hS,(Dk _ _ _).symm⟩
theorem Dv.psb{D F G:Nat→Rat}(h:Dv D F)(k:Dv D G):Dv D (psb F G):=by
 obtain⟨Q,hQ,rfl⟩:=h;obtain⟨S,hS,rfl⟩:=k;exact⟨Hp.psb Q S,hQ.psb hS,(FE _ _ _).symm⟩
theorem Dv.psc{D F:Nat→Rat}(a:Rat)(h:Dv D F):Dv D (psc a F):=by
 obtain⟨Q,hQ,rfl⟩:=h;exact⟨Hp.psc a Q,hQ.psc a,(D6 _ _ _).symm⟩
theorem Dv.mul{D F:Nat→Rat}(h:Dv D F){G:Nat→Rat}(hG:Af G):Dv D (cv G F):=by
 obtain⟨Q,hQ,rfl⟩:=h;exact⟨cv G Q,hG.cv hQ,(AJ _ _ _).symm⟩
theorem Cu(a b:Rat)(F:Nat→Rat):psc a (psc b F)=psc (a*b) F:=by funext n;simp only[psc];grind
theorem Cn(F:Nat→Rat):psc 1 F=F:=by funext n;simp only[psc];grind
theorem Zt{a:Rat}(h:a≠0)(F:Nat→Rat):psc (1 / a) (psc a F)=F:=by rw[Cu,show 1 / a*a=1 from Au,Cn]
theorem Dv.unit{D F:Nat→Rat}{a:Rat}(h:Dv (Hp.psc a D) F):Dv D F:=by
 obtain⟨Q,hQ,rfl⟩:=h;exact⟨Hp.psc a Q,hQ.psc a,by rw[D6,OP]⟩
theorem Dv.le{D F:Nat→Rat}(hD:Af D)(hF:Af F)(h0:F≠pz)(h:Dv D F):pl D≤pl F:=by
 obtain⟨Q,hQ,rfl⟩:=h;have hD0:D≠pz:=fun e=>h0 (by rw[e,Kk]);have hQ0:Q≠pz:=fun e=>h0 (by rw[e,CG]);rw[GK hQ hD hQ0 hD0];have:=Be hQ hQ0;omega
theorem DX{a:Rat}(ha:a≠0){F:Nat→Rat}(h:Af F):pl (psc a F)=pl F:=by
 refine KE ((AU h).psc a) fun h0 e=>?_;rcases Rat.mul_eq_zero.1 (show a*F (pl F - 1)=0 from e)with e | e
 ·exact ha e
 ·exact Ex h h0 e
theorem FU(a:Rat):psc a pz=pz:=by funext n;simp only[psc,pz];grind
noncomputable def mn(F:Nat→Rat):Nat→Rat:=psc (1 / ld F) F
theorem Ns:mn pz=pz:=FU _
theorem Lb{F:Nat→Rat}(h:Af F):Af (mn F):=h.psc _
theorem Mv{a:Rat}(h:a≠0):1 / a≠0:=by intro e;have:1 / a*a=1:=Au;rw[e]at this;grind
theorem QK{F:Nat→Rat}(h:Af F):pl (mn F)=pl F:=by
 by_cases h0:F=pz
 ·rw[h0,Ns]
 ·exact DX (Mv (D8 h h0)) h
theorem TV{F:Nat→Rat}(h:Af F)(h0:F≠pz):ld (mn F)=1:=by
 have:=D8 h h0;unfold ld;rw[QK h];show 1 / ld F*ld F=1;grind
theorem iU{F:Nat→Rat}(h:Af F)(h0:F≠pz):mn F≠pz:=fun e=>by
 have:=QK h;rw[e,Ca]at this;have:=Be h h0;omega
theorem LC{F:Nat→Rat}(h:Af F):Dv (mn F) F:=by
 by_cases h0:F=pz
 ·rw[h0];exact Dv.zero _
 ·exact⟨psc (ld F) pone,Af.psc _ ⟨1,(BB.pz 0).cs 1⟩,by
   have:=D8 h h0;rw[D6,Db];unfold mn;rw[Cu,show ld F*(1 / ld F)=1 from Au,Cn]⟩
theorem LJ(F:Nat→Rat):Dv F (mn F):=(Dv.refl F).psc _
def LK(F G D:Nat→Rat):Prop:=Af D∧(D≠pz→ld D=1)∧Dv D F∧Dv D G∧∀ E,Af E→Dv E F→Dv E G→Dv E D
theorem Mk{F:Nat→Rat}(h:Dv pz F):F=pz:=by obtain⟨Q,_,rfl⟩:=h;exact Kk Q
theorem Ul{D E:Nat→Rat}(hD:Af D)(hE:Af E)(h1:D≠pz→ld D=1)(h2:E≠pz→ld E=1)(h:Dv D E)(k:Dv E D):D=E:=by
 by_cases h0:D=pz
 ·subst h0;exact(Mk h).symm
 ·have hE0:E≠pz:=fun e=>h0 (by rw[e]at k;exact Mk k)
  have l1:=h.le hD hE hE0;have l2:=k.le hE hD h0;obtain⟨Q,hQ,e⟩:=h;have hQ0:Q≠pz:=fun e'=>hE0 (by rw[e,e',CG]);have hl:=GK hQ hD hQ0 h0;rw[←e]at hl;have hp:=Be hQ hQ0;have hp2:=Be hD h0;have hq1:pl Q=1:=by omega
  have hq:Q=cs (Q 0) pz:=by
   have:=AU hQ;rw[hq1]at this
   funext n
   cases n with
   | zero=>rfl
   | succ n=>exact this (n+1) Aa
  have e2:E=psc (Q 0) D:=by
   rw[e,hq,LA,CG]
   funext n
   cases n<;>simp only[pad,psc,cs,pz]<;>grind
  have e3:ld E=Q 0*ld D:=by
   unfold ld;rw[show pl E=pl D from Aa,e2];rfl
  rw[h1 h0,h2 hE0]at e3;rw[e2,show Q 0=1 from Au,Cn]
theorem LK.uniq{F G D E:Nat→Rat}(h:LK F G D)(k:LK F G E):D=E:=
 Ul h.1 k.1 h.2.1 k.2.1 (k.2.2.2.2 D h.1 h.2.2.1 h.2.2.2.1) (h.2.2.2.2 E k.1 k.2.2.1 k.2.2.2.1)
theorem LK.of{F G F' G' D:Nat→Rat}(h:∀ E,Af E→(Dv E F∧Dv E G↔Dv E F'∧Dv E G'))(k:LK F G D):LK F' G' D:=by
 obtain⟨a,b,c,d,e⟩:=k;have:=(h D a).1 ⟨c,d⟩;exact⟨a,b,this.1,this.2,fun E hE h1 h2=>by have:=(h E hE).2 ⟨h1,h2⟩;exact e E hE this.1 this.2⟩
theorem LK.zero{F:Nat→Rat}(h:Af F):LK F pz (mn F):=
 ⟨Lb h,fun h0=>TV h fun e=>h0 (by rw[e,Ns]),LC h,Dv.zero _,fun E _ h1 _=>h1.trans (LJ F)⟩
theorem LX{F G E:Nat→Rat}:Dv E G∧Dv E (pr F G)↔Dv E F∧Dv E G:=by
 have e:=Ko F G;constructor
 ·rintro⟨h1,h2⟩
  refine⟨?_,h1⟩;rw[e];exact(h1.mul (DJ F G)).pad h2
 ·rintro⟨h1,h2⟩
  exact⟨h2,h1.psb (h2.mul (DJ F G))⟩
theorem OC{F E:Nat→Rat}(h:Af F):Dv E (mn F)↔Dv E F:=⟨fun(k:Dv E (mn F))=>k.trans (LC h),fun(k:Dv E F)=>k.trans (LJ F)⟩
/-! ### the cofactors -/
def iZ(F G D U V:Nat→Rat):Prop:=LK F G D∧Af U∧Af V∧pad (cv U F) (cv V G)=D∧BB (pl G - pl D) U
theorem iZ.uniq{F G D U V D' U' V':Nat→Rat}(hG:Af G)(h0:G≠pz)(h:iZ F G D U V)(k:iZ F G D' U' V'):D=D'∧U=U'∧V=V':=by
 obtain⟨h1,h2,h3,h4,h5⟩:=h;obtain⟨k1,k2,k3,k4,k5⟩:=k;obtain rfl:=h1.uniq k1;have hD0:D≠pz:=fun e=>h0 (Mk (by have:=h1.2.2.2.1;rwa[e]at this));obtain⟨A,hA,eA⟩:=h1.2.2.1;obtain⟨B,hB,eB⟩:=h1.2.2.2.1;have hB0:B≠pz:=fun e=>h0 (by rw[eB,e,CG])
 -- U A+V B=1
 have c1:∀ {X Y:Nat→Rat},Af X→Af Y→cv X D=cv Y D→X=Y:=by
  intro X Y hX hY e;have:cv (psb X Y) D=pz:=by rw[FE,e];funext n;simp only[psb,pz];grind
  rcases JY (hX.psb hY) h1.1 this with e | e
  ·funext n;have:=congrFun e n;simp only[psb,pz]at this;grind
  ·exact absurd e hD0
 have hp1:Af pone:=⟨1,(BB.pz 0).cs 1⟩
 have one:pad (cv U A) (cv V B)=pone:=by
  apply c1 ((h2.cv hA).pad (h3.cv hB)) hp1
  rw[Dk,AJ,AJ,←eA,←eB,h4,Db]
 -- (U - U') F=(V' - V) G
 have e1:cv (psb U U') A=cv (psb V' V) B:=by
  apply c1 ((h2.psb k2).cv hA) ((k3.psb h3).cv hB)
  rw[AJ,AJ,←eA,←eB,FE,FE];have:=h4.trans k4.symm
  funext n
  have:=congrFun this n;simp only[pad,psb]at this ⊢;grind
 -- B divides U - U'
 have e2:Dv B (psb U U'):=by
  have:psb U U'=pad (cv (cv U (psb V' V)) B) (cv (cv V (psb U U')) B):=by
   calc psb U U'=cv (psb U U') pone:=(KQ _).symm
    _=pad (cv U (cv (psb U U') A)) (cv V (cv (psb U U') B)):=by
     rw[←one,FW,←AJ,←AJ,Bw (psb U U') U,Bw (psb U U') V,AJ,AJ]
    _=_:=by rw[e1,AJ,AJ]
  rw[this];exact((Dv.refl B).mul (h2.cv (k3.psb h3))).pad ((Dv.refl B).mul (h3.cv (h2.psb k2)))
 have hpB:pl G=pl B+pl D - 1:=by rw[eB];exact GK hB h1.1 hB0 hD0
 have hz:psb U U'=pz:=by
  by_cases hz:psb U U'=pz
  ·exact hz
  ·have l1:=e2.le hB (h2.psb k2) hz
   have l2:=Bq (h5.psb k5);have l3:=Be (h2.psb k2) hz;have l4:=Be h1.1 hD0;omega
 have hU:U=U':=by funext n;have:=congrFun hz n;simp only[psb,pz]at this;grind
 refine⟨rfl,hU,?_⟩;subst hU;have:cv (psb V V') G=pz:=by
  rw[FE];have:=h4.trans k4.symm
  funext n
  have:=congrFun this n;simp only[pad,psb,pz]at this ⊢;grind
 rcases JY (h3.psb k3) hG this with e | e
 ·funext n;have:=congrFun e n;simp only[psb,pz]at this;grind
 ·exact absurd e h0
/-! ### roots -/
theorem DZ{n:Nat}(F:Nat→Rat)(x:Rat):CV (n+1) F x=F 0+x*CV n (tl F) x:=rfl
def Zp(n:Nat)(F:Nat→Rat)(x:Rat)(i:Nat):Rat:=CV n (fun j=>F (i+1+j)) x
theorem Zi{n:Nat}{F:Nat→Rat}(h:BB (n+1) F)(x:Rat):BB n (Zp n F x):=fun i hi=>by
 have:(fun j=>F (i+1+j))=pz:=by funext j;exact h _ Aa
 unfold Zp;rw[this,SI]
theorem d9{n:Nat}{F:Nat→Rat}(h:BB (n+1) F)(x:Rat):F=pad (cv (cs (-x) pone) (Zp n F x)) (cs (ev F x) pz):=by
 rw[LA,Db];have step:∀ i,CV (n+1) (fun j=>F (i+j)) x=F i+x*Zp n F x i:=fun i=>by
  rw[DZ];unfold Zp;have:tl (fun j=>F (i+j))=fun j=>F (i+1+j):=by funext j;show F (i+(j+1))=_;rw[show i+(j+1)=i+1+j from by omega]
  rw[this];rfl
 funext i
 cases i with
 | zero =>
  have h0:=step 0;rw[show(fun j=>F (0+j))=F from by funext j;rw[Nat.zero_add],←F6 h]at h0;simp only[pad,psc,cs];rw[h0];grind
 | succ i =>
  have h1:=step (i+1);have h2:CV (n+1) (fun j=>F (i+1+j)) x=Zp n F x i:=by
   unfold Zp;exact M5 (fun j hj=>h _ Aa) Aa x
  rw[h2]at h1;simp only[pad,psc,cs,pz];rw[h1];grind
theorem Ip:∀ {l:List Rat} {F:Nat→Rat},BB l.length F→l.Nodup→(∀ x∈l,ev F x=0)→F=pz
 | [],_,h,_,_=>h.zero
 | x::l,F,h,hn,hr=>by
  have e:=d9 (n:=l.length) h x;have hs:=Zi (n:=l.length) h x;rw[hr x List.mem_cons_self]at e;have e2:F=cv (cs (-x) pone) (Zp l.length F x):=by
   have:cs (0:Rat) pz=pz:=by funext n;cases n<;>rfl
   rw[this]at e
   funext n
   have:=congrFun e n;simp only[pad,pz]at this;rw[this];grind
  have hp:Af (cs (-x) pone):=Af.cs _ ⟨1,(BB.pz 0).cs 1⟩;have hz:Zp l.length F x=pz:=by
   apply Ip hs (List.nodup_cons.1 hn).2
   intro y hy;have h1:=hr y (List.mem_cons_of_mem _ hy);have h2:ev pone y=1:=by unfold pone;rw[O8 _ Af.pz,Qa];grind
   have h3:ev (cs (-x) pone) y = -x+y:=by rw[O8 (F:=pone) _ ⟨1,(BB.pz 0).cs 1⟩,h2];grind
   rw[e2,Gm hp ⟨_,hs⟩,h3]at h1;rcases Rat.mul_eq_zero.1 h1 with h | h
   ·have:x=y:=by grind
    subst this;exact absurd hy (List.nodup_cons.1 hn).1
   ·exact h
  rw[e2,hz,Kk]
/-! ### series -/
def rv(d:Nat)(F:Nat→Rat)(n:Nat):Rat:=if n≤d then F (d - n)else 0
def CB(D X:Nat)(F:Nat→Rat):Prop:=0 < D∧∀ i,∃ m:Int,F i=(m:Rat) / (D:Rat)∧m.natAbs≤X
def CD(s:Nat)(F:Nat→Rat):Prop:=∃ D X:Nat,CB D X F∧sz D≤s∧sz X≤s
theorem Jn(n:Int)(d:Nat):(n:Rat) / (d:Rat)=Rat.divInt n d:=by
 rw[Rat.divInt_eq_div];rfl
theorem Ju{d:Nat}(h:0 < d):(d:Rat)≠0:=by
 intro e;have:(d:Rat)=((0:Nat):Rat):=e;have:=Rat.natCast_inj.1 this;omega
theorem CD.pos{s:Nat}{F:Nat→Rat}(h:CD s F):1≤s:=by
 obtain⟨D,X,⟨h0,_⟩,hD,_⟩:=h;have:=DY (n:=D) Aa;omega
theorem CD.elem{s:Nat}{F:Nat→Rat}(h:CD s F)(i:Nat):qsz (F i)≤s:=by
 have hp:=h.pos;obtain⟨D,X,⟨h0,hN⟩,hD,hX⟩:=h;obtain⟨m,e,hm⟩:=hN i;rw[e,Jn];have:=Bp hm;exact Dl Aa (by simpa using hD) hp
theorem CD.mono{s t:Nat}{F:Nat→Rat}(h:CD s F)(k:s≤t):CD t F:=by
 obtain⟨D,X,h0,hD,hX⟩:=h;exact⟨D,X,h0,Aa,Aa⟩
theorem CD.pz:CD 1 pz:=⟨1,0,⟨Aa,fun _=>⟨0,by show(0:Rat)=_;grind,Ab⟩⟩,Ab,Ab⟩
theorem K6(a:Rat):a=(a.num:Rat) / (a.den:Rat):=by rw[Jn];exact(Rat.num_divInt_den a).symm
theorem CB.psc{D X:Nat}{F:Nat→Rat}(a:Rat)(h:CB D X F):CB (D*a.den) (a.num.natAbs*X) (psc a F):=by
 obtain⟨h0,hN⟩:=h;refine⟨Nat.mul_pos h0 a.den_pos,fun i=>?_⟩;obtain⟨m,e,hm⟩:=hN i;refine⟨a.num*m,?_,?_⟩
 ·show a*F i=_
  have h1:=Ju h0;have h2:=Ju a.den_pos;have h3:=K6 a;rw[e,Rat.intCast_mul,Rat.natCast_mul];generalize (a.num:Rat)=x at *;generalize (a.den:Rat)=y at *;rw[h3];grind
 ·rw[Int.natAbs_mul];exact Nat.mul_le_mul_left _ hm
theorem CD.psc{s:Nat}{F:Nat→Rat}(a:Rat)(h:CD s F):CD (s+qsz a) (psc a F):=by
 obtain⟨D,X,h0,hD,hX⟩:=h;refine⟨_,_,h0.psc a,?_,?_⟩
 ·have:=Cc D a.den;unfold qsz;omega
 ·have:=Cc a.num.natAbs X;unfold qsz;omega
theorem CB.pad{D X E Y:Nat}{F G:Nat→Rat}(h:CB D X F)(k:CB E Y G):CB (D*E) (X*E+Y*D) (pad F G):=by
 obtain⟨h0,hN⟩:=h;obtain⟨k0,hM⟩:=k;refine⟨Nat.mul_pos h0 k0,fun i=>?_⟩;obtain⟨m,e,hm⟩:=hN i;obtain⟨n,f,hn⟩:=hM i;refine⟨m*(E:Int)+n*(D:Int),?_,?_⟩
 ·show F i+G i=_
  have h1:=Ju h0;have h2:=Ju k0;rw[e,f,Rat.intCast_add,Rat.intCast_mul,Rat.intCast_mul,Rat.natCast_mul,Rat.intCast_natCast,Rat.intCast_natCast];grind
 ·refine Nat.le_trans (Int.natAbs_add_le _ _) ?_
  rw[Int.natAbs_mul,Int.natAbs_mul,Int.natAbs_natCast,Int.natAbs_natCast];exact Nat.add_le_add (Nat.mul_le_mul_right _ hm) (Nat.mul_le_mul_right _ hn)
theorem CD.pad{s t:Nat}{F G:Nat→Rat}(h:CD s F)(k:CD t G):CD (s+t+1) (pad F G):=by
 obtain⟨D,X,h0,hD,hX⟩:=h;obtain⟨E,Y,k0,hE,hY⟩:=k;refine⟨_,_,h0.pad k0,?_,?_⟩
 ·have:=Cc D E;omega
 ·have a2:=Gp (X*E) (Y*D)
  have a3:=Cc X E;have a4:=Cc Y D;omega
theorem CD.neg{s:Nat}{F:Nat→Rat}(h:CD s F):CD s (Hp.psc (-1) F):=by
 obtain⟨D,X,h0,hD,hX⟩:=h;have:=h0.psc (-1);rw[show(-1:Rat).den=1 from rfl,show(-1:Rat).num.natAbs=1 from rfl,Nat.mul_one,Nat.one_mul]at this;exact⟨D,X,this,hD,hX⟩
theorem CD.psb{s t:Nat}{F G:Nat→Rat}(h:CD s F)(k:CD t G):CD (s+t+1) (psb F G):=by
 rw[Me];exact h.pad k.neg
theorem CB.cs{D X:Nat}{F:Nat→Rat}(a:Rat)(h:CB D X F):CB (D*a.den) (X*a.den+a.num.natAbs*D) (cs a F):=by
 obtain⟨h0,hN⟩:=h;refine⟨Nat.mul_pos h0 a.den_pos,fun i=>?_⟩;have h1:=Ju h0;have h2:=Ju a.den_pos;cases i with
 | zero =>
  refine⟨a.num*(D:Int),?_,?_⟩
  ·show a=_
   have h3:=K6 a;rw[Rat.intCast_mul,Rat.natCast_mul,Rat.intCast_natCast];generalize (a.num:Rat)=x at *;generalize (a.den:Rat)=y at *;rw[h3];grind
  ·rw[Int.natAbs_mul,Int.natAbs_natCast];exact Nat.le_add_left _ _
 | succ i =>
  obtain⟨m,e,hm⟩:=hN i;refine⟨m*(a.den:Int),?_,?_⟩
  ·show F i=_
   rw[e,Rat.intCast_mul,Rat.natCast_mul,Rat.intCast_natCast];generalize (a.den:Rat)=y at *;grind
  ·rw[Int.natAbs_mul,Int.natAbs_natCast]
   exact Nat.le_trans (Nat.mul_le_mul_right _ hm) (Nat.le_add_right _ _)
theorem CD.cs{s:Nat}{F:Nat→Rat}(a:Rat)(h:CD s F):CD (s+qsz a+1) (cs a F):=by
 obtain⟨D,X,h0,hD,hX⟩:=h;refine⟨_,_,h0.cs a,?_,?_⟩
 ·have:=Cc D a.den;unfold qsz;omega
 ·have a2:=Gp (X*a.den) (a.num.natAbs*D)
  have a3:=Cc X a.den;have a4:=Cc a.num.natAbs D;unfold qsz;omega
theorem CD.of{n k:Nat}{F:Nat→Rat}(h:BB n F)(hk:∀ i,i < n→qsz (F i)≤k):CD (1+n*(k+1)) F:=by
 induction n generalizing F with
 | zero=>rw[h.zero];exact CD.pz.mono Aa
 | succ n ih =>
  have:=(ih h.tl fun i hi=>hk (i+1) Aa).cs (F 0);rw[Xx]at this;have h0:=hk 0 Aa;refine this.mono ?_;rw[Nat.succ_mul];omega
theorem CB.cv{n D X E Y:Nat}{F G:Nat→Rat}(hs:BB n F)(h:CB D X F)(k:CB E Y G):CB (D*E) (n*(X*Y)) (cv F G):=by
 have h0:=h.1;have k0:=k.1;have h1:=Ju h0;have h2:=Ju k0;refine⟨Nat.mul_pos h0 k0,fun i=>?_⟩;induction n generalizing F i with
 | zero=>rw[hs.zero,CG];exact⟨0,by show(0:Rat)=_;grind,Ac⟩
 | succ n ih =>
  have ht:CB D X (tl F):=⟨h0,fun i=>h.2 (i+1)⟩
  obtain⟨a,ea,ha⟩:=h.2 0;obtain⟨b,eb,hb⟩:=k.2 i;have hab:(a*b).natAbs≤X*Y:=by rw[Int.natAbs_mul];exact Nat.mul_le_mul ha hb
  cases i with
  | zero =>
   refine⟨a*b,?_,?_⟩
   ·rw[CQ,ea,eb,Rat.intCast_mul,Rat.natCast_mul];grind
   ·rw[Nat.succ_mul];omega
  | succ i =>
   obtain⟨m,em,hm⟩:=ih hs.tl ht i;refine⟨a*b+m,?_,?_⟩
   ·rw[BX,ea,eb,em,Rat.intCast_add,Rat.intCast_mul,Rat.natCast_mul];grind
   ·have:=Int.natAbs_add_le (a*b) m
    rw[Nat.succ_mul];omega
theorem CD.cv{n s t:Nat}{F G:Nat→Rat}(hs:BB n F)(hn:n < 4294967296)(h:CD s F)(k:CD t G):CD (s+t+1) (cv F G):=by
 obtain⟨D,X,h0,hD,hX⟩:=h;obtain⟨E,Y,k0,hE,hY⟩:=k;refine⟨_,_,h0.cv hs k0,?_,?_⟩
 ·have:=Cc D E;omega
 ·have a2:=Cc n (X*Y)
  have a3:=Cc X Y;have:=Yq hn;omega
theorem CB.step{n D X E Y:Nat}{R G:Nat→Rat}(hG:Af G)(h0:G≠Hp.pz)(h:CB D X R)(k:CB E Y G){M:Int}(hM:ld G=(M:Rat) / (E:Rat)) :
  CB (D*M.natAbs) (2*(X*max Y M.natAbs)) (Hp.psb R (Hp.cv (Hp.mono n (R (n+pl G - 1) / ld G)) G)):=by
 have hl:=D8 hG h0;have h1:=Ju h.1;have h2:=Ju k.1;have hM0:M≠0:=by rintro rfl;apply hl;rw[hM];grind
 have hMq:(M:Rat)≠0:=by simpa using hM0
 refine⟨Nat.mul_pos h.1 Aa,fun i=>?_⟩;obtain⟨a,ea,ha⟩:=h.2 i;obtain⟨b,eb,hb⟩:=h.2 (n+pl G - 1);obtain⟨g,eg,hg⟩:∃ g:Int,sh n G i=(g:Rat) / (E:Rat)∧g.natAbs≤Y:=by
  unfold sh
  split
  ·exact⟨0,Au,Ac⟩
  ·exact k.2 _
 have key:Hp.psb R (Hp.cv (Hp.mono n (R (n+pl G - 1) / ld G)) G) i=((a*M - b*g:Int):Rat) / ((D:Rat)*(M:Rat)):=by
  rw[EX];show R i - _*sh n G i=_;rw[ea,eb,eg,hM,Rat.intCast_sub,Rat.intCast_mul,Rat.intCast_mul];generalize (M:Rat)=m at *;generalize (E:Rat)=e at *;generalize (D:Rat)=d at *;grind
 have hbd:(a*M - b*g).natAbs≤2*(X*max Y M.natAbs):=by
  have h1:=Int.natAbs_sub_le (a*M) (b*g);rw[Int.natAbs_mul,Int.natAbs_mul]at h1;have h2:a.natAbs*M.natAbs≤X*max Y M.natAbs:=Nat.mul_le_mul ha (Nat.le_max_right _ _);have h3:b.natAbs*g.natAbs≤X*max Y M.natAbs:=Nat.mul_le_mul hb (Nat.le_trans hg (Nat.le_max_left _ _));omega
 rcases Int.le_total 0 M with hp | hp
 ·refine⟨a*M - b*g,?_,hbd⟩
  rw[key,Rat.natCast_mul];congr 2;rw[←Rat.intCast_natCast];congr 1;omega
 ·refine⟨-(a*M - b*g),?_,by rw[Int.natAbs_neg];exact hbd⟩
  rw[key,Rat.natCast_mul];have:((M.natAbs:Nat):Rat) = -(M:Rat):=by rw[←Rat.intCast_natCast,←Rat.intCast_neg];congr 1;omega
  rw[this];generalize (M:Rat)=m at *;rw[Rat.intCast_neg];grind
theorem CB.lead{E Y:Nat}{G:Nat→Rat}(k:CB E Y G):∃ M:Int,ld G=(M:Rat) / (E:Rat)∧M.natAbs≤Y:=k.2 _
theorem CD.step{n s t:Nat}{R G:Nat→Rat}(hG:Af G)(h0:G≠Hp.pz)(h:CD s R)(k:CD t G):CD (s+t+1) (Hp.psb R (Hp.cv (Hp.mono n (R (n+pl G - 1) / ld G)) G)):=by
 obtain⟨D,X,h1,hD,hX⟩:=h;obtain⟨E,Y,k1,hE,hY⟩:=k;obtain⟨M,e,hM⟩:=k1.lead;refine⟨_,_,h1.step hG h0 k1 e,?_,?_⟩
 ·have:=Cc D M.natAbs;have:=Bp hM;omega
 ·rw[Nat.max_eq_left hM]
  have:=Cc 2 (X*Y);have:=Cc X Y;have:sz 2=1:=by decide
  omega
theorem Pp{n:Nat}{F G:Nat→Rat}(hF:BB (n+pl G) F)(hG:Af G)(h0:G≠pz) :
  pr F G=pr (psb F (cv (mono n (F (n+pl G - 1) / ld G)) G)) G∧pq F G=pad (mono n (F (n+pl G - 1) / ld G)) (pq (psb F (cv (mono n (F (n+pl G - 1) / ld G)) G)) G):=by
 obtain⟨F',hF'⟩:∃ F',F'=psb F (cv (mono n (F (n+pl G - 1) / ld G)) G):=⟨_,rfl⟩
 rw[←hF'];have hfin:Af F':=by rw[hF'];exact Af.psb ⟨_,hF⟩ ((Af.mono _ _).cv hG)
 have:=GU ⟨_,hF⟩ hG h0 (Q:=pad (mono n (F (n+pl G - 1) / ld G)) (pq F' G)) (R:=pr F' G) ((Af.mono _ _).pad (DJ _ _)) ?_ (Ea hfin hG h0)
 ·exact⟨this.2.symm,this.1.symm⟩
 ·have e:=Ko F' G
  rw[Dk]
  funext m
  have e:=congrFun e m;have e2:=congrFun hF' m;simp only[pad,psb]at e e2 ⊢;grind
theorem Ke{F G:Nat→Rat}(hF:BB (pl G - 1) F)(hG:Af G)(h0:G≠pz):pr F G=F∧pq F G=pz:=by
 have:=GU ⟨_,hF⟩ hG h0 (Q:=pz) (R:=F) Af.pz (by rw[CG];funext m;simp only[pad,pz];grind) hF;exact⟨this.2.symm,this.1.symm⟩
theorem CD.pr{n s t:Nat}{F G:Nat→Rat}(hF:BB (n+pl G - 1) F)(hG:Af G)(h0:G≠Hp.pz)(h:CD s F)(k:CD t G):CD (s+n*(t+1)) (pr F G):=by
 have hp:=Be hG h0;induction n generalizing s F with
 | zero=>rw[Nat.zero_add]at hF;rw[(Ke hF hG h0).1];exact h.mono Aa
 | succ n ih =>
  have hF':BB (n+pl G) F:=hF.mono Aa;rw[(Pp hF' hG h0).1];refine(ih (F3 hG h0 hF') (h.step hG h0 k)).mono ?_;rw[Nat.succ_mul];omega
theorem Lm{n:Nat}{F G:Nat→Rat}(hF:BB (n+pl G - 1) F)(hG:Af G)(h0:G≠pz):BB n (pq F G):=by
 have hp:=Be hG h0;induction n generalizing F with
 | zero=>rw[Nat.zero_add]at hF;rw[(Ke hF hG h0).2];exact BB.pz 0
 | succ n ih =>
  have hF':BB (n+pl G) F:=hF.mono Aa;rw[(Pp hF' hG h0).2];exact(CX n _).pad ((ih (F3 hG h0 hF')).mono Aa)
theorem MV{n s t:Nat}{F G:Nat→Rat}(hF:BB (n+pl G - 1) F)(hG:Af G)(h0:G≠pz)(h:CD s F)(k:CD t G)(i:Nat):qsz (pq F G i)≤s+n*(t+1)+t:=by
 have hp:=Be hG h0;induction n generalizing s F with
 | zero=>rw[Nat.zero_add]at hF;rw[(Ke hF hG h0).2];have:=h.pos;show qsz 0≤_;have:qsz 0=1:=Ab;omega
 | succ n ih =>
  have hF':BB (n+pl G) F:=hF.mono Aa;have h1:=ih (F3 hG h0 hF') (h.step hG h0 k);have h2:=Lm (F3 hG h0 hF') hG h0;rw[(Pp hF' hG h0).2];show qsz (mono n _ i+_)≤_;by_cases hi:i=n
  ·rw[hi,Ja,h2 n Aa]
   have:=Fu (F (n+pl G - 1)) (ld G);have:=h.elem (n+pl G - 1);have:qsz (ld G)≤t:=k.elem _;have e:F (n+pl G - 1) / ld G+0=F (n+pl G - 1) / ld G:=by grind
   rw[e,Nat.succ_mul];omega
  ·rw[Ez hi]
   have e:∀ a:Rat,0+a=a:=fun a=>by grind
   rw[e,Nat.succ_mul];omega
theorem CD.pq{n s t:Nat}{F G:Nat→Rat}(hF:BB (n+pl G - 1) F)(hG:Af G)(h0:G≠Hp.pz)(h:CD s F)(k:CD t G):CD (1+n*(s+n*(t+1)+t+1)) (pq F G):=
 CD.of (Lm hF hG h0) fun i _=>MV hF hG h0 h k i
open Go.RowKit
theorem UJ{l m:List Rat}{i:Nat}(h:i < l.length):co (l ++ m) i=co l i:=by
 rw[DW D7,DW h,List.getElem_append_left h]
theorem QO{l:List Rat}{i:Nat}(h:l.length≤i):co l i=0:=FM l i h
theorem Gw(l:List Rat):co (BU l)=co l:=by
 refine NI (p:=fun l=>co (BU l)=co l) rfl (fun l d ih=>?_) l;by_cases h:d=0
 ·subst h
  rw[Ef,ih]
  funext i
  rcases Nat.lt_or_ge i l.length with hi | hi
  ·rw[UJ hi]
  ·rw[QO hi]
   rcases Nat.eq_or_lt_of_le hi with e | e
   ·subst e;rw[DW Ac];simp
   ·rw[QO D7]
 ·rw[I6 _ _ h]
def Il(l:List Rat):Prop:=∀ h:0 < l.length,l[l.length - 1]≠0
theorem Fv(l:List Rat):Il (BU l):=by
 refine NI (p:=fun l=>Il (BU l)) (fun h=>absurd h (by simp[BU])) (fun l d ih=>?_) l;by_cases h:d=0
 ·subst h;rw[Ef];exact ih
 ·rw[I6 _ _ h];intro _;simpa using h
theorem Il.pl{l:List Rat}(h:Il l):pl (co l)=l.length:=by
 refine KE (FM l) fun h0=>?_;rw[DW Aa];exact h h0
theorem dQ{l m:List Rat}(hl:l.length=m.length)(h:co l=co m):l=m:=by
 apply List.ext_getElem hl
 intro i h1 h2;have:=congrFun h i;rwa[DW h1,DW h2]at this
theorem Il.uniq{l m:List Rat}(h:Il l)(k:Il m)(e:co l=co m):l=m:=dQ (by rw[←h.pl,←k.pl,e]) e
theorem Jp{n:Nat}{F:Nat→Rat}(h:BB n F):co ((List.range n).map F)=F:=by
 funext i
 rcases Nat.lt_or_ge i n with hi | hi
 ·rw[DW (by simpa using hi)];simp
 ·rw[QO (by simpa using hi),h i hi]
def Da(base:Nat)(w:World)(v:Value)(F:Nat→Rat):Prop:=∃ l,Pt base w v l∧Il l∧co l=F
theorem Da.ext{base:Nat}{w w':World}{v:Value}{F:Nat→Rat}(h:Da base w v F)(e:Ext w w'):Da base w' v F:=by
 obtain⟨l,h1,h2,h3⟩:=h;exact⟨l,h1.ext e,h2,h3⟩
theorem Da.base_le{base b:Nat}{w:World}{v:Value}{F:Nat→Rat}(h:Da base w v F)(hb:b≤base):Da b w v F:=by
 obtain⟨l,h1,h2,h3⟩:=h;exact⟨l,h1.base_le hb,h2,h3⟩
theorem Da.fin{base:Nat}{w:World}{v:Value}{F:Nat→Rat}(h:Da base w v F):Af F:=by
 obtain⟨l,_,_,rfl⟩:=h;exact Af.co l
theorem Pt.has{base:Nat}{w:World}{v:Value}{l:List Rat}(h:Pt base w v l)(hs:∀ q∈l,qsz q≤274877906944):KU 0 w v l:=by
 obtain⟨A,c,h1,h2,h3,h4⟩:=h;refine⟨A,c,h1,h2,h3,fun h0=>?_⟩;obtain⟨g,o,q1,q2,q3⟩:=h4 h0;refine⟨g,o,q1,Nat.zero_le _,fun j hj=>?_⟩;obtain⟨cs,r1,r2,r3⟩:=q3 j hj;exact⟨cs,r1,r2,r3.has (hs _ (List.getElem_mem hj))⟩
theorem Da.form{base:Nat}{w:World}{v:Value}{F:Nat→Rat}(h:Da base w v F):∃ A c l,v = .slice A (pl F) c∧pl F≤c∧c≤9223372036854775807∧Lr base w A l∧l.length=pl F∧Il l∧co l=F:=by
 obtain⟨l,⟨A,c,h1,h2,h3,h4⟩,h5,rfl⟩:=h;have:=h5.pl;exact⟨A,c,l,by rw[this];exact h1,Aa,h3,h4,this.symm,h5,rfl⟩
theorem Da.qs{base:Nat}{w:World}{v:Value}{F:Nat→Rat}(h:Da base w v F):∃ l,Pt base w v l∧l.length=pl F∧Il l∧co l=F:=by
 obtain⟨l,h1,h5,rfl⟩:=h;exact⟨l,h1,h5.pl.symm,h5,rfl⟩
theorem dI{l:List Rat}{q:Rat}(h:q∈l):∃ i,q=co l i:=by
 obtain⟨i,hi,e⟩:=List.getElem_of_mem h;exact⟨i,by rw[DW hi,e]⟩
theorem Da.hs{base:Nat}{w:World}{v:Value}{F:Nat→Rat}(h:Da base w v F)(hs:∀ i,qsz (F i)≤274877906944):∃ l,KU 0 w v l∧l.length=pl F∧Il l∧co l=F:=by
 obtain⟨l,h1,h2,h3,rfl⟩:=h.qs;exact⟨l,h1.has (fun q hq=>by obtain⟨i,rfl⟩:=dI hq;exact hs i),h2,h3,rfl⟩
theorem Da.of_trim{base:Nat}{w:World}{v:Value}{l:List Rat}{F:Nat→Rat}(h:Pt base w v (BU l))(e:co l=F):Da base w v F:=
 ⟨_,h,Fv l,by rw[Gw,e]⟩
theorem Da.nil(base:Nat)(w:World)(c:Nat:=0):Da base w (.slice none 0 0) pz:=⟨[],CZ.nil 4 BD base w,fun h=>absurd h Ac,P9⟩
theorem KU.qsz{base:Nat}{w:World}{v:Value}{l:List Rat}(h:KU base w v l):∀ q∈l,Hp.qsz q≤274877906944:=by
 obtain⟨A,c,h1,h2,h3,h4⟩:=h;intro q hq;obtain⟨i,hi,rfl⟩:=List.getElem_of_mem hq;obtain⟨g,o,q1,q2,q3⟩:=h4 Aa;obtain⟨cs,r1,r2,r3⟩:=q3 i hi;exact r3.qsz
theorem RU{cs:Array Value}{a b:Value}(e:Value.agg cs = .agg #[a,b]):cs=#[a,b]:=by injection e
def LG(base:Nat)(w:World)(v:Value)(l:List Int):Prop:=CZ 2 AO base w v l
def LU(base:Nat)(w:World)(A:Option Addr)(l:List Int):Prop:=DK 2 AO base w A l
def Dt(base:Nat)(w:World)(v:Value)(l:List Int):Prop:=CZ 2 Bu base w v l
def GI(base:Nat)(w:World)(A:Option Addr)(l:List Int):Prop:=DK 2 Bu base w A l
theorem LG.ext{base:Nat}{w w':World}{v:Value}{l:List Int}(h:LG base w v l)(e:Ext w w'):LG base w' v l:=CZ.ext h e fun _ _ q=>q.kd e.kd
theorem Dt.ext{base:Nat}{w w':World}{v:Value}{l:List Int}(h:Dt base w v l)(e:Ext w w'):Dt base w' v l:=CZ.ext h e fun _ _ q=>q.kd e.kd
theorem LU.ext{base:Nat}{w w':World}{A:Option Addr}{l:List Int}(h:LU base w A l)(e:Ext w w'):LU base w' A l:=DK.ext h e fun _ _ q=>q.kd e.kd
theorem GI.ext{base:Nat}{w w':World}{A:Option Addr}{l:List Int}(h:GI base w A l)(e:Ext w w'):GI base w' A l:=DK.ext h e fun _ _ q=>q.kd e.kd
theorem AO.ext_{w w':World}{v:Value}{x:Int}(h:AO w v x)(e:Ext w w'):AO w' v x:=h.kd e.kd
theorem Bu.cells{w:World}{v:Value}{x:Int}(h:Bu w v x):∃ b A n c,v = .agg #[.bool b,.slice A n c]:=by
 obtain⟨b,A,n,c,N,e,_⟩:=h.form;exact⟨b,A,n,c,e⟩
theorem GI.at_{base:Nat}{w:World}{A:Option Addr}{l:List Int}(h:GI base w A l){j:Nat}(hj:j < l.length) :
  ∃ g o b A1 n c,A=some ⟨g,o,none⟩∧base≤g∧w.cell? ⟨g,o+j*2,none⟩=some (.bool b)∧w.cell? ⟨g,o+j*2+1,none⟩=some (.slice A1 n c)∧Bu w (.agg #[.bool b,.slice A1 n c]) l[j]:=by
 obtain⟨g,o,ha,hb,hc⟩:=h Aa;obtain⟨cs,q1,q2,q3⟩:=hc j hj;obtain⟨b,A1,n,c,e⟩:=q3.cells;obtain rfl:=RU e;exact⟨g,o,b,A1,n,c,ha,hb,q2 0 Aa,q2 1 Aa,q3⟩
theorem LU.at_{base:Nat}{w:World}{A:Option Addr}{l:List Int}(h:LU base w A l){j:Nat}(hj:j < l.length) :
  ∃ g o b A1 n c,A=some ⟨g,o,none⟩∧base≤g∧w.cell? ⟨g,o+j*2,none⟩=some (.bool b)∧w.cell? ⟨g,o+j*2+1,none⟩=some (.slice A1 n c)∧AO w (.agg #[.bool b,.slice A1 n c]) l[j]:=by
 obtain⟨g,o,ha,hb,hc⟩:=h Aa;obtain⟨cs,q1,q2,q3⟩:=hc j hj;obtain⟨b,A1,n,c,e⟩:=q3.cells;obtain rfl:=RU e;exact⟨g,o,b,A1,n,c,ha,hb,q2 0 Aa,q2 1 Aa,q3⟩
theorem Dt.at_{base n c:Nat}{w:World}{A:Option Addr}{l:List Int}(h:Dt base w (.slice A n c) l){j:Nat}(hj:j < l.length) :
  ∃ g o b A1 n1 c1,A=some ⟨g,o,none⟩∧base≤g∧w.cell? ⟨g,o+j*2,none⟩=some (.bool b)∧w.cell? ⟨g,o+j*2+1,none⟩=some (.slice A1 n1 c1)∧Bu w (.agg #[.bool b,.slice A1 n1 c1]) l[j]:=by
 obtain⟨A',c',e,_,_,hA⟩:=h;have:A'=A:=by injection e with h1;exact h1.symm
 subst this;exact GI.at_ hA hj
theorem LG.at_{base n c:Nat}{w:World}{A:Option Addr}{l:List Int}(h:LG base w (.slice A n c) l){j:Nat}(hj:j < l.length) :
  ∃ g o b A1 n1 c1,A=some ⟨g,o,none⟩∧base≤g∧w.cell? ⟨g,o+j*2,none⟩=some (.bool b)∧w.cell? ⟨g,o+j*2+1,none⟩=some (.slice A1 n1 c1)∧AO w (.agg #[.bool b,.slice A1 n1 c1]) l[j]:=by
 obtain⟨A',c',e,_,_,hA⟩:=h;have:A'=A:=by injection e with h1;exact h1.symm
 subst this;exact LU.at_ hA hj
theorem AO.two{w:World}{b:Bool}{A:Option Addr}{n c:Nat}{x:Int}(h:AO w (.agg #[.bool b,.slice A n c]) x):n=sz x.natAbs∧b=decide (x < 0):=by
 obtain⟨A',c',e,_⟩:=h.form;have e:=RU e;simp only[Array.mk.injEq,List.cons.injEq,Value.bool.injEq,Value.slice.injEq,and_true]at e;exact⟨e.2.2.1,e.1⟩
theorem LG.has{base:Nat}{w:World}{v:Value}{l:List Int}(h:LG base w v l)(hs:∀ x∈l,sz x.natAbs≤1099511627776):Dt 0 w v l:=by
 obtain⟨A,c,h1,h2,h3,h4⟩:=h;refine⟨A,c,h1,h2,h3,fun h0=>?_⟩;obtain⟨g,o,q1,q2,q3⟩:=h4 h0;refine⟨g,o,q1,Nat.zero_le _,fun j hj=>?_⟩;obtain⟨cs,r1,r2,r3⟩:=q3 j hj;exact⟨cs,r1,r2,r3.has (hs _ (List.getElem_mem hj))⟩
theorem Dt.sz{base:Nat}{w:World}{v:Value}{l:List Int}(h:Dt base w v l):∀ x∈l,Hp.sz x.natAbs≤1099511627776:=by
 obtain⟨A,c,h1,h2,h3,h4⟩:=h;intro q hq;obtain⟨i,hi,rfl⟩:=List.getElem_of_mem hq;obtain⟨g,o,q1,q2,q3⟩:=h4 Aa;obtain⟨cs,r1,r2,r3⟩:=q3 i hi;exact r3.sz
theorem Dt.len{base:Nat}{w:World}{v:Value}{l:List Int}(h:Dt base w v l):∃ A c,v = .slice A l.length c:=CZ.len h
/-! ### arrays of the call's own -/
def Cv(w:World)(g:Nat)(t:TypeId)(l:List Int):Prop:=
 ∃ cs,Bj w g t cs∧l.length*2≤cs.size∧∀ j (h:j < l.length),∃ b A n c,cs[j*2]? = some (.bool b)∧cs[j*2+1]? = some (.slice A n c)∧AO w (.agg #[.bool b,.slice A n c]) l[j]
section
variable{w w':World}{g:Nat}{t:TypeId}{l:List Int}
theorem Cv.lt(h:Cv w g t l):g < w.heap.size:=by obtain⟨cs,h1,_⟩:=h;exact h1.lt
theorem Cv.frozen(h:Cv w g t l)(i:Nat):w.frozen? ⟨g,i,none⟩=false:=by obtain⟨cs,h1,_⟩:=h;exact h1.frozen i
theorem Cv.ext(h:Cv w g t l)(e:Ext w w'):Cv w' g t l:=by
 obtain⟨cs,h1,h2,h3⟩:=h;refine⟨cs,h1.ext e,h2,fun j hj=>?_⟩;obtain⟨b,A,n,c,q0,q1,q⟩:=h3 j hj;exact⟨b,A,n,c,q0,q1,q.kd e.kd⟩
theorem Cv.upd{G:List Nat}(h:Cv w g t l)(U:Cs G w w')(hg:g∉G):Cv w' g t l:=by
 obtain⟨cs,h1,h2,h3⟩:=h;refine⟨cs,h1.upd U hg,h2,fun j hj=>?_⟩;obtain⟨b,A,n,c,q0,q1,q⟩:=h3 j hj;exact⟨b,A,n,c,q0,q1,q.kd U.kd⟩
theorem Cv.at_(h:Cv w g t l){j:Nat}(hj:j < l.length) :
  ∃ b A n c,w.cell? ⟨g,j*2,none⟩=some (.bool b)∧w.cell? ⟨g,j*2+1,none⟩=some (.slice A n c)∧AO w (.agg #[.bool b,.slice A n c]) l[j]:=by
 obtain⟨cs,h1,h2,h3⟩:=h;obtain⟨b,A,n,c,q0,q1,q⟩:=h3 j hj;exact⟨b,A,n,c,h1.cell q0,h1.cell q1,q⟩
theorem Cv.put(h:Cv w g t l){k:Nat}(hk:k < l.length){b:Bool}{A:Option Addr}{n c:Nat}{q:Int}(hq:AO w (.agg #[.bool b,.slice A n c]) q) :
  ∃ W,W=(w.setCell ⟨g,k*2,none⟩ (.bool b)).setCell ⟨g,k*2+1,none⟩ (.slice A n c)∧Cv W g t (l.set k q)∧Cs [g] w W:=by
 obtain⟨cs,h1,h2,h3⟩:=h;have B1:=h1.set_ (k*2) (u := .bool b) rfl;have B2:=B1.set_ (k*2+1) (u := .slice A n c) rfl;have U:Cs [g] w _:=(Cs.set_ h1.nodig (k*2) (.bool b)).trans (Cs.set_ B1.nodig (k*2+1) (.slice A n c));refine⟨_,rfl,⟨_,B2,by simpa using h2,fun j hj=>?_⟩,U⟩;have hj':j < l.length:=by simpa using hj
 by_cases e:j=k
 ·subst e
  refine⟨b,A,n,c,?_,?_,?_⟩
  ·rw[Array.getElem?_setIfInBounds_ne Aa,Array.getElem?_setIfInBounds,if_pos rfl,if_pos Aa]
  ·rw[Array.getElem?_setIfInBounds,if_pos rfl,if_pos D7]
  ·rw[List.getElem_set_self]
   exact hq.kd U.kd
 ·obtain⟨b,A,n,c,q0,q1,q⟩:=h3 j hj'
  refine⟨b,A,n,c,?_,?_,?_⟩
  ·rw[Array.getElem?_setIfInBounds_ne Aa,Array.getElem?_setIfInBounds_ne Aa];exact q0
  ·rw[Array.getElem?_setIfInBounds_ne Aa,Array.getElem?_setIfInBounds_ne Aa];exact q1
  ·rw[List.getElem_set_ne Aa];exact q.kd U.kd
theorem KN(w:World):AO w (.agg #[.bool false,.slice none 0 0]) 0:=
 ⟨false,[],⟨_,rfl,none,0,rfl,Nat.le_refl _,Aa,fun d hd=>by simp at hd,fun h=>by simp at h⟩,rfl,fun h=>by simp at h,fun h=>by cases h⟩
theorem Cv.new(w:World)(t:TypeId)(n:Nat):Cv (w.alloc (.cells (madeCells #[.bool false,.slice none 0 0] (n*2)) t)) w.heap.size t (List.replicate n 0):=by
 have key:∀ j i v,j < n→i < 2→#[Value.bool false,.slice none 0 0][i]? = some v→(madeCells #[Value.bool false,.slice none 0 0] (n*2))[j*2+i]? = some v:=by
  intro j i v hj hi hv;rw[Array.getElem?_eq_getElem (by rw[size_madeCells];omega)];simp only[madeCells,Array.getElem_map,Array.getElem_range];rw[show(j*2+i) % #[Value.bool false,.slice none 0 0].size=i from by show(j*2+i) % 2=i;omega]
  match i,hi with
  | 0,_=>exact hv
  | 1,_=>exact hv
 refine⟨_,Bj.new w t _ ?_,by rw[size_madeCells,List.length_replicate];exact Nat.le_refl _,fun j hj=>?_⟩
 ·rw[Array.all_eq_true]
  intro i hi;have hi':i < n*2:=by rw[size_madeCells]at hi;exact hi
  have hs:=Array.getElem?_eq_getElem hi;generalize (madeCells #[Value.bool false,Value.slice none 0 0] (n*2))[i]=u at *;have h4:i % 2=0∨i % 2=1:=by omega
  rcases h4 with h | h
  ·have:=key (i / 2) 0 _ Aa Aa rfl
   rw[show i / 2*2+0=i from Aa,hs]at this;cases this;rfl
  ·have:=key (i / 2) 1 _ Aa Aa rfl
   rw[show i / 2*2+1=i from Aa,hs]at this;cases this;rfl
 ·have hj':j < n:=by simpa using hj
  refine⟨false,none,0,0,key j 0 _ hj' Aa rfl,key j 1 _ hj' Aa rfl,?_⟩;rw[List.getElem_replicate];exact KN _
theorem Cv.row(h:Cv w g t l){base:Nat}(hb:base≤g):LU base w (some ⟨g,0,none⟩) l:=fun _=>by
 obtain⟨cs,h1,h2,h3⟩:=h;refine⟨g,0,rfl,hb,fun j hj=>?_⟩;obtain⟨b,A,n,c,q0,q1,q⟩:=h3 j hj;refine⟨_,rfl,?_,q⟩;intro i hi
 match i,hi with
 | 0,_=>simpa using h1.cell q0
 | 1,_=>simpa using h1.cell q1
theorem Cv.pre(h:Cv w g t l)(n:Nat):Cv w g t (l.take n):=by
 obtain⟨cs,h1,h2,h3⟩:=h;have hl:(l.take n).length≤l.length:=List.length_take_le' _ _;refine⟨cs,h1,Aa,fun j hj=>?_⟩;have:=h3 j Aa;rw[List.getElem_take];exact this
end
/-! ### rows that are appended to -/
def Es(w:World)(v:Value)(base:Nat)(q:Int)(t:TypeId):Prop:=Mt 2 AO w v base q t
theorem Es.ext{w w':World}{v:Value}{base:Nat}{q:Int}{t:TypeId}(h:Es w v base q t)(e:Ext w w'):Es w' v base q t:=Mt.ext h e fun _ _ h=>h.kd e.kd
theorem Es.mk{w:World}{b:Bool}{A:Option Addr}{n c:Nat}{q:Int}(h:AO w (.agg #[.bool b,.slice A n c]) q){base:Nat}(hb:base≤w.heap.size)(t:TypeId) :
  Es (w.alloc (.cells #[.bool b,.slice A n c] t)) (.slice (some ⟨w.heap.size,0,none⟩) 1 1) base q t:=
 ⟨_,_,rfl,hb,Bj.new w t _ (by simp[Ag]),rfl,h.kd ((Ext.refl w).alloc _).kd⟩
theorem AO.one{w:World}{cs:Array Value}{q:Int}(h:AO w (.agg cs) q):(∀ u∈cs.toList,u.oneCell'=true)∧nodig cs=true∧cs.size=2:=by
 obtain⟨b,A,n,c,e⟩:=h.cells;obtain rfl:=RU e;refine⟨fun u hu=>?_,by simp[nodig,Ag],rfl⟩;simp at hu;rcases hu with rfl | rfl<;>rfl
theorem AO.el{w:World}{v:Value}{q:Int}(h:AO w v q){p:Prop}(k:∀ b A n c,v = .agg #[.bool b,.slice A n c]→AO w (.agg #[.bool b,.slice A n c]) q→p):p:=by
 obtain⟨b,A,n,c,e⟩:=h.cells;exact k b A n c e (e▸h)
def CE(base:Nat)(e:TypeId)(w:World)(v:Value)(l:List Int):Prop:=BI 2 AO base e w v l
theorem CE.ext{base:Nat}{e:TypeId}{w w':World}{v:Value}{l:List Int}(h:CE base e w v l)(x:Ext w w'):CE base e w' v l:=BI.ext h x fun _ _ q=>q.kd x.kd
theorem CE.upd{base:Nat}{e:TypeId}{w w':World}{v:Value}{l:List Int}{G:List Nat}(h:CE base e w v l)(U:Cs G w w')(hg:∀ g∈G,g < base):CE base e w' v l:=
 BI.upd h U (fun g hb hG=>by have:=hg g hG;have:=(BI.blk_ge h g hb).1;omega) fun _ _ q=>q.kd U.kd
theorem CE.row{base:Nat}{e:TypeId}{w:World}{v:Value}{l:List Int}(h:CE base e w v l):LG base w v l:=BI.row h
theorem CE.from_{base:Nat}{e:TypeId}{a w w':World}{v:Value}{l:List Int}(h:CE base e w v l)(U:Cs (blk v) w w')(x:Ext a w)(hb:a.heap.size≤base):Ext a w':=
 U.from_ x fun g hg=>Nat.le_trans hb (BI.blk_ge h g hg).1
theorem CE.box{base:Nat}{e t:TypeId}{w w':World}{v:Value}{l:List Int}{g:Nat}{cs:Array Value}(h:CE base e w v l)(U:Cs (blk v) w w')(b:Bj w g t cs)(hb:g < base):Bj w' g t cs:=
 b.upd U fun hg=>by have:=(BI.blk_ge h g hg).1;omega
theorem Es.own{w:World}{v:Value}{base:Nat}{q:Int}{t:TypeId}(h:Es w v base q t):CE base t w v [q]:=by
 obtain⟨g,cs,rfl,h1,h2,h3,h4⟩:=h;refine⟨[cs],rfl,fun c hc=>by simp at hc;subst hc;exact h3,⟨by simp[h3],.inr ⟨g,1,cs,rfl,h1,h2,Nat.le_refl _,Ab,by simp[h3],?_⟩⟩,fun j hj hj'=>?_⟩
 ·simp[List.take_of_length_le,h3]
 ·have:j=0:=by simpa using hj
  subst this;exact h4
/-! ### polynomials -/
def zq(l:List Int):List Rat:=l.map fun(n:Int)=>(n:Rat)
theorem Ei(l:List Int):(zq l).length=l.length:=by simp[zq]
theorem ND{l:List Int}{i:Nat}(h:i < l.length):(zq l)[i]'(by rw[Ei];exact h)=(l[i]:Rat):=by simp[zq]
theorem YZ(l:List Int)(n:Nat):zq (l.take n)=(zq l).take n:=by simp[zq]
theorem Ia{a b:Int}(h:(a:Rat)=(b:Rat)):a=b:=by simpa using congrArg Rat.num h
def cz(l:List Int):Nat→Rat:=co (zq l)
theorem Ch{l:List Int}{i:Nat}(h:i < l.length):cz l i=(l[i]:Rat):=by unfold cz;rw[DW (by rw[Ei];exact h),ND h]
theorem Iw{l:List Int}{i:Nat}(h:l.length≤i):cz l i=0:=QO (by rw[Ei];exact h)
theorem BK(l:List Int):BB l.length (cz l):=fun _ h=>Iw h
theorem Af.cz(l:List Int):Af (cz l):=⟨_,BK l⟩
theorem Bi(n:Int):qsz (n:Rat)=max (sz n.natAbs) 1:=by unfold qsz;simp;rfl
theorem OX{l:List Int}{s:Nat}(h:∀ x∈l,sz x.natAbs≤s)(hs:1≤s)(i:Nat):qsz (cz l i)≤s:=by
 rcases Nat.lt_or_ge i l.length with hi | hi
 ·rw[Ch hi,Bi];have:=h _ (List.getElem_mem hi);omega
 ·rw[Iw hi];exact hs
def ZI(F:Nat→Rat):Prop:=∀ i,∃ n:Int,F i=(n:Rat)
theorem ZI.cz(l:List Int):ZI (cz l):=fun i=>by
 rcases Nat.lt_or_ge i l.length with hi | hi
 ·exact⟨_,Ch hi⟩
 ·exact⟨0,by rw[Iw hi];rfl⟩
theorem ZI.num{F:Nat→Rat}(h:ZI F)(i:Nat):F i=((F i).num:Rat):=by obtain⟨n,e⟩:=h i;rw[e];rfl
def Dq(n:Nat)(F:Nat→Rat):List Int:=(List.range n).map fun i=>(F i).num
theorem AY(n:Nat)(F:Nat→Rat):(Dq n F).length=n:=by simp[Dq]
theorem EC{n:Nat}{F:Nat→Rat}(h:ZI F)(hs:BB n F):cz (Dq n F)=F:=by
 funext i
 rcases Nat.lt_or_ge i n with hi | hi
 ·rw[Ch (by rw[AY];exact hi)];simp only[Dq,List.getElem_map,List.getElem_range];exact(h.num i).symm
 ·rw[Iw (by rw[AY];exact hi),hs i hi]
def Qs(l:List Int):List Int:=l.take (BU (zq l)).length
theorem Np(l:List Int):zq (Qs l)=BU (zq l):=by unfold Qs;rw[YZ];exact(Fs _).symm
theorem Oq(l:List Int):(Qs l).length=(BU (zq l)).length:=by rw[←Ei,Np]
theorem WI(l:List Int):(BU (zq l)).length≤l.length:=by have:=Og (zq l);rw[Ei]at this;exact this
def AP(base:Nat)(w:World)(v:Value)(F:Nat→Rat):Prop:=∃ l,LG base w v l∧Il (zq l)∧cz l=F
theorem AP.ext{base:Nat}{w w':World}{v:Value}{F:Nat→Rat}(h:AP base w v F)(e:Ext w w'):AP base w' v F:=by
 obtain⟨l,h1,h2,h3⟩:=h;exact⟨l,h1.ext e,h2,h3⟩
theorem AP.base_le{base b:Nat}{w:World}{v:Value}{F:Nat→Rat}(h:AP base w v F)(hb:b≤base):AP b w v F:=by
 obtain⟨l,h1,h2,h3⟩:=h;exact⟨l,CZ.base_le h1 hb,h2,h3⟩
theorem AP.fin{base:Nat}{w:World}{v:Value}{F:Nat→Rat}(h:AP base w v F):Af F:=by
 obtain⟨l,_,_,rfl⟩:=h;exact Af.cz l
theorem AP.form{base:Nat}{w:World}{v:Value}{F:Nat→Rat}(h:AP base w v F):∃ A c l,v = .slice A (pl F) c∧pl F≤c∧c≤9223372036854775807∧LU base w A l∧l.length=pl F∧Il (zq l)∧cz l=F:=by
 obtain⟨l,⟨A,c,h1,h2,h3,h4⟩,h5,rfl⟩:=h;have:=h5.pl;rw[Ei]at this;exact⟨A,c,l,by unfold cz;rw[this];exact h1,by unfold cz;omega,h3,h4,this.symm,h5,rfl⟩
theorem AP.shape{base:Nat}{w:World}{v:Value}{F:Nat→Rat}(h:AP base w v F):∃ A c,v = .slice A (pl F) c∧pl F≤c∧c≤9223372036854775807:=by
 obtain⟨A,c,l,h1,h2,h3,_⟩:=h.form;exact⟨A,c,h1,h2,h3⟩
theorem AP.zs{base:Nat}{w:World}{v:Value}{F:Nat→Rat}(h:AP base w v F):∃ l,LG base w v l∧l.length=pl F∧Il (zq l)∧cz l=F:=by
 obtain⟨l,h1,h5,rfl⟩:=h;exact⟨l,h1,by have:=h5.pl;rw[Ei]at this;exact this.symm,h5,rfl⟩
theorem AP.hz{base:Nat}{w:World}{v:Value}{F:Nat→Rat}(h:AP base w v F)(hs:∀ i,qsz (F i)≤1099511627776):∃ l,Dt 0 w v l∧l.length=pl F∧Il (zq l)∧cz l=F:=by
 obtain⟨l,h1,h2,h3,rfl⟩:=h.zs;exact⟨l,h1.has (fun q hq=>by
  obtain⟨i,hi,rfl⟩:=List.getElem_of_mem hq;have:=hs i;rw[Ch hi,Bi]at this;omega),h2,h3,rfl⟩
theorem AP.of_trim{base:Nat}{w:World}{v:Value}{l:List Int}{F:Nat→Rat}(h:LG base w v (Qs l))(e:cz l=F):AP base w v F:=
 ⟨_,h,by rw[Np];exact Fv _,by unfold cz;rw[Np,Gw];exact e⟩
theorem AP.nil(base:Nat)(w:World):AP base w (.slice none 0 0) pz:=⟨[],CZ.nil 2 AO base w,fun h=>absurd h (by simp[zq]),P9⟩
theorem AP.empty(base:Nat)(w:World)(A:Option Addr)(c:Nat)(hc:c≤9223372036854775807):AP base w (.slice A 0 c) pz:=
 ⟨[],⟨A,c,rfl,Nat.zero_le _,hc,fun h=>absurd h Ac⟩,fun h=>absurd h (by simp[zq]),P9⟩
def Bg(w:World)(g:Nat)(t:TypeId)(x:Int):Prop:=∃ b A n c,Bj w g t #[.bool b,.slice A n c]∧AO w (.agg #[.bool b,.slice A n c]) x
theorem Bg.ext{w w':World}{g:Nat}{t:TypeId}{x:Int}(h:Bg w g t x)(e:Ext w w'):Bg w' g t x:=by
 obtain⟨b,A,n,c,h1,h2⟩:=h;exact⟨b,A,n,c,h1.ext e,h2.kd e.kd⟩
theorem Bg.lt{w:World}{g:Nat}{t:TypeId}{x:Int}(h:Bg w g t x):g < w.heap.size:=by obtain⟨b,A,n,c,h1,h2⟩:=h;exact h1.lt
theorem Bg.upd{w w':World}{g:Nat}{t:TypeId}{x:Int}{G:List Nat}(h:Bg w g t x)(U:Cs G w w')(hg:g∉G):Bg w' g t x:=by
 obtain⟨b,A,n,c,h1,h2⟩:=h;exact⟨b,A,n,c,h1.upd U hg,h2.kd U.kd⟩
theorem Bg.mk{w:World}{g:Nat}{t:TypeId}{x:Int}{b:Bool}{A:Option Addr}{n c:Nat}(h:Bj w g t #[.bool b,.slice A n c])(k:AO w (.agg #[.bool b,.slice A n c]) x):Bg w g t x:=⟨b,A,n,c,h,k⟩
theorem Bg.zero{w:World}{g:Nat}{t:TypeId}(h:Bj w g t #[.bool false,.slice none 0 0]):Bg w g t 0:=⟨_,_,_,_,h,KN w⟩
def ct:Nat→(Nat→Rat)→Nat
 | 0,_=>0
 | n+1,F=>Int.gcd (ct n F) (F n).num
theorem Gd(n:Nat)(F:Nat→Rat):ct (n+1) F=Int.gcd (ct n F) (F n).num:=rfl
theorem XG(F:Nat→Rat):∀ n i,i < n→(ct n F:Int)∣(F i).num
 | n+1,i,h=>by
  rw[Gd];rcases Nat.lt_or_ge i n with l | l
  ·exact Int.dvd_trans (Int.gcd_dvd_left _ _) (XG F n i l)
  ·obtain rfl:i=n:=by omega
   exact Int.gcd_dvd_right _ _
theorem WJ{F:Nat→Rat}{d:Int}:∀ {n:Nat},(∀ i,i < n→d∣(F i).num)→d∣(ct n F:Int)
 | 0,_=>⟨0,by show((0:Nat):Int)=_;simp⟩
 | n+1,h=>by rw[Gd];exact Int.dvd_coe_gcd (WJ fun i hi=>h i Aa) (h n Aa)
theorem dH{F:Nat→Rat}{n m:Nat}(h:BB n F)(k:n≤m):ct m F=ct n F:=by
 induction m with
 | zero =>
  obtain rfl:n=0:=by omega
  rfl
 | succ m ih =>
  rcases Nat.eq_or_lt_of_le k with e | e
  ·rw[e]
  ·rw[Gd,h m Aa,ih Aa];simp
noncomputable def cn(F:Nat→Rat):Nat:=ct (pl F) F
theorem ZV{F:Nat→Rat}{n:Nat}(h:BB n F):cn F=ct n F:=(dH (AU ⟨n,h⟩) (Bq h)).symm
theorem J2{F:Nat→Rat}(h:Af F)(i:Nat):(cn F:Int)∣(F i).num:=by
 rcases Nat.lt_or_ge i (pl F)with l | l
 ·exact XG F _ i l
 ·rw[AU h i l];exact⟨0,Ac⟩
theorem WQ{F:Nat→Rat}{d:Int}(h:∀ i,d∣(F i).num):d∣(cn F:Int):=WJ fun i _=>h i
theorem Nk:cn pz=0:=by unfold cn;rw[Ca];rfl
theorem IW{F:Nat→Rat}(hz:ZI F)(h:Af F)(h0:F≠pz):cn F≠0:=fun e=>h0 (by
 funext i
 have:=J2 h i;rw[e]at this;have h1:(F i).num=0:=by simpa using this
 rw[hz.num i,h1];rfl)
theorem FV{F:Nat→Rat}{s:Nat}(h:∀ i,qsz (F i)≤s)(n:Nat):sz (ct n F)≤s:=by
 induction n with
 | zero=>show sz 0≤s;rw[UE];exact Nat.zero_le _
 | succ n ih =>
  rw[Gd];by_cases h0:ct n F=0
  ·rw[h0]
   have:=h n;unfold qsz at this;have e:Int.gcd ((0:Nat):Int) (F n).num=(F n).num.natAbs:=by simp
   rw[e];omega
  ·refine Nat.le_trans (Bp ?_) ih
   exact Nat.le_of_dvd Aa (by have:=Int.gcd_dvd_left (ct n F:Int) (F n).num;exact Int.natCast_dvd_natCast.1 this)
noncomputable def pcn(F:Nat→Rat):Int:=if ld F < 0 then -(cn F:Int)else cn F
theorem Ji{F:Nat→Rat}(h:Af F)(i:Nat):pcn F∣(F i).num:=by
 unfold pcn;split
 ·exact Int.neg_dvd.2 (J2 h i)
 ·exact J2 h i
theorem Fj(F:Nat→Rat):(pcn F).natAbs=cn F:=by unfold pcn;split<;>simp
theorem EI{F:Nat→Rat}(hz:ZI F)(h:Af F)(h0:F≠pz):pcn F≠0:=fun e=>IW hz h h0 (by rw[←Fj,e];rfl)
noncomputable def pp(F:Nat→Rat):Nat→Rat:=psc (1 / (pcn F:Rat)) F
theorem GH:pp pz=pz:=FU _
theorem OB{F:Nat→Rat}(hz:ZI F)(h:Af F)(h0:F≠pz)(i:Nat):pp F i=(((F i).num / pcn F:Int):Rat):=by
 obtain⟨k,hk⟩:=Ji h i;have hp:=EI hz h h0;have hp':(pcn F:Rat)≠0:=fun e=>hp (by exact_mod_cast e);rw[hk,Int.mul_ediv_cancel_left _ hp];show 1 / (pcn F:Rat)*F i=_;rw[hz.num i,hk,Rat.intCast_mul];grind
theorem Iu{F:Nat→Rat}(hz:ZI F)(h:Af F):ZI (pp F):=by
 by_cases h0:F=pz
 ·rw[h0,GH];intro i;exact⟨0,rfl⟩
 ·intro i;exact⟨_,OB hz h h0 i⟩
theorem DI{F:Nat→Rat}(h:Af F):Af (pp F):=h.psc _
theorem EE{F:Nat→Rat}(hz:ZI F)(h:Af F):pl (pp F)=pl F:=by
 by_cases h0:F=pz
 ·rw[h0,GH]
 ·have hp':(pcn F:Rat)≠0:=fun e=>EI hz h h0 (by exact_mod_cast e)
  exact DX (Mv hp') h
theorem Yb{F:Nat→Rat}(hz:ZI F)(h:Af F)(h0:F≠pz):pp F≠pz:=fun e=>h0 ((BG h).1 (by rw[←EE hz h,e,Ca]))
theorem O6{F:Nat→Rat}(hz:ZI F)(h:Af F)(h0:F≠pz):F=psc (pcn F:Rat) (pp F):=by
 have hp':(pcn F:Rat)≠0:=fun e=>EI hz h h0 (by exact_mod_cast e);unfold pp;rw[Cu,show(pcn F:Rat)*(1 / (pcn F:Rat))=1 from Au,Cn]
theorem Kv{x y:Int}(hy:y∣x):sz (x / y).natAbs≤sz x.natAbs:=by
 obtain⟨k,rfl⟩:=hy;by_cases h:y=0
 ·subst h;simp
 ·rw[Int.mul_ediv_cancel_left _ h,Int.natAbs_mul]
  exact Bp (Nat.le_mul_of_pos_left _ Aa)
theorem Fb{F:Nat→Rat}(hz:ZI F)(h:Af F){s:Nat}(hs:∀ i,qsz (F i)≤s)(i:Nat):qsz (pp F i)≤s:=by
 by_cases h0:F=pz
 ·rw[h0,GH];have:=hs 0;rw[h0]at this;exact this
 ·rw[OB hz h h0,Bi]
  have h1:=Kv (Ji h i);have h2:=hs i;have h3:=G8 (F i);unfold qsz at h2 h3;have:sz 1=1:=by decide
  have:1≤s:=by have:=hs i;have:=G8 (F i);omega
  omega
theorem Cf{n i:Nat}(F:Nat→Rat)(h:i < (Dq n F).length):(Dq n F)[i]=(F i).num:=by simp[Dq]
def sg(i:Nat):Rat:=if i % 2=0 then 1 else -1
theorem Iq:sg 0=1:=rfl
theorem Kq(i:Nat):sg (i+1) = - sg i:=by
 unfold sg;rcases Nat.mod_two_eq_zero_or_one i with h | h
 ·rw[if_neg Aa,if_pos h]
 ·rw[if_pos Aa,if_neg Aa];rfl
theorem Tc(i j:Nat):sg (i+j)=sg i*sg j:=by
 induction j with
 | zero=>rw[Nat.add_zero,Iq];grind
 | succ j ih=>rw[←Nat.add_assoc,Kq,Kq,ih];grind
theorem Ug(i:Nat):sg i*sg i=1:=by
 induction i with
 | zero=>rw[Iq];grind
 | succ i ih=>rw[Kq];grind
def sk(i k:Nat):Nat:=if k < i then k else k+1
theorem iD(i k:Nat):sk i k≠i:=by unfold sk;split<;>omega
theorem iX{i k n:Nat}(h:k < n):sk i k < n+1:=by unfold sk;split<;>omega
def Dh(i:Nat)(A:Nat→Nat→Rat):Nat→Nat→Rat:=fun r c=>A (sk i r) (c+1)
def Kh:Nat→(Nat→Nat→Rat)→Rat
 | 0,_=>1
 | n+1,A=>sm (n+1) fun i=>sg i*A i 0*Kh n (Dh i A)
theorem F8(n:Nat)(A:Nat→Nat→Rat):Kh (n+1) A=sm (n+1) fun i=>sg i*A i 0*Kh n (Dh i A):=by rw[Kh]
theorem CS:∀ {n:Nat} {A B:Nat→Nat→Rat},(∀ i j,i < n→j < n→A i j=B i j)→Kh n A=Kh n B
 | 0,_,_,_=>rfl
 | n+1,A,B,h=>by
  rw[F8,F8];refine CJ fun i hi=>?_;rw[h i 0 hi Aa,CS (n:=n) (A:=Dh i A) (B:=Dh i B) fun r c hr hc=>h _ _ (iX hr) Aa]
def ED(A:Nat→Nat→Rat)(i:Nat)(v:Nat→Rat):Nat→Nat→Rat:=fun r c=>if r=i then v c else A r c
theorem Kr(A:Nat→Nat→Rat)(i:Nat):ED A i (A i)=A:=by
 funext r c;unfold ED;split
 ·rename_i h;rw[h]
 ·rfl
theorem Gr(A:Nat→Nat→Rat)(i:Nat)(v:Nat→Rat):Dh i (ED A i v)=Dh i A:=by
 funext r c;unfold Dh ED;rw[if_neg (iD i r)]
theorem FJ(A:Nat→Nat→Rat){i k:Nat}(h:i≠k)(v:Nat→Rat):Dh k (ED A i v)=ED (Dh k A) (if i < k then i else i - 1) (fun c=>v (c+1)):=by
 funext r c
 unfold Dh ED;have:sk k r=i↔r=(if i < k then i else i - 1):=by unfold sk;split<;>split<;>omega
 by_cases e:sk k r=i
 ·rw[if_pos e,if_pos (this.1 e)]
 ·rw[if_neg e,if_neg (fun q=>e (this.2 q))]
theorem Po:∀ {n:Nat} (A:Nat→Nat→Rat) {i:Nat},i < n→∀(a b:Rat) (u v:Nat→Rat),Kh n (ED A i fun c=>a*u c+b*v c)=a*Kh n (ED A i u)+b*Kh n (ED A i v)
 | 0,_,_,h,_,_,_,_=>absurd h Aa
 | n+1,A,i,h,a,b,u,v=>by
  rw[F8,F8,F8,←Sq,←Sq,←dA];refine CJ fun k hk=>?_;by_cases e:i=k
  ·subst e
   rw[Gr,Gr,Gr];simp only[ED,if_pos];grind
  ·rw[FJ A e,FJ A e,FJ A e]
   have:=Po (n:=n) (Dh k A) (i:=if i < k then i else i - 1) (by split<;>omega) a b (fun c=>u (c+1)) (fun c=>v (c+1));rw[this];simp only[ED,if_neg (Ne.symm e)];grind
def sw(i:Nat)(A:Nat→Nat→Rat):Nat→Nat→Rat:=fun r=>A (if r=i then i+1 else if r=i+1 then i else r)
theorem Ut{f g:Nat→Rat}{i:Nat}(h1:f i = - g (i+1))(h2:f (i+1) = - g i):∀ {n:Nat},i+1 < n→(∀ k,k < n→k≠i→k≠i+1→f k = - g k)→sm n f = - sm n g
 | 0,h,_=>absurd h Aa
 | n+1,h,k=>by
  by_cases e:i+1=n
  ·subst e
   have:sm i f=sm i (fun k=>(-1)*g k):=CJ fun j hj=>by rw[k j Aa Aa Aa];grind
   rw[BF,BF,BF,BF,this,Sq,h1,h2];grind
  ·rw[BF,BF,Ut h1 h2 (n:=n) Aa fun j hj=>k j Aa,k n Aa Aa Aa];grind
theorem Tf:∀ {n:Nat} (A:Nat→Nat→Rat) {i:Nat},i+1 < n→Kh n (sw i A) = - Kh n A
 | 0,_,_,h=>absurd h Aa
 | n+1,A,i,h=>by
  rw[F8,F8];refine Ut (i:=i) ?_ ?_ h fun k hk h1 h2=>?_
  ·have:Dh i (sw i A)=Dh (i+1) A:=by
    funext r c;unfold Dh sw sk
    refine congrArg (fun x=>A x (c+1)) ?_
    repeat' split
    all_goals omega
   rw[this,Kq];have:sw i A i 0=A (i+1) 0:=by unfold sw;rw[if_pos rfl]
   rw[this];grind
  ·have:Dh (i+1) (sw i A)=Dh i A:=by
    funext r c;unfold Dh sw sk
    refine congrArg (fun x=>A x (c+1)) ?_
    repeat' split
    all_goals omega
   rw[this,Kq];have:sw i A (i+1) 0=A i 0:=by unfold sw;rw[if_neg Aa,if_pos rfl]
   rw[this];grind
  ·have e:Dh k (sw i A)=sw (if i < k then i else i - 1) (Dh k A):=by
    funext r c;unfold Dh sw sk
    refine congrArg (fun x=>A x (c+1)) ?_
    repeat' split
    all_goals omega
   rw[e,Tf (n:=n) (Dh k A) (i:=if i < k then i else i - 1) (by split<;>omega)];have:sw i A k 0=A k 0:=by unfold sw;rw[if_neg h1,if_neg h2]
   rw[this];grind
theorem MG:∀(d:Nat) {n:Nat} (A:Nat→Nat→Rat) {i:Nat},i+d+1 < n→A i=A (i+d+1)→Kh n A=0
 | 0,n,A,i,h,e=>by
  have:sw i A=A:=by
   funext r;unfold sw
   by_cases a:r=i
   ·subst a;rw[if_pos rfl];exact e.symm
   ·rw[if_neg a]
    by_cases b:r=i+1
    ·subst b;rw[if_pos rfl];exact e
    ·rw[if_neg b]
  have h2:=Tf A (i:=i) (by omega:i+1 < n);rw[this]at h2;grind
 | d+1,n,A,i,h,e=>by
  have h2:=Tf A (i:=i+d+1) (by omega:i+d+1+1 < n);have h3:=MG d (n:=n) (sw (i+d+1) A) (i:=i) Aa (by
   unfold sw;rw[if_neg Aa,if_neg Aa,if_pos rfl];exact e)
  grind
theorem Vh{n i j:Nat}{A:Nat→Nat→Rat}(hi:i < n)(hj:j < n)(h:i≠j)(e:A i=A j):Kh n A=0:=by
 rcases Nat.lt_or_gt_of_ne h with h | h
 ·exact MG (j - i - 1) A (i:=i) Aa (by rw[show i+(j - i - 1)+1=j from by omega];exact e)
 ·exact MG (i - j - 1) A (i:=j) Aa (by rw[show j+(i - j - 1)+1=i from by omega];exact e.symm)
theorem Zw{n i j:Nat}(A:Nat→Nat→Rat)(hi:i < n)(hj:j < n)(h:i≠j)(t:Rat):Kh n (ED A i fun c=>A i c+t*A j c)=Kh n A:=by
 have h1:=Po A hi 1 t (A i) (A j);rw[Kr,Vh (A:=ED A i (A j)) hi hj h (by funext c;simp only[ED,if_pos];rw[if_neg (Ne.symm h)])]at h1;rw[show(fun c=>A i c+t*A j c)=fun c=>1*A i c+t*A j c from by funext c;grind,h1];grind
theorem gU(A:Nat→Nat→Rat)(i:Nat)(u v:Nat→Rat):ED (ED A i u) i v=ED A i v:=by funext r c;unfold ED;split<;>rfl
theorem Q7{n i:Nat}(A:Nat→Nat→Rat)(hi:i < n)(t:Nat→Rat)(p:Nat→Nat):∀ k,(∀ j,j < k→p j < n∧p j≠i)→Kh n (ED A i fun c=>A i c+sm k fun j=>t j*A (p j) c)=Kh n A
 | 0,_=>by
  rw[show(fun c=>A i c+sm 0 fun j=>t j*A (p j) c)=A i from by funext c;rw[EY];grind,Kr]
 | k+1,h=>by
  have h1:=Q7 A hi t p k fun j hj=>h j Aa;obtain⟨h2,h3⟩:=h k Aa;have h4:=Zw (ED A i fun c=>A i c+sm k fun j=>t j*A (p j) c) hi h2 (Ne.symm h3) (t k);rw[h1,gU]at h4;rw[←h4];congr 2;funext c
  simp only[ED,if_pos,if_neg h3,BF];grind
theorem QG{n:Nat}(A:Nat→Nat→Rat)(P:Nat→Bool)(k:Nat→Nat)(t:Nat→Nat→Rat)(p:Nat→Nat→Nat)(h:∀ i j,i < n→P i=true→j < k i→p i j < n∧P (p i j)=false) :
  Kh n (fun r c=>if P r then A r c+sm (k r) (fun j=>t r j*A (p r j) c)else A r c)=Kh n A:=by
 have key:∀ s,s≤n→Kh n (fun r c=>if P r&&decide (r < s)then A r c+sm (k r) (fun j=>t r j*A (p r j) c)else A r c)=Kh n A:=by
  intro s;induction s with
  | zero=>intro _;refine CS fun i j _ _=>?_;rw[if_neg Ac]
  | succ s ih =>
   intro hs;have h1:=ih Aa;cases hP:P s with
   | false =>
    rw[←h1];refine CS fun i j _ _=>?_;by_cases e:i=s
    ·subst e;rw[if_neg (by simp[hP]),if_neg (by simp[hP])]
    ·have:decide (i < s+1)=decide (i < s):=by simp;omega
     rw[this]
   | true =>
    obtain⟨B,hB⟩:∃ B:Nat→Nat→Rat,B=fun r c=>if P r&&decide (r < s)then A r c+sm (k r) (fun j=>t r j*A (p r j) c)else A r c:=⟨_,rfl⟩
    rw[←hB]at h1;have hs0:B s=A s:=by funext c;rw[hB];show(if _ then _ else _)=_;rw[if_neg Ac]
    have hp:∀ j,j < k s→B (p s j)=A (p s j):=fun j hj=>by
     obtain⟨_,h3⟩:=h s j Aa hP hj
     funext c;rw[hB];show(if _ then _ else _)=_;rw[if_neg (by simp[h3])]
    have h2:=Q7 B (i:=s) (by omega:s < n) (t s) (p s) (k s) fun j hj=>by
     obtain⟨h2,h3⟩:=h s j Aa hP hj;exact⟨h2,fun e=>by rw[e,hP]at h3;cases h3⟩
    rw[←h1,←h2];refine CS fun i c _ _=>?_;unfold ED;by_cases e:i=s
    ·subst e
     rw[if_pos (by simp[hP]),if_pos rfl,hs0];congr 1;exact CJ fun j hj=>by rw[hp j hj]
    ·have:decide (i < s+1)=decide (i < s):=by simp;omega
     rw[this,if_neg e,hB]
 rw[←key n (Nat.le_refl n)];refine CS fun i j hi _=>?_;rw[show decide (i < n)=true from by simpa using hi,Bool.and_true]
theorem Ow{n:Nat}(A:Nat→Nat→Rat)(a:Rat):∀ s,s≤n→Kh n (fun r c=>if r < s then a*A r c else A r c)=a^s*Kh n A
 | 0,_=>by
  rw[show(fun r c=>if r < 0 then a*A r c else A r c)=A from by funext r c;rw[if_neg Aa]];rw[Rat.pow_zero];grind
 | s+1,h=>by
  obtain⟨B,hB⟩:∃ B:Nat→Nat→Rat,B=fun r c=>if r < s then a*A r c else A r c:=⟨_,rfl⟩
  have h1:=Ow (n:=n) A a s Aa;rw[←hB]at h1;have h2:=Po B (i:=s) (by omega:s < n) a 0 (B s) (B s);rw[Kr,h1]at h2;rw[Rat.pow_succ];rw[show Kh n (fun r c=>if r < s+1 then a*A r c else A r c)=Kh n (ED B s fun c=>a*B s c+0*B s c)from ?_,h2]
  ·grind
  ·refine CS fun i c _ _=>?_
   unfold ED;by_cases e:i=s
   ·subst e;rw[if_pos Aa,if_pos rfl,hB];simp only;rw[if_neg Aa];grind
   ·rw[if_neg e,hB];simp only
    by_cases e2:i < s
    ·rw[if_pos e2,if_pos Aa]
    ·rw[if_neg e2,if_neg Aa]
theorem WL{n k:Nat}{f:Nat→Rat}(hk:k < n)(h:∀ i,i < n→i≠k→f i=0):sm n f=f k:=by
 induction n with
 | zero=>omega
 | succ n ih =>
  rw[BF];by_cases e:k=n
  ·subst e
   have:sm k f=sm k (fun _=>0):=CJ fun j hj=>h j Aa Aa;rw[this,Nt];grind
  ·rw[ih Aa fun i hi=>h i Aa,h n Aa (fun q=>e q.symm)];grind
theorem OQ{n k:Nat}{A:Nat→Nat→Rat}(hk:k < n+1)(h:∀ i,i < n+1→i≠k→A i 0=0):Kh (n+1) A=sg k*A k 0*Kh n (Dh k A):=by
 rw[F8,WL (f:=fun i=>sg i*A i 0*Kh n (Dh i A)) hk fun i hi e=>by rw[h i hi e];grind]
def OJ(m:Nat)(F:Nat→Rat)(n:Nat)(G:Nat→Rat):Nat→Nat→Rat:=fun r c=>if r < n then(if c≤m+r then F (m+r - c)else 0)else(if c≤r then G (r - c)else 0)
def GV(m:Nat)(F:Nat→Rat)(n:Nat)(G:Nat→Rat):Rat:=Kh (m+n) (OJ m F n G)
theorem gY(r:Nat):sk 0 r=r+1:=by unfold sk;rw[if_neg Aa]
theorem Sc{m n:Nat}{F G:Nat→Rat}(hF:BB (m+1) F)(hG:BB (n+1) G):GV (m+1) F n G=sg n*G n*GV m F n G:=by
 unfold GV;rw[show m+1+n=m+n+1 from Aa,OQ (k:=n) Aa]
 ·congr 1
  ·congr 1
   show(if n < n then _ else _)=_;rw[if_neg Aa,if_pos Aa];rfl
  ·refine CS fun r c hr hc=>?_
   unfold Dh OJ sk;by_cases h:r < n
   ·rw[if_pos h,if_pos h,if_pos h]
    by_cases h2:c≤m+r
    ·rw[if_pos h2,if_pos Aa];congr 1;omega
    ·rw[if_neg h2,if_neg Aa]
   ·rw[if_neg h,if_neg Aa,if_neg h]
    by_cases h2:c≤r
    ·rw[if_pos h2,if_pos Aa];congr 1;omega
    ·rw[if_neg h2,if_neg Aa]
 ·intro i hi hne
  unfold OJ;by_cases h:i < n
  ·rw[if_pos h,if_pos Aa];exact hF _ Aa
  ·rw[if_neg h,if_pos Aa];exact hG _ Aa
theorem Sl{m n:Nat}{F G:Nat→Rat}(hF:BB (m+1) F)(hG:m=0∨BB (n+1) G):GV m F (n+1) G=F m*GV m F n G:=by
 unfold GV;rw[show m+(n+1)=m+n+1 from Aa,OQ (k:=0) Aa]
 ·rw[Iq,show OJ m F (n+1) G 0 0=F m from by unfold OJ;rw[if_pos Aa,if_pos Aa];rfl]
  rw[show(1:Rat)*F m=F m from by grind];congr 1;refine CS fun r c hr hc=>?_;unfold Dh;rw[gY];unfold OJ;by_cases h:r < n
  ·rw[if_pos Aa,if_pos h]
   by_cases h2:c≤m+r
   ·rw[if_pos h2,if_pos Aa];congr 1;omega
   ·rw[if_neg h2,if_neg Aa]
  ·rw[if_neg Aa,if_neg h]
   by_cases h2:c≤r
   ·rw[if_pos h2,if_pos Aa];congr 1;omega
   ·rw[if_neg h2,if_neg Aa]
 ·intro i hi hne
  unfold OJ;by_cases h:i < n+1
  ·rw[if_pos h,if_pos Aa];exact hF _ Aa
  ·rw[if_neg h,if_pos Aa]
   rcases hG with rfl | hG
   ·omega
   ·exact hG _ Aa
theorem PH{f:Nat→Rat}{a:Nat}(h:∀ i,a≤i→f i=0):∀ {b},a≤b→sm b f=sm a f:=by
 intro b hb;obtain⟨k,rfl⟩:∃ k,b=a+k:=⟨b - a,Aa⟩
 clear hb;induction k with
 | zero=>rfl
 | succ k ih=>rw[←Nat.add_assoc,BF,ih,h _ Aa];grind
theorem Xw{Q G:Nat→Rat}{k:Nat}(h:BB k Q)(d:Nat):cv Q G d=sm k fun j=>Q j*if j≤d then G (d - j)else 0:=by
 obtain⟨f,hf⟩:∃ f:Nat→Rat,f=fun j=>Q j*if j≤d then G (d - j)else 0:=⟨_,rfl⟩
 rw[←hf];have h1:cv Q G d=sm (d+1) f:=by
  rw[R7];refine CJ fun i hi=>?_;rw[hf];simp only;rw[if_pos Aa]
 have h2:sm (max k (d+1)) f=sm k f:=PH (fun i hi=>by rw[hf];simp only;rw[h i hi];grind) Aa;have h3:sm (max k (d+1)) f=sm (d+1) f:=PH (fun i hi=>by rw[hf];simp only;rw[if_neg Aa];grind) Aa;rw[h1,←h3,h2]
theorem PO{m n:Nat}{F G Q:Nat→Rat}(h:n≤m)(hQ:BB (m - n+1) Q):GV m (pad F (cv Q G)) n G=GV m F n G:=by
 unfold GV;rw[←QG (OJ m F n G) (fun r=>decide (r < n)) (fun _=>m - n+1) (fun _ j=>Q j) (fun r j=>m+r - j) fun i j hi hp hj=>by
  simp only[decide_eq_true_eq]at hp;exact⟨Aa,D7⟩]
 refine CS fun r c hr hc=>?_;by_cases h1:r < n
 ·rw[if_pos (by simpa using h1)]
  unfold OJ;rw[if_pos h1,if_pos h1];by_cases h2:c≤m+r
  ·rw[if_pos h2,if_pos h2]
   show F _+cv Q G _=_;rw[Xw hQ];congr 1;refine CJ fun j hj=>?_;rw[if_neg (show ¬ m+r - j < n by omega)];by_cases h3:j≤m+r - c
   ·rw[if_pos h3,if_pos Aa];congr 2;omega
   ·rw[if_neg h3,if_neg Aa]
  ·rw[if_neg h2,if_neg h2]
   have:sm (m - n+1) (fun j=>Q j*if m+r - j < n then(if c≤m+(m+r - j)then F (m+(m+r - j) - c)else 0)else if c≤m+r - j then G (m+r - j - c)else 0)=sm (m - n+1) (fun _=>0):=CJ fun j hj=>by
    rw[if_neg Aa,if_neg Aa];grind
   rw[this,Nt];grind
 ·rw[if_neg (by simpa using h1)]
  unfold OJ;rw[if_neg h1,if_neg h1]
theorem Qu{m n:Nat}{F G Q:Nat→Rat}(h:m≤n)(hQ:BB (n - m+1) Q):GV m F n (pad G (cv Q F))=GV m F n G:=by
 unfold GV;rw[←QG (OJ m F n G) (fun r=>decide (n≤r)) (fun _=>n - m+1) (fun _ j=>Q j) (fun r j=>r - j - m) fun i j hi hp hj=>by
  simp only[decide_eq_true_eq]at hp;exact⟨Aa,D7⟩]
 refine CS fun r c hr hc=>?_;by_cases h1:r < n
 ·rw[if_neg D7]
  unfold OJ;rw[if_pos h1,if_pos h1]
 ·rw[if_pos D7]
  unfold OJ;rw[if_neg h1,if_neg h1];by_cases h2:c≤r
  ·rw[if_pos h2,if_pos h2]
   show G _+cv Q F _=_;rw[Xw hQ];congr 1;refine CJ fun j hj=>?_;rw[if_pos (show r - j - m < n by omega)];by_cases h3:j≤r - c
   ·rw[if_pos h3,if_pos Aa];congr 2;omega
   ·rw[if_neg h3,if_neg Aa]
  ·rw[if_neg h2,if_neg h2]
   have:sm (n - m+1) (fun j=>Q j*if r - j - m < n then(if c≤m+(r - j - m)then F (m+(r - j - m) - c)else 0)else if c≤r - j - m then G (r - j - m - c)else 0)=sm (n - m+1) (fun _=>0):=CJ fun j hj=>by
    rw[if_pos Aa,if_neg Aa];grind
   rw[this,Nt];grind
theorem RX{F:Nat→Rat}(hF:BB 1 F)(G:Nat→Rat):∀ n,GV 0 F n G=F 0^n
 | 0=>by rw[Rat.pow_zero];rfl
 | n+1=>by rw[Sl hF (.inl rfl),RX hF G n,Rat.pow_succ];grind
theorem PS(F:Nat→Rat){G:Nat→Rat}(hG:BB 1 G):∀ m,GV m F 0 G=G 0^m
 | 0=>by rw[Rat.pow_zero];rfl
 | m+1=>by
  have:GV (m+1) F 0 G=sg 0*G 0*GV m F 0 G:=by
   unfold GV;rw[show m+1+0=m+0+1 from Aa,OQ (k:=0) Aa]
   ·rw[show OJ (m+1) F 0 G 0 0=G 0 from by unfold OJ;rw[if_neg Aa,if_pos Aa]]
    congr 1;refine CS fun r c hr hc=>?_;unfold Dh;rw[gY];unfold OJ;rw[if_neg (show ¬ r+1 < 0 by omega),if_neg (show ¬ r < 0 by omega)];by_cases h2:c≤r
    ·rw[if_pos h2,if_pos (show c+1≤r+1 by omega)];congr 1;omega
    ·rw[if_neg h2,if_neg (show ¬ c+1≤r+1 by omega)]
   ·intro i hi hne
    unfold OJ;rw[if_neg Aa,if_pos Aa];exact hG _ Aa
  rw[this,PS F hG m,Rat.pow_succ,Iq];grind
theorem LH(m n:Nat):sg ((m+1)*n)=sg (m*n)*sg n:=by rw[Nat.succ_mul,Tc]
theorem Ub{m n:Nat}{F G:Nat→Rat}(h:n≤m)(hF:BB (m+1) F)(hG:BB (n+1) G)(h0:G n≠0):∃ Q,BB (m - n+1) Q∧BB m (pad F (cv Q G)):=by
 refine⟨mono (m - n) (-(F m / G n)),CX _ _,fun i hi=>?_⟩;rw[EX];show F i+_*sh (m - n) G i=0;rcases Nat.eq_or_lt_of_le hi with e | e
 ·subst e;unfold sh;rw[if_neg Aa,show m - (m - n)=n from by omega];grind
 ·unfold sh;rw[hF i Aa,if_neg Aa,hG (i - (m - n)) Aa];grind
theorem ME:∀(s:Nat) {m n:Nat} {F G:Nat→Rat},m+n≤s→BB (m+1) F→BB (n+1) G→GV n G m F=sg (m*n)*GV m F n G
 | s,0,n,F,G,_,hF,_=>by rw[PS G hF,RX hF G,Nat.zero_mul,Iq];grind
 | s,m+1,0,F,G,_,_,hG=>by rw[RX hG F,PS F hG,Nat.mul_zero,Iq];grind
 | 0,m+1,n+1,_,_,h,_,_=>absurd h Aa
 | s+1,m+1,n+1,F,G,hs,hF,hG=>by
  have hf:∀ {F:Nat→Rat},BB (m+1) F→GV (n+1) G (m+1) F=sg ((m+1)*(n+1))*GV (m+1) F (n+1) G:=fun {F} h=>by
   rw[Sl hG (.inr h),Sc h hG,ME s (m:=m) (n:=n+1) Aa h hG,LH];have:=Ug (n+1);grind
  have hg:∀ {G:Nat→Rat},BB (n+1) G→GV (n+1) G (m+1) F=sg ((m+1)*(n+1))*GV (m+1) F (n+1) G:=fun {G} h=>by
   rw[Sc h hF,Sl hF (.inr h),ME s (m:=m+1) (n:=n) Aa hF h,Nat.mul_comm (m+1) (n+1),LH n (m+1),Nat.mul_comm n (m+1)];have:=Ug (m+1);grind
  by_cases h1:F (m+1)=0
  ·exact hf fun i hi=>by
    rcases Nat.eq_or_lt_of_le hi with e | e
    ·rw[←e];exact h1
    ·exact hF i Aa
  ·by_cases h2:G (n+1)=0
   ·exact hg fun i hi=>by
     rcases Nat.eq_or_lt_of_le hi with e | e
     ·rw[←e];exact h2
     ·exact hG i Aa
   ·rcases Nat.le_total (n+1) (m+1)with h3 | h3
    ·obtain⟨Q,hQ,hR⟩:=Ub h3 hF hG h2
     rw[←PO h3 hQ,←Qu h3 hQ];exact hf hR
    ·obtain⟨Q,hQ,hR⟩:=Ub h3 hG hF h1
     rw[←PO h3 hQ,←Qu h3 hQ];exact hg hR
theorem LW{m n:Nat}{F G:Nat→Rat}(hF:BB (m+1) F)(hG:BB (n+1) G):GV n G m F=sg (m*n)*GV m F n G:=ME (m+n) (Nat.le_refl _) hF hG
theorem QZ{r n:Nat}{R G:Nat→Rat}(hR:BB (r+1) R)(hG:BB (n+1) G):∀ k,GV (r+k) R n G=sg (n*k)*G n^k*GV r R n G
 | 0=>by rw[Nat.mul_zero,Iq,Rat.pow_zero];show GV r R n G=_;grind
 | k+1=>by
  rw[←Nat.add_assoc,Sc (hR.mono Aa) hG,QZ hR hG k,Nat.mul_succ,Tc,Rat.pow_succ];grind
theorem Yn{m n r:Nat}{F G Q R:Nat→Rat}(h:n≤m)(hr:r≤m)(hG:BB (n+1) G)(hQ:BB (m - n+1) Q)(hR:BB (r+1) R)(e:F=pad (cv Q G) R):GV m F n G=sg (m*n)*G n^(m - r)*GV n G r R:=by
 rw[show F=pad R (cv Q G)from by rw[e];funext i;simp only[pad];grind,PO h hQ];have h1:=QZ hR hG (m - r);rw[show r+(m - r)=m from by omega]at h1;rw[h1,LW hR hG,show m*n=n*(m - r)+r*n from by rw[Nat.mul_sub,Nat.mul_comm n m,Nat.mul_comm n r];have:=Nat.mul_le_mul_right n hr;omega,Tc];have:=Ug (r*n);grind
theorem TH{m n:Nat}(a:Rat)(F G:Nat→Rat):GV m (psc a F) n G=a^n*GV m F n G:=by
 unfold GV;rw[←Ow (OJ m F n G) a n Aa];refine CS fun r c _ _=>?_;unfold OJ;by_cases h:r < n
 ·rw[if_pos h,if_pos h,if_pos h]
  split
  ·rfl
  ·grind
 ·rw[if_neg h,if_neg h,if_neg h]
theorem XC{m n:Nat}(a:Rat){F G:Nat→Rat}(hF:BB (m+1) F)(hG:BB (n+1) G):GV m F n (psc a G)=a^m*GV m F n G:=by
 have h1:=LW (hG.psc a) hF;have h2:=LW hG hF;rw[h1,h2,TH];grind
noncomputable def res(F G:Nat→Rat):Rat:=if pl F=0∨pl G=0 then 0 else GV (pl F - 1) F (pl G - 1) G
theorem Xk{f:Nat→Rat}:∀ {n:Nat},(∀ i,i < n→∃ z:Int,f i=(z:Rat))→∃ z:Int,sm n f=(z:Rat)
 | 0,_=>⟨0,rfl⟩
 | n+1,h=>by
  obtain⟨a,ha⟩:=Xk (n:=n) fun i hi=>h i Aa;obtain⟨b,hb⟩:=h n Aa;exact⟨a+b,by rw[BF,ha,hb,Rat.intCast_add]⟩
theorem GJ:qsz 0=1:=by decide
def Dy(N:Nat)(F:Nat→Rat):List (Option Rat):=(List.range N).map fun i=>some (F i)
theorem NM(N:Nat)(F:Nat→Rat):(Dy N F).length=N:=by simp[Dy]
theorem R5{N:Nat}{F G:Nat→Rat}{p:Nat}{x:Rat}(h:∀ n,G n=if n=p then x else F n):(Dy N F).set p (some x)=Dy N G:=by
 apply List.ext_getElem
 ·simp[Dy]
 ·intro i h1 h2
  have hi:i < N:=by simpa[Dy] using h2
  rw[List.getElem_set];simp only[Dy,List.getElem_map,List.getElem_range];rw[h i];by_cases e:p=i
  ·rw[if_pos e,if_pos e.symm]
  ·rw[if_neg e,if_neg (fun e'=>e e'.symm)]
theorem WP{N:Nat}{F:Nat→Rat}{i:Nat}(h:i < (Dy N F).length):(Dy N F)[i]=some (F i):=by simp[Dy]
theorem KA(N:Nat)(F:Nat→Rat):Dy N F=((List.range N).map F).map some:=by simp[Dy]
theorem DN(N:Nat)(F:Nat→Rat):((List.range N).map F).length=N:=by simp
def mx(j:Nat)(F' F:Nat→Rat)(i:Nat):Rat:=if i < j then F' i else F i
theorem TE(F' F:Nat→Rat):mx 0 F' F=F:=by funext i;unfold mx;rw[if_neg Aa]
theorem Wh(j:Nat)(F' F:Nat→Rat):mx j F' F j=F j:=by unfold mx;rw[if_neg Aa]
theorem Ty{N j:Nat}(F' F:Nat→Rat):(Dq N (mx j F' F)).set j (F' j).num=Dq N (mx (j+1) F' F):=by
 apply List.ext_getElem
 ·simp[Dq]
 ·intro i h1 h2
  rw[List.getElem_set,Cf,Cf];unfold mx;by_cases e:j=i
  ·subst e;rw[if_pos rfl,if_pos Aa]
  ·rw[if_neg e]
   by_cases e2:i < j
   ·rw[if_pos e2,if_pos Aa]
   ·rw[if_neg e2,if_neg Aa]
theorem WZ{N j:Nat}(h:N≤j)(F' F:Nat→Rat):Dq N (mx j F' F)=Dq N F':=by
 apply List.ext_getElem
 ·simp[Dq]
 ·intro i h1 h2
  rw[Cf,Cf];unfold mx;rw[AY]at h1;rw[if_pos Aa]
theorem Zz{j:Nat}{F' F:Nat→Rat}(h:∀ i,j≤i→F' i=F i):mx j F' F=F':=by
 funext i;unfold mx;split
 ·rfl
 ·exact(h i Aa).symm
theorem Zv{j:Nat}{F' F:Nat→Rat}(h:∀ i,i < j→F' i=F i):mx j F' F=F:=by
 funext i;unfold mx;split
 ·exact h i Aa
 ·rfl
theorem ZI.psc{F:Nat→Rat}(h:ZI F)(a:Int):ZI (psc (a:Rat) F):=fun i=>by
 obtain⟨n,e⟩:=h i;exact⟨a*n,by show(a:Rat)*F i=_;rw[e,Rat.intCast_mul]⟩
theorem ZI.pad{F G:Nat→Rat}(h:ZI F)(k:ZI G):ZI (pad F G):=fun i=>by
 obtain⟨n,e⟩:=h i;obtain⟨m,e'⟩:=k i;exact⟨n+m,by show F i+G i=_;rw[e,e',Rat.intCast_add]⟩
theorem ZI.psb{F G:Nat→Rat}(h:ZI F)(k:ZI G):ZI (psb F G):=fun i=>by
 obtain⟨n,e⟩:=h i;obtain⟨m,e'⟩:=k i;exact⟨n - m,by show F i - G i=_;rw[e,e',Rat.intCast_sub]⟩
theorem ZI.pz:ZI pz:=fun _=>⟨0,rfl⟩
theorem ZI.sh{F:Nat→Rat}(h:ZI F)(k:Nat):ZI (sh k F):=fun i=>by
 unfold Hp.sh;split
 ·exact⟨0,rfl⟩
 ·exact h _
theorem ZI.mono(k:Nat)(a:Int):ZI (mono k (a:Rat)):=fun i=>by
 unfold Hp.mono;split
 ·exact⟨a,rfl⟩
 ·exact⟨0,rfl⟩
theorem ZI.at_{F:Nat→Rat}(h:ZI F)(i:Nat):F i=((F i).num:Rat):=h.num i
theorem num_add(a b:Int):((a:Rat)+(b:Rat)).num=a+b:=by rw[←Rat.intCast_add];rfl
theorem num_sub(a b:Int):((a:Rat) - (b:Rat)).num=a - b:=by rw[←Rat.intCast_sub];rfl
theorem num_mul(a b:Int):((a:Rat)*(b:Rat)).num=a*b:=by rw[←Rat.intCast_mul];rfl
theorem ZI.num_add{F G:Nat→Rat}(h:ZI F)(k:ZI G)(i j:Nat):(F i+G j).num=(F i).num+(G j).num:=by rw[h.num i,k.num j,Hp.num_add];rfl
theorem ZI.num_sub{F G:Nat→Rat}(h:ZI F)(k:ZI G)(i j:Nat):(F i - G j).num=(F i).num - (G j).num:=by rw[h.num i,k.num j,Hp.num_sub];rfl
theorem ZI.num_mul{F G:Nat→Rat}(h:ZI F)(k:ZI G)(i j:Nat):(F i*G j).num=(F i).num*(G j).num:=by rw[h.num i,k.num j,Hp.num_mul];rfl
theorem QN{F G:Nat→Rat}(h:ZI F)(k:ZI G)(i j:Nat):qsz (F i+G j)≤max (qsz (F i)) (qsz (G j))+1:=by
 rw[h.num i,k.num j,←Rat.intCast_add,Bi,Bi,Bi];have h1:=Gp (F i).num.natAbs (G j).num.natAbs;have h2:=Bp (Int.natAbs_add_le (F i).num (G j).num);omega
theorem MX{F G:Nat→Rat}(h:ZI F)(k:ZI G)(i j:Nat):qsz (F i - G j)≤max (qsz (F i)) (qsz (G j))+1:=by
 rw[h.num i,k.num j,←Rat.intCast_sub,Bi,Bi,Bi];have h1:=Gp (F i).num.natAbs (G j).num.natAbs;have h2:=Bp (show((F i).num - (G j).num).natAbs≤(F i).num.natAbs+(G j).num.natAbs by omega);omega
/-! ### pseudo-division -/
noncomputable def De(F G:Nat→Rat):Nat→Nat→Rat
 | 0=>F
 | k+1=>psb (psc (ld G) (De F G k)) (psc (De F G k (pl F - 1 - k)) (sh (pl F - pl G - k) G))
noncomputable def G7(F G:Nat→Rat):Nat→Nat→Rat
 | 0=>pz
 | k+1=>pad (psc (ld G) (G7 F G k)) (mono (pl F - pl G - k) (De F G k (pl F - 1 - k)))
theorem Fa{F G:Nat→Rat}(hF:ZI F)(hG:ZI G):∀ k,ZI (De F G k)
 | 0=>hF
 | k+1=>by
  have ih:=Fa hF hG k;have h1:=hG.num (pl G - 1);have h2:=ih.num (pl F - 1 - k);unfold De;rw[show ld G=((G (pl G - 1)).num:Rat)from h1,h2];exact(ih.psc _).psb ((hG.sh _).psc _)
theorem Sm{F G:Nat→Rat}(hF:ZI F)(hG:ZI G):∀ k,ZI (G7 F G k)
 | 0=>ZI.pz
 | k+1=>by
  have ih:=Sm hF hG k;have h1:=hG.num (pl G - 1);have h2:=(Fa hF hG k).num (pl F - 1 - k);unfold G7;rw[show ld G=((G (pl G - 1)).num:Rat)from h1,h2];exact(ih.psc _).pad (ZI.mono _ _)
theorem KR{F G:Nat→Rat}(hF:Af F)(hG:Af G)(h0:G≠pz):∀ k,k≤pl F+1 - pl G→BB (pl F - k) (De F G k)
 | 0,_=>AU hF
 | k+1,hk=>fun i hi=>by
  have ih:=KR hF hG h0 k Aa;have hp:=Be hG h0;unfold De;show ld G*De F G k i - De F G k (pl F - 1 - k)*sh (pl F - pl G - k) G i=0;by_cases e:i=pl F - 1 - k
  ·subst e
   have:sh (pl F - pl G - k) G (pl F - 1 - k)=ld G:=by
    unfold sh;rw[if_neg Aa];show G _=G _;congr 1;omega
   rw[this];grind
  ·have h1:De F G k i=0:=ih i Aa
   have h2:sh (pl F - pl G - k) G i=0:=by
    unfold sh;split
    ·rfl
    ·exact AU hG _ Aa
   rw[h1,h2];grind
theorem Jg{F G:Nat→Rat}(h:pl G≤pl F):∀ k,k≤pl F+1 - pl G→BB (pl F+1 - pl G) (G7 F G k)∧∀ i,i+k < pl F+1 - pl G→G7 F G k i=0
 | 0,_=>⟨BB.pz _,fun _ _=>rfl⟩
 | k+1,hk=>by
  obtain⟨h1,h2⟩:=Jg h k Aa;unfold G7;refine⟨(h1.psc _).pad ((CX _ _).mono Aa),fun i hi=>?_⟩;show ld G*G7 F G k i+mono (pl F - pl G - k) _ i=0;rw[h2 i Aa,Ez Aa];grind
theorem Pm{F G:Nat→Rat}:∀ k,psc (ld G^k) F=pad (cv (G7 F G k) G) (De F G k)
 | 0=>by rw[Rat.pow_zero,Cn];unfold G7 De;rw[CG];funext i;simp only[pad,pz];grind
 | k+1=>by
  have ih:=Pm (F:=F) (G:=G) k;rw[show G7 F G (k+1)=pad (psc (ld G) (G7 F G k)) (mono (pl F - pl G - k) (De F G k (pl F - 1 - k)))from rfl,show De F G (k+1)=psb (psc (ld G) (De F G k)) (psc (De F G k (pl F - 1 - k)) (sh (pl F - pl G - k) G))from rfl];generalize De F G k (pl F - 1 - k)=a;generalize De F G k=P at ih ⊢;generalize G7 F G k=Q at ih ⊢;rw[Dk,EX,D6];generalize sh (pl F - pl G - k) G=H
  funext i
  have:=congrFun ih i;simp only[psc,pad,psb,Rat.pow_succ]at this ⊢;generalize cv Q G i=u at this ⊢;generalize P i=v at this ⊢;generalize H i=y at this ⊢;grind
theorem Kb{F G:Nat→Rat}(hF:Af F)(hG:Af G)(h0:G≠pz):G7 F G (pl F+1 - pl G)=psc (ld G^(pl F+1 - pl G)) (pq F G)∧De F G (pl F+1 - pl G)=psc (ld G^(pl F+1 - pl G)) (pr F G):=by
 have hp:=Be hG h0;have e1:=Pm (F:=F) (G:=G) (pl F+1 - pl G);have hs:BB (pl G - 1) (De F G (pl F+1 - pl G)):=by
  by_cases h:pl G≤pl F
  ·exact(KR hF hG h0 _ (Nat.le_refl _)).mono Aa
  ·rw[show pl F+1 - pl G=0 from by omega];exact(AU hF).mono Aa
 have hq:Af (G7 F G (pl F+1 - pl G)):=by
  by_cases h:pl G≤pl F
  ·exact⟨_,(Jg h _ (Nat.le_refl _)).1⟩
  ·rw[show pl F+1 - pl G=0 from by omega];exact Af.pz
 have d1:=GU (hF.psc (ld G^(pl F+1 - pl G))) hG h0 hq e1 hs;have d2:=GU (hF.psc (ld G^(pl F+1 - pl G))) hG h0 ((DJ F G).psc (ld G^(pl F+1 - pl G))) (R:=psc (ld G^(pl F+1 - pl G)) (pr F G)) (by
  rw[D6]
  funext i
  have:=congrFun (Ko F G) i;simp only[psc,pad]at this ⊢;rw[this];grind) ((Ea hF hG h0).psc _)
 exact⟨d1.1.trans d2.1.symm,d1.2.trans d2.2.symm⟩
theorem Im{F G:Nat→Rat}{s t:Nat}(hF:ZI F)(hG:ZI G)(hs:∀ i,qsz (F i)≤s)(ht:∀ i,qsz (G i)≤t):∀ k i,qsz (De F G k i)≤s+k*(t+1)
 | 0,i=>by have:=hs i;show qsz (F i)≤_;omega
 | k+1,i=>by
  have ih:=Im hF hG hs ht k;have hz:=Fa hF hG k;have h1:=hG.num (pl G - 1);have h2:=hz.num (pl F - 1 - k);have hA:ZI (psc (ld G) (De F G k)):=by rw[show ld G=((G (pl G - 1)).num:Rat)from h1];exact hz.psc _
  have hB:ZI (psc (De F G k (pl F - 1 - k)) (sh (pl F - pl G - k) G)):=by rw[h2];exact(hG.sh _).psc _
  have h3:=MX hA hB i i;have h4:qsz (psc (ld G) (De F G k) i)≤t+(s+k*(t+1)):=by
   have a:=BR (ld G) (De F G k i);have b:=ht (pl G - 1);have c:=ih i;show qsz (ld G*De F G k i)≤_;have:qsz (ld G)≤t:=b;omega
  have h5:qsz (psc (De F G k (pl F - 1 - k)) (sh (pl F - pl G - k) G) i)≤(s+k*(t+1))+t:=by
   have a:=BR (De F G k (pl F - 1 - k)) (sh (pl F - pl G - k) G i);have c:=ih (pl F - 1 - k);have b:qsz (sh (pl F - pl G - k) G i)≤t:=by
    unfold sh;split
    ·have:=ht 0;have h1:=G8 (G 0);rw[GJ];omega
    ·exact ht _
   show qsz (De F G k (pl F - 1 - k)*sh (pl F - pl G - k) G i)≤_;omega
  unfold De;rw[Nat.succ_mul];show qsz (psc (ld G) (De F G k) i - psc (De F G k (pl F - 1 - k)) (sh (pl F - pl G - k) G) i)≤_;omega
theorem TN{F G:Nat→Rat}{s t:Nat}(hF:ZI F)(hG:ZI G)(hs:∀ i,qsz (F i)≤s)(ht:∀ i,qsz (G i)≤t)(h:pl G≤pl F):∀ k,k≤pl F+1 - pl G→∀ i,qsz (G7 F G k i)≤s+k*(t+1)
 | 0,_,i=>by have:=hs i;have h1:=G8 (F i);show qsz 0≤_;rw[GJ];omega
 | k+1,hk,i=>by
  have ih:=TN hF hG hs ht h k Aa;have h2:=(Jg h k Aa).2;have h3:=Im hF hG hs ht k (pl F - 1 - k);unfold G7;rw[Nat.succ_mul];show qsz (ld G*G7 F G k i+mono (pl F - pl G - k) _ i)≤_;by_cases e:i=pl F - pl G - k
  ·subst e
   rw[h2 _ Aa,Ja,show ∀ x:Rat,ld G*0+x=x from fun x=>by grind];omega
  ·rw[Ez e,show ∀ x:Rat,x+0=x from fun x=>by grind]
   have a:=BR (ld G) (G7 F G k i);have b:=ht (pl G - 1);have c:=ih i;have:qsz (ld G)≤t:=b;omega
theorem NG{F G:Nat→Rat}(hF:Af F)(hG:Af G)(h:F≠pz)(k:G≠pz):res F G=GV (pl F - 1) F (pl G - 1) G:=by
 have:=Be hF h;have:=Be hG k;unfold res;rw[if_neg Aa]
theorem J5{F:Nat→Rat}(h:Af F):BB (pl F - 1+1) F:=(AU h).mono Aa
theorem ER(q:Rat):sz q.num.natAbs≤qsz q:=by unfold qsz;omega
theorem J3(a:Int):∀ n:Nat,((a:Rat))^n=((a^n:Int):Rat)
 | 0=>by rw[Rat.pow_zero,Int.pow_zero];rfl
 | n+1=>by rw[Rat.pow_succ,J3 a n,Int.pow_succ,Rat.intCast_mul]
theorem SE{a:Rat}(h:a≠0):∀ n:Nat,a^n≠0
 | 0=>by rw[Rat.pow_zero];decide
 | n+1=>by
  rw[Rat.pow_succ];intro e;rcases Rat.mul_eq_zero.1 e with e | e
  ·exact SE h n e
  ·exact h e
theorem Rt(a:Rat)(m:Nat):∀ n:Nat,(a^m)^n=a^(m*n)
 | 0=>by rw[Rat.pow_zero,Nat.mul_zero,Rat.pow_zero]
 | n+1=>by
  rw[Rat.pow_succ,Rt a m n,Nat.mul_succ];generalize m*n=k;induction m with
  | zero=>rw[Rat.pow_zero];grind
  | succ m ih=>rw[Rat.pow_succ,←Nat.add_assoc,Rat.pow_succ,←ih];grind
theorem Gf(x:Int)(s:Nat)(h:sz x.natAbs≤s):∀ n:Nat,sz (x^n).natAbs≤1+n*s
 | 0=>by rw[Int.pow_zero];have:sz (1:Int).natAbs≤1:=Ab;omega
 | n+1=>by
  rw[Int.pow_succ,Int.natAbs_mul,Nat.succ_mul];have h1:=Cc (x^n).natAbs x.natAbs;have h2:=Gf x s h n;omega
theorem N7(x:Int)(s:Nat)(h:sz x.natAbs≤s){n:Nat}(hn:0 < n):sz (x^n).natAbs≤n*s:=by
 obtain⟨n,rfl⟩:∃ k,n=k+1:=⟨n - 1,Aa⟩
 clear hn;induction n with
 | zero=>rw[Int.pow_succ,Int.pow_zero,Int.one_mul];omega
 | succ n ih =>
  rw[Int.pow_succ,Int.natAbs_mul,Nat.succ_mul];have h1:=Cc (x^(n+1)).natAbs x.natAbs;omega
theorem VN{F G:Nat→Rat}(hF:Af F)(hG:Af G)(hf:F≠pz)(hg:G≠pz)(h:pl G≤pl F)(hzF:ZI F)(hzG:ZI G){R:Nat→Rat}(hR:R=De F G (pl F+1 - pl G))(h0:R≠pz) :
  res F G*ld G^((pl F+1 - pl G)*(pl G - 1))=sg ((pl F - 1)*(pl G - 1))*((pcn R:Int):Rat)^(pl G - 1)*ld G^(pl F - 1 - (pl R - 1))*res G (pp R):=by
 have hp:=Be hG hg;have hRz:ZI R:=hR▸Fa hzF hzG _;have hRs:BB (pl G - 1) R:=by
  rw[hR];exact(KR hF hG hg _ (Nat.le_refl _)).mono Aa
 have hRf:Af R:=⟨_,hRs⟩
 have hrl:=Bq hRs;have hrp:=Be hRf h0;have hP:=Yb hRz hRf h0;have hPf:=DI hRf;have hPl:=EE hRz hRf;rw[NG hF hG hf hg,NG hG hPf hg hP,hPl,←Rt,Rat.mul_comm,←TH];have e:=Pm (F:=F) (G:=G) (pl F+1 - pl G);rw[←hR]at e;rw[Yn (r:=pl R - 1) Aa Aa (J5 hG) ((Jg h _ (Nat.le_refl _)).1.mono Aa) (J5 hRf) e];have e2:GV (pl G - 1) G (pl R - 1) R=((pcn R:Int):Rat)^(pl G - 1)*GV (pl G - 1) G (pl R - 1) (pp R):=by
  have:=XC ((pcn R:Int):Rat) (m:=pl G - 1) (n:=pl R - 1) (J5 hG) (G:=pp R) (by have:=J5 hPf;rw[hPl]at this;exact this);rw[←O6 hRz hRf h0]at this;exact this
 rw[e2];show _*G (pl G - 1)^_*_=_*_*G (pl G - 1)^_*_;grind
theorem XV{F G:Nat→Rat}(hF:Af F)(hG:Af G)(hf:F≠pz)(hg:G≠pz):res F G=sg ((pl F - 1)*(pl G - 1))*res G F:=by
 rw[NG hF hG hf hg,NG hG hF hg hf,LW (J5 hF) (J5 hG)];have:=Ug ((pl F - 1)*(pl G - 1));grind
theorem VF{F G:Nat→Rat}(hF:Af F)(hG:Af G)(hf:F≠pz)(h:pl G=1):res F G=G 0^(pl F - 1):=by
 have hg:G≠pz:=fun e=>by rw[e,Ca]at h;omega
 rw[NG hF hG hf hg,h];exact PS F (h▸AU hG) _
structure Js(F0 G0:Nat→Rat)(D S:Nat)(F G:Nat→Rat)(x y:Int):Prop where
 fF:Af F
 fG:Af G
 nF:F≠pz
 nG:G≠pz
 zF:ZI F
 zG:ZI G
 eq:res F0 G0*(y:Rat)=(x:Rat)*res F G
 ny:y≠0
 len:pl F+pl G≤D
 qF:∀ i,qsz (F i)+1≤(S+1)*2^(D - (pl F+pl G))
 qG:∀ i,qsz (G i)+1≤(S+1)*2^(D - (pl F+pl G))
 sx:sz x.natAbs≤1+(D - (pl F+pl G))*(D*((S+1)*2^D))
 sy:sz y.natAbs≤1+(D - (pl F+pl G))*(D*((S+1)*2^D))
theorem Js.start{F G:Nat→Rat}{S:Nat}(hF:Af F)(hG:Af G)(hf:F≠pz)(hg:G≠pz)(zF:ZI F)(zG:ZI G)(qF:∀ i,qsz (F i)≤S)(qG:∀ i,qsz (G i)≤S):Js F G (pl F+pl G) S F G 1 1:=
  ⟨hF,hG,hf,hg,zF,zG,Au,Ab,Nat.le_refl _,fun i=>by have:=qF i;rw[Nat.sub_self,Nat.pow_zero];omega,fun i=>by have:=qG i;rw[Nat.sub_self,Nat.pow_zero];omega,
    by have:sz (1:Int).natAbs≤1:=by decide
       omega,by have:sz (1:Int).natAbs≤1:=Ab;omega⟩
def YN(k:Nat)(x:Int):Int:=if k % 2=1 then -x else x
theorem ZZ(k:Nat)(x:Int):((YN k x:Int):Rat)=sg k*(x:Rat):=by
 unfold YN sg;rcases Nat.mod_two_eq_zero_or_one k with h | h
 ·rw[if_neg Aa,if_pos h];grind
 ·rw[if_pos h,if_neg Aa,Rat.intCast_neg];grind
theorem M7(k:Nat)(x:Int):(YN k x).natAbs=x.natAbs:=by unfold YN;split<;>simp
theorem Js.swap{F0 G0 F G:Nat→Rat}{D S:Nat}{x y:Int}(h:Js F0 G0 D S F G x y):Js F0 G0 D S G F (YN ((pl F - 1)*(pl G - 1)) x) y:=
 ⟨h.fG,h.fF,h.nG,h.nF,h.zG,h.zF,by rw[h.eq,XV h.fF h.fG h.nF h.nG,ZZ];grind,h.ny,by have:=h.len;omega,by rw[Nat.add_comm (pl G)];exact h.qG,by rw[Nat.add_comm (pl G)];exact h.qF,
  by rw[M7,Nat.add_comm (pl G)];exact h.sx,by rw[Nat.add_comm (pl G)];exact h.sy⟩
theorem Mw(d:Nat):d+1≤2^d:=by
 induction d with
 | zero=>decide
 | succ d ih=>rw[Nat.pow_succ];omega
theorem Js.room{F0 G0 F G:Nat→Rat}{D S:Nat}{x y:Int}(h:Js F0 G0 D S F G x y)(hl:pl G≤pl F){R:Nat→Rat}(hR:R=De F G (pl F+1 - pl G)) :
  (∀ i,qsz (F i)≤(S+1)*2^D)∧(∀ i,qsz (G i)≤(S+1)*2^D)∧(∀ i,qsz (R i)+1≤(S+1)*2^(D - (pl F+pl G)+(pl F+1 - pl G))):=by
 have up:∀ a:Nat,a≤D→(S+1)*2^a≤(S+1)*2^D:=fun a ha=>Nat.mul_le_mul_left _ (Nat.pow_le_pow_right Ab ha);have h1:=up (D - (pl F+pl G)) Aa;refine⟨fun i=>by have:=h.qF i;omega,fun i=>by have:=h.qG i;omega,fun i=>?_⟩;obtain⟨M,hM⟩:∃ M,M=(S+1)*2^(D - (pl F+pl G)):=⟨_,rfl⟩
 have hp:0 < M:=by rw[hM];exact Nat.mul_pos Aa (Nat.pow_pos Ab)
 have h2:=Im (s:=M - 1) (t:=M - 1) h.zF h.zG (fun i=>by have:=h.qF i;omega) (fun i=>by have:=h.qG i;omega) (pl F+1 - pl G) i;rw[←hR]at h2;rw[Nat.pow_add,←Nat.mul_assoc,←hM];have h3:=Mw (pl F+1 - pl G);have h4:M*(pl F+1 - pl G+1)≤M*2^(pl F+1 - pl G):=Nat.mul_le_mul_left _ h3;rw[Nat.mul_succ,Nat.mul_comm M]at h4;rw[show M - 1+1=M from by omega]at h2;omega
theorem Js.step{F0 G0 F G:Nat→Rat}{D S:Nat}{x y:Int}(h:Js F0 G0 D S F G x y)(h1:1 < pl G)(hl:pl G≤pl F){R:Nat→Rat}(hR:R=De F G (pl F+1 - pl G))(h0:R≠pz) :
  Js F0 G0 D S G (pp R) (YN ((pl F - 1)*(pl G - 1)) x*pcn R^(pl G - 1)*(ld G).num^(pl F - 1 - (pl R - 1))) (y*(ld G).num^((pl F+1 - pl G)*(pl G - 1))):=by
 have hRz:ZI R:=hR▸Fa h.zF h.zG _;have hRs:BB (pl G - 1) R:=by rw[hR];exact(KR h.fF h.fG h.nG _ (Nat.le_refl _)).mono Aa
 have hRf:Af R:=⟨_,hRs⟩
 have hrl:=Bq hRs;have hrp:=Be hRf h0;have hPl:=EE hRz hRf;have hld:ld G=((ld G).num:Rat):=h.zG.num _;have hldn:(ld G).num≠0:=fun e=>D8 h.fG h.nG (by rw[hld,e];rfl);obtain⟨b1,b2,b3⟩:=h.room hl hR;have hlen:=h.len;obtain⟨M,hM⟩:∃ M,M=(S+1)*2^D:=⟨_,rfl⟩
 have hup:∀ a:Nat,a≤D→(S+1)*2^a≤M:=fun a ha=>by rw[hM];exact Nat.mul_le_mul_left _ (Nat.pow_le_pow_right Ab ha)
 have hRq:∀ i,qsz (R i)≤M:=fun i=>by
  have a:=b3 i;have b:=hup (D - (pl F+pl G)+(pl F+1 - pl G)) Aa;omega
 have hmono:∀ a b:Nat,a≤b→(S+1)*2^a≤(S+1)*2^b:=fun a b hab=>Nat.mul_le_mul_left _ (Nat.pow_le_pow_right Ab hab);have hsld:sz (ld G).num.natAbs≤M:=by
  have a:=ER (G (pl G - 1));have b:=b2 (pl G - 1);show sz (G (pl G - 1)).num.natAbs≤M;omega
 have hspc:sz (pcn R).natAbs≤M:=by rw[Fj];exact FV hRq _
 obtain⟨d,hd⟩:∃ d,d=pl F - pl R:=⟨_,rfl⟩
 have hD:D - (pl G+pl R)=D - (pl F+pl G)+d:=by omega
 refine⟨h.fG,DI hRf,h.nG,Yb hRz hRf h0,h.zG,Iu hRz hRf,?_,?_,by rw[hPl];omega,fun i=>?_,fun i=>?_,?_,?_⟩
 ·have e:=VN h.fF h.fG h.nF h.nG hl h.zF h.zG hR h0
  have e2:=h.eq;rw[Rat.intCast_mul,Rat.intCast_mul,Rat.intCast_mul,←J3,←J3,←J3,←hld,ZZ];grind
 ·exact Int.mul_ne_zero h.ny (Int.pow_ne_zero hldn)
 ·rw[hPl,hD];exact Nat.le_trans (h.qG i) (hmono _ _ Aa)
 ·have a:=Fb hRz hRf (s:=(S+1)*2^(D - (pl F+pl G)+(pl F+1 - pl G)) - 1) (fun i=>by have:=b3 i;omega) i
  have b:=hmono (D - (pl F+pl G)+(pl F+1 - pl G)) (D - (pl F+pl G)+d) Aa;have c:=G8 (pp R i);have p:0 < (S+1)*2^(D - (pl F+pl G)+(pl F+1 - pl G)):=Nat.mul_pos Aa (Nat.pow_pos Ab);rw[hPl,hD];omega
 ·rw[hPl,hD,Nat.add_mul,←hM,Int.natAbs_mul,Int.natAbs_mul,M7]
  have a1:=h.sx;rw[←hM]at a1;have a2:=Cc (x.natAbs*(pcn R^(pl G - 1)).natAbs) ((ld G).num^(pl F - 1 - (pl R - 1))).natAbs;have a3:=Cc x.natAbs (pcn R^(pl G - 1)).natAbs;have a4:=N7 _ _ hspc (n:=pl G - 1) Aa;have a5:=N7 _ _ hsld (n:=pl F - 1 - (pl R - 1)) Aa;rw[show pl F - 1 - (pl R - 1)=d from by omega]at a2 a5 ⊢;have a6:(pl G - 1)*M+d*M≤d*(D*M):=by
   have c1:(pl G - 1+d)*M≤(d*D)*M:=Nat.mul_le_mul_right _ (by
    have c2:d*(pl G)≤d*D:=Nat.mul_le_mul_left _ Aa;have c3:1*(pl G - 1)≤d*(pl G - 1):=Nat.mul_le_mul_right _ Aa;have c4:d*(pl G)=d*(pl G - 1)+d:=by rw[←Nat.mul_succ];congr 1;omega
    omega)
   rw[Nat.add_mul,Nat.mul_assoc]at c1;exact c1
  omega
 ·rw[hPl,hD,Nat.add_mul,←hM,Int.natAbs_mul]
  have a1:=h.sy;rw[←hM]at a1;have a2:=Cc y.natAbs ((ld G).num^((pl F+1 - pl G)*(pl G - 1))).natAbs;have a4:=N7 _ _ hsld (n:=(pl F+1 - pl G)*(pl G - 1)) (Nat.mul_pos Aa Aa);have a6:(pl F+1 - pl G)*(pl G - 1)*M≤d*(D*M):=by
   rw[Nat.mul_assoc];exact Nat.mul_le_mul Aa (Nat.mul_le_mul_right _ Aa)
  omega
theorem Js.end_{F0 G0 F G:Nat→Rat}{D S:Nat}{x y:Int}(h:Js F0 G0 D S F G x y)(h1:pl G=1)(hz:∃ z:Int,res F0 G0=(z:Rat)) :
  y∣x*(G 0).num^(pl F - 1)∧x*(G 0).num^(pl F - 1) / y=(res F0 G0).num:=by
 obtain⟨z,hz⟩:=hz;have e:=h.eq;rw[VF h.fF h.fG h.nF h1,h.zG.num 0,J3,←Rat.intCast_mul,hz,←Rat.intCast_mul]at e;have e2:=Ia e;rw[←e2,hz];exact⟨⟨z,Int.mul_comm _ _⟩,by rw[Int.mul_ediv_cancel _ h.ny];rfl⟩
end Go.Hp
namespace Go.Proofs.YtmhgnigpmompmaaGreat
open Go.RowKit Go.Hp
theorem Um(v:Value)(x:Int)(w:World)(hv:Bu w v x):Bh 163 #[v] w (fun r _=>∃ b:Bool,r = .bool b∧(b=true→x=1)):=by
 obtain⟨neg,A,n,c,N,rfl,h1,h2,h3,hN,hx⟩:=hv.form;clear hv;by_cases hn:n=1
 ·subst hn
  obtain⟨ds,hd,rfl,hl⟩:=hN;obtain⟨A',c',he,hl',_,hA⟩:=hd;have hlen:ds.length=1:=by have:=congrArg (fun v=>match v with | Value.slice _ n _=>n | _=>0) he;simpa using this.symm
  rw[hlen]at he;cases he
  match ds,hlen,hA,hx with
  | [d],_,hA,hx =>
   obtain⟨a,rfl,hcb⟩:=BS hA (k:=0) Ac;replace hcb:=fun o=>((Ext.refl w).alloc o).cell (show w.cell? a=some (.int .u32 (d:Nat))from hcb);have hd1:d < 4294967296:=hA.1 d Ac;have Hx:=Ad (show d=1→neg=false→x=1 by rintro rfl rfl;rw[hx];simp[Ct,BV]);clear hx hA hl hl'
   go_enter Tryz.func163,Tryz.ntmps163
   by_cases hd:d=1
   ·have hb:(((d:Nat):Int)==1)=true:=by subst hd;rfl
    have H:=Ad (show neg=false→x=1 from Hx.out hd);clear Hx hd;go_wp2
    go_ret
    exact Ah.mk ⟨!neg,rfl,fun h=>H.out (by simpa using h)⟩ ((Ext.refl w).alloc _)
   ·have hb:(((d:Nat):Int)==1)=false:=by simp;omega
    clear Hx hd;go_wp2
    go_ret
    exact Ah.mk ⟨false,rfl,fun h=>by cases h⟩ ((Ext.refl w).alloc _)
 ·have hb:(((n:Nat):Int)==1)=false:=by simp;omega
  clear hx hN hn
  go_enter Tryz.func163,Tryz.ntmps163
  go_wp2
  go_ret
  exact Ah.mk ⟨false,rfl,fun h=>by cases h⟩ ((Ext.refl w).alloc _)
theorem Yw(v u:Value)(neg':Bool)(x:Int)(M:Nat)(w:World)(hv:Bu w v x)(hu:BA w u M)(hM:sz M≤1099511627776) :
  Bh 164 #[v,.bool neg',u] w (fun r w'=>AO w' r (x+if neg' then -(M:Int)else M)):=by
 obtain⟨neg,A,n,c,N,rfl,h1,h2,h3,hN,hx⟩:=hv.form;have HN:=Ad hN;have HU:=Ad hu;clear hN hv hu;have hs:sz N≤n:=HN.out.sz;obtain⟨z,hz⟩:∃ z,z=x+if neg' then -(M:Int)else M:=⟨_,rfl⟩
 rw[←hz];have Hz:=Ad (Ak hx hz);clear hx hz
 go_enter Tryz.func164,Tryz.ntmps164
 go_wp2_with fail
 refine AL (BN _ N n _ (HN.out.ext (((Ext.refl w).alloc _).alloc _))) ?_;rintro r w1 hr hx1;have hu1:BA w1 u M:=HU.out.ext hx1.a2;clear HU;have Hr:=Ad (Ak hr hu1);clear hr hu1;by_cases hsg:neg=neg'
 ·subst hsg
  have hb:(neg==neg)=true:=by simp
  have hc1:=hx1.cells;have hf1:=hx1.frozens
  go_wp2_with fail
  refine AL (QL _ _ N M (sz N) (sz M) w1 (Hr.out.1.num (Nat.le_refl _)) (Hr.out.2.num (Nat.le_refl _)) Aa Aa) ?_;rintro r2 w2 hr2 hx2;clear hc1 hf1
  go_wp2_with fail
  refine AL (Cz z neg _ (N+M) _ w2 (by rw[Hz.out.2,Hz.out.1];cases neg<;>simp<;>omega) hr2) ?_;rintro r3 w3 hr3 hx3;obtain⟨b,A2,n2,c2,rfl⟩:=hr3.cells;replace hx1:=(hx1.trans hx2).trans hx3;have hc1:=hx1.cells;have hf1:=hx1.frozens;have Hfin:=Ad (Ci hr3 hx1.a2 (AX.at_ hx1 (g:=w.heap.size+1) Ac (by simp[Ag])) Aa);clear hr3 hr2;go_wp2;refine bodyPost_ret (v := .agg #[.bool b,.slice A2 n2 c2]) (by simp[results,Tryz.results164,go_sem,hc1]) rfl ?_
  exact Hfin.out
 ·have hb:(neg==neg')=false:=by simpa using hsg
  have hneg:neg'=!neg:=by cases neg<;>cases neg'<;>simp_all
  subst hneg;have hc1:=hx1.cells;have hf1:=hx1.frozens;clear hsg
  go_wp2_with fail
  refine AL (Lx _ _ N M w1 Hr.out.1 Hr.out.2 Aa Aa) ?_;rintro r2 w2 rfl hx2;replace Hr:=Ad (Ak (Hr.out.1.ext hx2) (Hr.out.2.ext hx2));replace hx1:=hx1.trans hx2;clear hc1 hf1 hx2;have hc1:=hx1.cells;have hf1:=hx1.frozens;by_cases hle:M≤N
  ·have hb2:decide (cmp N M≥0)=true:=by
    rcases Nat.lt_or_eq_of_le hle with e | e
    ·rw[PR e];rfl
    ·rw[RF e.symm];rfl
   have hb3:decide (0≤cmp N M)=true:=hb2;have Hle:=Ad hle;clear hle
   go_wp2_with fail
   have hb0:=hx1.a1.box (i:=0) rfl rfl;refine Ae 5 [24,25,26,27,28] [[],[0],[],[],[2,3],[0,1,2,3,4],[0,1,2,3,4,5]] [3,7,2] [_,_,_] [(kv ?_),(kv ?_),(kv ?_),(kv ?_),(fun γ=>γ 4)] (fun γ w'=>[True,True,True,True,Cr w' (γ 4) (N - M) (sz N)]) Bn Aj Aj Bo Aj Bl Br ?hstep1 ?_
   case hstep1 =>
    iterate 5 refine⟨?_,?_⟩
    trivial
    iterate 4 focus
     intro γ w' he hf;clear hf;refine⟨by trivial,?_⟩;intro R hR;have hc:=he.cells;have cq0:=he.cell hb0;go_simp;refine hR _ _ (Ext.refl _) ?_ trivial;rfl
    ·intro γ w' he hf;clear hf;refine⟨trivial,?_⟩;intro R hR
     go_simp;exact Bd (Nq _ _ N M w' (Hr.out.1.ext he) (Hr.out.2.ext he) Hle.out Aa) hR
   intro γ w3 hx3 hF;have p4:Cr w3 (γ 4) (N - M) (sz N):=AA.get hF 4 Ab;clear hF;simp only[Bf,Nat.reduceAdd];generalize γ 4=g4 at *;clear γ
   go_wp2_with fail
   refine AL (Cz z neg _ (N - M) _ w3 (by have:=Hle.out;rw[Hz.out.2,Hz.out.1];cases neg<;>simp<;>omega) p4) ?_;rintro r3 w4 hr3 hx4;obtain⟨b,A2,n2,c2,rfl⟩:=hr3.cells;replace hx1:=(hx1.trans hx3).trans hx4;clear hc1 hf1;have hc1:=hx1.cells;have hf1:=hx1.frozens;have Hfin:=Ad (Ci hr3 hx1.a2 (AX.at_ hx1 (g:=w.heap.size+1) Ac (by simp[Ag])) Aa);clear hr3 p4;go_wp2;refine bodyPost_ret (v := .agg #[.bool b,.slice A2 n2 c2]) (by simp[results,Tryz.results164,go_sem,hc1]) rfl ?_
   exact Hfin.out
  ·have hb2:decide (0≤cmp N M)=false:=by rw[PZ Aa];rfl
   have Hle:=Ad hle;clear hle
   go_wp2_with fail
   refine AL (Nq _ _ M N w2 Hr.out.2 Hr.out.1 (by have:=Hle.out;omega) Aa) ?_;rintro r2 w3 hr2 hx3;clear hc1 hf1
   go_wp2_with fail
   refine AL (Cz z (!neg) _ (M - N) _ w3 (by have:=Hle.out;rw[Hz.out.2,Hz.out.1];cases neg<;>simp<;>omega) hr2) ?_;rintro r3 w4 hr3 hx4;obtain⟨b,A2,n2,c2,rfl⟩:=hr3.cells;replace hx1:=(hx1.trans hx3).trans hx4;have hc1:=hx1.cells;have hf1:=hx1.frozens;have Hfin:=Ad (Ci hr3 hx1.a2 (AX.at_ hx1 (g:=w.heap.size+1) Ac (by simp[Ag])) Aa);clear hr3 hr2;go_wp2;refine bodyPost_ret (v := .agg #[.bool b,.slice A2 n2 c2]) (by simp[results,Tryz.results164,go_sem,hc1]) rfl ?_
   exact Hfin.out
theorem ML(v u:Value)(x y:Int)(w:World)(hv:Bu w v x)(hu:Bu w u y):Bh 124 #[v,u] w (fun r w'=>AO w' r (x+y)):=by
 have Hv:=Ad hv;obtain⟨neg,A,n,c,N,rfl,h1,h2,h3,hN,hx⟩:=hv.form;obtain⟨neg',A',n',c',M,rfl,k1,k2,k3,kN,hy⟩:=hu.form;have HN:=Ad kN;clear hN hv hu kN hx;have hs:sz M≤n':=HN.out.sz;have Hy:=Ad hy;clear hy
 go_enter Tryz.func124,Tryz.ntmps124
 go_wp2_with fail
 refine Ae 6 [5,6,7,8,9,10] [[],[],[1],[],[3],[3,4],[0,1,2,3,4,5],[0,1,2,3,4,5,6]] [2,3] [_,_] [(kv ?_),(kv ?_),(kv ?_),(kv ?_),(kv ?_),(fun γ=>γ 5)] (fun γ w'=>[True,True,True,True,True,BA w' (γ 5) M]) Bn Aj Aj Bo Aj Bl Br ?hstep2 ?_
 case hstep2 =>
  iterate 6 refine⟨?_,?_⟩
  trivial
  iterate 5 focus
   intro γ w' he hf;clear hf;refine⟨by trivial,?_⟩;intro R hR;have hc:=he.cells;go_simp;refine hR _ _ (Ext.refl _) ?_ trivial;rfl
  ·intro γ w' he hf;clear hf;refine⟨trivial,?_⟩;intro R hR
   go_simp;exact Bd (BN _ M n' w' (HN.out.ext he.a3)) hR
 intro γ w1 hx1 hF;have p5:BA w1 (γ 5) M:=AA.get hF 5 Ab;clear hF;simp only[Bf,Nat.reduceAdd];generalize γ 5=g5 at *;clear γ
 go_wp2_with fail
 refine AL (Yw _ _ neg' x M w1 (Hv.out.ext hx1.a3) p5 Aa) ?_;rintro r w2 hr hx2;rw[←Hy.out]at hr;obtain⟨b,A2,n2,c2,rfl⟩:=hr.cells;replace hx1:=hx1.trans hx2;have hc1:=hx1.cells;have hf1:=hx1.frozens;have Hfin:=Ad (Ci hr hx1.a3 (AX.at_ hx1 (g:=w.heap.size+2) Ac (by simp[Ag])) Aa);clear hr p5;go_wp2;refine bodyPost_ret (v := .agg #[.bool b,.slice A2 n2 c2]) (by simp[results,Tryz.results124,go_sem,hc1]) rfl ?_
 exact Hfin.out
theorem DF(v u:Value)(x y:Int)(w:World)(hv:Bu w v x)(hu:Bu w u y):Bh 118 #[v,u] w (fun r w'=>AO w' r (x*y)):=by
 obtain⟨neg,A,n,c,N,rfl,h1,h2,h3,hN,hx⟩:=hv.form;obtain⟨neg',A',n',c',M,rfl,k1,k2,k3,kN,hy⟩:=hu.form;have HN:=Ad hN;have HM:=Ad kN;clear hN hv hu kN;have hs:sz N≤n:=HN.out.sz;have hs':sz M≤n':=HM.out.sz;have Hz:=Ad (show x*y=if (neg != neg')=true then -((N*M:Nat):Int)else((N*M:Nat):Int) by rw[hx,hy];cases neg<;>cases neg'<;>simp[Int.neg_mul,Int.mul_neg]);clear hx hy
 go_enter Tryz.func118,Tryz.ntmps118
 go_wp2_with fail
 refine Ae 12 [5,6,7,8,9,10,11,12,13,14,15,16] [[],[0],[],[2],[0,1,2,3],[],[5],[5,6],[],[8],[5,6,7,8,9],[5,6,7,8,9,10],[0,1,2,3,4,5,6,7,8,9,10,11],[0,1,2,3,4,5,6,7,8,9,10,11,12]] [2,3] [_,_] [(kv ?_),(kv ?_),(kv ?_),(kv ?_),(kv ?_),(kv ?_),(kv ?_),(fun γ=>γ 7),(kv ?_),(kv ?_),(fun γ=>γ 10),(fun γ=>γ 11)] (fun γ w'=>[True,True,True,True,True,True,True,BA w' (γ 7) N,True,True,BA w' (γ 10) M,Cr w' (γ 11) (N*M) (sz N+sz M)]) Bn Aj Aj Bo Aj Bl Br ?hstep3 ?_
 case hstep3 =>
  iterate 12 refine⟨?_,?_⟩
  trivial
  iterate 7 focus
   intro γ w' he hf;clear hf;refine⟨by trivial,?_⟩;intro R hR;have hc:=he.cells;go_simp;(try go_ints);(try(rw[if_neg Aa]));(try(rw[if_pos Aa]));(try go_simp);(try go_ints)
   refine hR _ _ (Ext.refl _) ?_ trivial;rfl
  ·intro γ w' he hf;clear hf;refine⟨trivial,?_⟩;intro R hR
   go_simp;exact Bd (BN _ N n w' (HN.out.ext he.a3)) hR
  iterate 2 focus
   intro γ w' he hf;clear hf;refine⟨by trivial,?_⟩;intro R hR;have hc:=he.cells;go_simp;refine hR _ _ (Ext.refl _) ?_ trivial;rfl
  ·intro γ w' he hf;clear hf;refine⟨trivial,?_⟩;intro R hR
   go_simp;exact Bd (BN _ M n' w' (HM.out.ext he.a3)) hR
  ·intro γ w' he hf;have f7:BA w' (γ 7) N:=hf 7 Ab;have f10:BA w' (γ 10) M:=hf 10 Ab;clear hf;refine⟨trivial,?_⟩;intro R hR
   go_simp;exact Bd (UO _ _ N M (sz N) (sz M) w' (f7.num (Nat.le_refl _)) (f10.num (Nat.le_refl _)) Aa Aa) hR
 intro γ w1 hx1 hF;have p7:BA w1 (γ 7) N:=AA.get hF 7 Ab;have p10:BA w1 (γ 10) M:=AA.get hF 10 Ab;have p11:Cr w1 (γ 11) (N*M) (sz N+sz M):=AA.get hF 11 Ab;clear hF;simp only[Bf,Nat.reduceAdd];generalize γ 7=g7 at *;generalize γ 10=g10 at *;generalize γ 11=g11 at *;clear γ
 go_wp2_with fail
 refine AL (Cz (x*y) (neg != neg') _ (N*M) _ w1 Hz.out p11) ?_;rintro r w2 hr hx2;obtain⟨b,A2,n2,c2,rfl⟩:=hr.cells;replace hx1:=hx1.trans hx2;have hc1:=hx1.cells;have hf1:=hx1.frozens;have Hfin:=Ad (Ci hr hx1.a3 (AX.at_ hx1 (g:=w.heap.size+2) Ac (by simp[Ag])) Aa);clear hr p7 p10 p11;go_wp2;refine bodyPost_ret (v := .agg #[.bool b,.slice A2 n2 c2]) (by simp[results,Tryz.results118,go_sem,hc1]) rfl ?_
 exact Hfin.out
end Go.Proofs.YtmhgnigpmompmaaGreat
namespace Go.Hp
open Go.RowKit
theorem Ext.a4{w w':World}{o p q r:Obj}(h:Ext ((((w.alloc o).alloc p).alloc q).alloc r) w'):Ext w w':=h.a1.a1.a1.a1
theorem I5{w w1:World}{g h n c n' c':Nat}{A A':Option Addr}{b b':Bool}{x y:Int}(hx:AO w1 (.agg #[.bool b,.slice A n c]) x)(hy:AO w1 (.agg #[.bool b',.slice A' n' c']) y)(he:Ext w w1)(hn:AX w1 g)(hn':AX w1 h)(hg:w.heap.size≤g)(hh:w.heap.size≤h) :
  AO ((((w1.setCell ⟨g,0,none⟩ (.bool b)).setCell ⟨g,1,none⟩ (.slice A n c)).setCell ⟨h,0,none⟩ (.bool b')).setCell ⟨h,1,none⟩ (.slice A' n' c')) (.agg #[.bool b,.slice A n c]) x ∧
  AO ((((w1.setCell ⟨g,0,none⟩ (.bool b)).setCell ⟨g,1,none⟩ (.slice A n c)).setCell ⟨h,0,none⟩ (.bool b')).setCell ⟨h,1,none⟩ (.slice A' n' c')) (.agg #[.bool b',.slice A' n' c']) y ∧
  Ext w ((((w1.setCell ⟨g,0,none⟩ (.bool b)).setCell ⟨g,1,none⟩ (.slice A n c)).setCell ⟨h,0,none⟩ (.bool b')).setCell ⟨h,1,none⟩ (.slice A' n' c')):=by
 have k:=((((KD.refl w1).set_ (i:=0) hn (.bool b)).set_ (i:=1) (hn.set_ rfl) (.slice A n c)).set_ (i:=0) ((hn'.set_ rfl).set_ rfl) (.bool b')).set_ (i:=1) (((hn'.set_ rfl).set_ rfl).set_ rfl) (.slice A' n' c');exact⟨hx.kd k,hy.kd k,(((he.setCell _ _ hg).setCell _ _ hg).setCell _ _ hh).setCell _ _ hh⟩
theorem AO.zero(w:World):AO w (.agg #[.bool false,.slice none 0 0]) 0:=
 ⟨false,[],⟨_,rfl,none,0,rfl,Ac,Aa,Bc.nil,fun h=>by simp at h⟩,rfl,fun h=>absurd rfl h,fun h=>by cases h⟩
theorem euclid{x q r:Int}{M:Nat}(s:Bool)(h0:0≤r)(h1:r < M)(h:x=M*q+r) :
  x / (if s then -(M:Int)else M)=(if s then -q else q)∧x % (if s then -(M:Int)else M)=r:=by
 have hp:(0:Int) < M:=by omega
 have k:=(Int.ediv_emod_unique hp (a:=x) (r:=r) (q:=q)).2 ⟨by rw[h,Int.add_comm],h0,h1⟩;cases s
 ·exact k
 ·simp only[if_true,Int.ediv_neg,Int.emod_neg]
  exact⟨by rw[k.1],k.2⟩
theorem MU{N M:Nat}(s:Bool)(h:0 < M):(N:Int) / (if s then -(M:Int)else M)=(if s then -((N / M:Nat):Int)else(N / M:Nat))∧(N:Int) % (if s then -(M:Int)else M)=(N % M:Nat):=
 euclid s Aa (by have:=Nat.mod_lt N h;omega) (by have:=Nat.div_add_mod N M;rw[←Int.natCast_mul];omega)
theorem LP{N M:Nat}(s:Bool)(h:0 < M)(h0:N % M=0):(-(N:Int)) / (if s then -(M:Int)else M)=(if (!s)then -((N / M:Nat):Int)else(N / M:Nat))∧(-(N:Int)) % (if s then -(M:Int)else M)=(N % M:Nat):=by
 have:=euclid (x:=-(N:Int)) (q:=-((N / M:Nat):Int)) (r:=(N % M:Nat)) (M:=M) s Aa (by have:=Nat.mod_lt N h;omega) (by have:=Nat.div_add_mod N M;rw[Int.mul_neg,←Int.natCast_mul];omega);cases s<;>simpa using this
theorem Ni{N M:Nat}(s:Bool)(h:0 < M)(h0:0 < N % M):(-(N:Int)) / (if s then -(M:Int)else M)=(if (!s)then -((N / M+1:Nat):Int)else(N / M+1:Nat))∧(-(N:Int)) % (if s then -(M:Int)else M)=(M - N % M:Nat):=by
 have hl:=Nat.mod_lt N h;have:=euclid (x:=-(N:Int)) (q:=-((N / M+1:Nat):Int)) (r:=(M - N % M:Nat)) (M:=M) s Aa Aa (by have:=Nat.div_add_mod N M;rw[Int.mul_neg,←Int.natCast_mul,Nat.mul_add];omega);cases s<;>simpa using this
theorem Cr.unit(w:World)(t:TypeId):Cr (w.alloc (.cells #[.int .u32 1] t)) (.slice (some ⟨w.heap.size,0,none⟩) 1 1) 1 1:=by
 have h:BO (w.alloc (.cells #[.int .u32 1] t)) w.heap.size t [1]:=heap_alloc_new w _;exact⟨[1],h.digv Ac Ac Aa,by simp[Ct,BV],Ac⟩
end Go.Hp
namespace Go.Proofs.YtmhgnigpmompmaaGreat
open Go.RowKit Go.Hp
def MZ(x y:Int)(r:Value)(w:World):Prop:=∃ a b,r = .tuple #[a,b,.int .i64 (if y=0 then 5 else 0)]∧AO w a (x / y)∧AO w b (if y=0 then 0 else x % y)
theorem Kn(v u:Value)(x y:Int)(w:World)(hv:Bu w v x)(hu:Bu w u y):Bh 136 #[v,u] w ((MZ x y)):=by
 obtain⟨neg,A,n,c,N,rfl,h1,h2,h3,hN,hx⟩:=hv.form;obtain⟨neg',A',n',c',M,rfl,k1,k2,k3,kN,hy⟩:=hu.form;have HN:=Ad hN;have HM:=Ad kN;clear hN hv hu kN;have hs:sz N≤n:=HN.out.sz;have hs':sz M≤n':=HM.out.sz;have Hxy:=Ad (Ak hx hy);clear hx hy
 go_enter Tryz.func136,Tryz.ntmps136
 go_wp2_with fail
 refine AL (BN _ M n' _ (HM.out.ext (((((Ext.refl w).alloc _).alloc _).alloc _).alloc _))) ?_;rintro r w1 hr hx1;obtain⟨A3,c3,rfl,q1,q2⟩:=hr.form;by_cases hM0:M=0
 ·have hb:(((sz M:Nat):Int)==0)=true:=by subst hM0;rfl
  have Hy:=Ad (show y=0 by rw[Hxy.out.2,hM0];cases neg'<;>rfl);clear Hxy hM0;have hc1:=hx1.cells;have hf1:=hx1.frozens;have Hfin:=Ad (I5 (AO.zero w1) (AO.zero w1) hx1.a4 (AX.at_ hx1.a1 (g:=w.heap.size+1+1) Ac (by simp[Ag])) (AX.at_ hx1 (g:=w.heap.size+1+1+1) Ac (by simp[Ag])) Aa Aa);clear hr;go_wp2;refine bodyPost_ret (v := .tuple #[.agg #[.bool false,.slice none 0 0],.agg #[.bool false,.slice none 0 0],.int .i64 5]) (by simp[results,Tryz.results136,go_sem,hc1]) rfl ?_
  refine Ah.mk ⟨_,_,by rw[Hy.out];rfl,?_,?_⟩ Hfin.out.2.2
  ·rw[Hy.out,Int.ediv_zero];exact Hfin.out.1
  ·rw[Hy.out,if_pos rfl];exact Hfin.out.2.1
 ·have hMp:=DY hM0
  have hb:(((sz M:Nat):Int)==0)=false:=by simp;omega
  have Hr:=Ad hr;clear hr;have H0:=Ad hM0;clear hM0;have hc1:=hx1.cells;have hf1:=hx1.frozens
  go_wp2_with fail
  refine AL (BN _ N n w1 (HN.out.ext hx1.a4)) ?_;rintro r w2 hr hx2;clear hc1 hf1;replace Hr:=Ad (Hr.out.ext hx2);replace hx1:=hx1.trans hx2;clear hx2
  go_wp2_with fail
  refine AL (MF _ _ N M w2 hr Hr.out (by have:=H0.out;omega) Aa Aa) ?_;rintro r2 w3 ⟨a,b,rfl,ha,hb'⟩ hx2;obtain⟨A4,c4,rfl,d1,d2⟩:=hb'.form;replace Hr:=Ad (Hr.out.ext hx2);replace hx1:=hx1.trans hx2;clear hx2 hr;have hc1:=hx1.cells;have hf1:=hx1.frozens;have Hq:=Ad ha;have Hm:=Ad hb';clear ha hb';have HY:=Ad (show y≠0 by have:=H0.out;rw[Hxy.out.2];cases neg'<;>simp<;>omega);cases neg
  ·have HE:=Ad (show x / y=(if neg'=true then -((N / M:Nat):Int)else(N / M:Nat))∧x % y=(if false=true then -((N % M:Nat):Int)else(N % M:Nat)) by
    rw[Hxy.out.1,Hxy.out.2];exact MU neg' (by have:=H0.out;omega))
   go_wp2_with fail
   refine AL (Cz (x / y) neg' _ (N / M) _ w3 HE.out.1 (Hq.out.num (Nat.le_refl _))) ?_;rintro rq w4 hrq hx3;obtain⟨bq,Aq,nq,cq,rfl⟩:=hrq.cells
   go_wp2_with fail
   refine AL (Cz (x % y) false _ (N % M) _ w4 HE.out.2 (Cr.ext (Hm.out.num (Nat.le_refl _)) hx3)) ?_;rintro rr w5 hrr hx4;obtain⟨br,Ar,nr,cr,rfl⟩:=hrr.cells;replace hrq:=hrq.ext hx4;replace hx1:=(hx1.trans hx3).trans hx4;clear hc1 hf1 hx3 hx4;have hc1:=hx1.cells;have hf1:=hx1.frozens;have Hfin:=Ad (I5 hrq hrr hx1.a4 (AX.at_ hx1.a1 (g:=w.heap.size+1+1) Ac (by simp[Ag])) (AX.at_ hx1 (g:=w.heap.size+1+1+1) Ac (by simp[Ag])) Aa Aa)
   clear hrq hrr;go_wp2;refine bodyPost_ret (v := .tuple #[.agg #[.bool bq,.slice Aq nq cq],.agg #[.bool br,.slice Ar nr cr],.int .i64 0]) (by simp[results,Tryz.results136,go_sem,hc1]) rfl ?_;exact Ah.mk ⟨_,_,by rw[if_neg HY.out],Hfin.out.1,by rw[if_neg HY.out];exact Hfin.out.2.1⟩ Hfin.out.2.2
  ·by_cases hr0:N % M=0
   ·have HE:=Ad (show x / y=(if (!neg')=true then -((N / M:Nat):Int)else(N / M:Nat))∧x % y=(if false=true then -((N % M:Nat):Int)else(N % M:Nat)) by
     rw[Hxy.out.1,Hxy.out.2];exact LP neg' (by have:=H0.out;omega) hr0)
    have hb2:decide (0 < sz (N % M))=false:=by rw[hr0];rfl
    clear hr0
    go_wp2_with fail
    refine AL (Cz (x / y) (!neg') _ (N / M) _ w3 HE.out.1 (Hq.out.num (Nat.le_refl _))) ?_;rintro rq w4 hrq hx3;obtain⟨bq,Aq,nq,cq,rfl⟩:=hrq.cells
    go_wp2_with fail
    refine AL (Cz (x % y) false _ (N % M) _ w4 HE.out.2 (Cr.ext (Hm.out.num (Nat.le_refl _)) hx3)) ?_;rintro rr w5 hrr hx4;obtain⟨br,Ar,nr,cr,rfl⟩:=hrr.cells;replace hrq:=hrq.ext hx4;replace hx1:=(hx1.trans hx3).trans hx4;clear hc1 hf1 hx3 hx4;have hc1:=hx1.cells;have hf1:=hx1.frozens;have Hfin:=Ad (I5 hrq hrr hx1.a4 (AX.at_ hx1.a1 (g:=w.heap.size+1+1) Ac (by simp[Ag])) (AX.at_ hx1 (g:=w.heap.size+1+1+1) Ac (by simp[Ag])) Aa Aa)
    clear hrq hrr;go_wp2;refine bodyPost_ret (v := .tuple #[.agg #[.bool bq,.slice Aq nq cq],.agg #[.bool br,.slice Ar nr cr],.int .i64 0]) (by simp[results,Tryz.results136,go_sem,hc1]) rfl ?_;exact Ah.mk ⟨_,_,by rw[if_neg HY.out],Hfin.out.1,by rw[if_neg HY.out];exact Hfin.out.2.1⟩ Hfin.out.2.2
   ·have HE:=Ad (show x / y=(if (!neg')=true then -((N / M+1:Nat):Int)else(N / M+1:Nat))∧x % y=(if false=true then -((M - N % M:Nat):Int)else(M - N % M:Nat)) by
     rw[Hxy.out.1,Hxy.out.2];exact Ni neg' (by have:=H0.out;omega) Aa)
    have hb2:decide (0 < sz (N % M))=true:=by have:=DY hr0;simpa using this
    clear hr0;have hsq:sz (N / M)≤sz N:=Bp (Nat.div_le_self _ _)
    go_wp2_with fail
    refine AL (QL _ _ (N / M) 1 (sz N) 1 _ ((Hq.out.ext ((Ext.refl w3).alloc _)).num hsq) (Cr.unit _ _) Aa Aa) ?_;rintro r4 w4 hr4 hx4;replace Hr:=Ad (Hr.out.ext hx4.a1);replace Hm:=Ad (Hm.out.ext hx4.a1);replace hx1:=hx1.trans hx4.a1;clear hc1 hf1 hx4 hb2 Hq;have hc1:=hx1.cells;have hf1:=hx1.frozens
    go_wp2_with fail
    refine AL (Nq _ _ M (N % M) w4 Hr.out Hm.out (Nat.le_of_lt (Nat.mod_lt _ (by have:=H0.out;omega))) Aa) ?_;rintro r5 w5 hr5 hx5;replace hr4:=hr4.ext hx5;replace hx1:=hx1.trans hx5;clear hc1 hf1 hx5 Hr Hm;have hc1:=hx1.cells;have hf1:=hx1.frozens;have Hr4:=Ad hr4;have Hr5:=Ad hr5;clear hr4 hr5
    go_wp2_with fail
    refine AL (Cz (x / y) (!neg') _ (N / M+1) _ w5 HE.out.1 Hr4.out) ?_;rintro rq w6 hrq hx3;obtain⟨bq,Aq,nq,cq,rfl⟩:=hrq.cells
    go_wp2_with fail
    refine AL (Cz (x % y) false _ (M - N % M) _ w6 HE.out.2 (Cr.ext Hr5.out hx3)) ?_;rintro rr w7 hrr hx4;obtain⟨br,Ar,nr,cr,rfl⟩:=hrr.cells;replace hrq:=hrq.ext hx4;replace hx1:=(hx1.trans hx3).trans hx4;clear hc1 hf1 hx3 hx4;have hc1:=hx1.cells;have hf1:=hx1.frozens;have Hfin:=Ad (I5 hrq hrr hx1.a4 (AX.at_ hx1.a1 (g:=w.heap.size+1+1) Ac (by simp[Ag])) (AX.at_ hx1 (g:=w.heap.size+1+1+1) Ac (by simp[Ag])) Aa Aa)
    clear hrq hrr;go_wp2;refine bodyPost_ret (v := .tuple #[.agg #[.bool bq,.slice Aq nq cq],.agg #[.bool br,.slice Ar nr cr],.int .i64 0]) (by simp[results,Tryz.results136,go_sem,hc1]) rfl ?_;exact Ah.mk ⟨_,_,by rw[if_neg HY.out],Hfin.out.1,by rw[if_neg HY.out];exact Hfin.out.2.1⟩ Hfin.out.2.2
end Go.Proofs.YtmhgnigpmompmaaGreat
namespace Go.Hp
open Go.RowKit
theorem BJ.uniq{w:World}{v:Value}{ds es:List Nat}(h:BJ w v ds)(k:BJ w v es):ds=es:=by
 obtain⟨A,c,rfl,h1,_,h2⟩:=h;obtain⟨A',c',he,k1,_,k2⟩:=k;have hl:ds.length=es.length:=by have:=congrArg (fun v=>match v with | Value.slice _ n _=>n | _=>0) he;simpa using this
 obtain rfl:A=A':=by have:=congrArg (fun v=>match v with | Value.slice p _ _=>p | _=>none) he;simpa using this
 apply List.ext_getElem hl
 intro i hi hi';obtain⟨a,rfl,ha⟩:=h2.2 Aa;obtain⟨b,hb,hb'⟩:=k2.2 Aa;cases hb;have h1:=ha i hi;have h2:=hb' i hi';rw[h1]at h2;simp only[Option.some.injEq,Value.int.injEq,true_and]at h2;omega
theorem BA.uniq{w:World}{v:Value}{n m:Nat}(h:BA w v n)(k:BA w v m):n=m:=by
 obtain⟨ds,h1,rfl,_⟩:=h;obtain⟨es,k1,rfl,_⟩:=k;rw[h1.uniq k1]
open Classical in
/-- The number that a value reads as. -/
noncomputable def Uf(v:Value)(w:World):Nat:=if h:∃ n,BA w v n then h.choose else 0
theorem MW{w:World}{v:Value}{n:Nat}(h:BA w v n):Uf v w=n:=by
 unfold Uf;rw[dif_pos ⟨n,h⟩];exact BA.uniq (Exists.choose_spec (p:=fun n=>BA w v n) ⟨n,h⟩) h
end Go.Hp
namespace Go.Proofs.YtmhgnigpmompmaaGreat
open Go.RowKit Go.Hp
theorem KC(a b:Nat):Nat.gcd b (a % b)=Nat.gcd a b:=by rw[Nat.gcd_comm a b,Nat.gcd_rec b a,Nat.gcd_comm]
theorem Sa(v u:Value)(N M:Nat)(w:World)(hv:BA w v N)(hu:BA w u M)(hN:sz N≤1099511627776)(hM:sz M≤1099511627776) :
  Bh 143 #[v,u] w (fun r w'=>BA w' r (Nat.gcd N M)):=by
 have Hv:=Ad hv;have Hu:=Ad hu;clear hv hu;obtain⟨G,hG⟩:∃ G,G=Nat.gcd N M:=⟨_,rfl⟩
 rw[←hG];have HG:=Ad hG;clear hG
 go_enter Tryz.func143,Tryz.ntmps143
 go_wp2
 go_loopw [0,1] (fun av bv wr=>∃ A B:Nat,BA wr av A∧BA wr bv B∧Nat.gcd A B=G∧sz A≤1099511627776∧sz B≤1099511627776∧Ext w wr) (fun _ bv wr=>Uf bv wr)
 case atStart=>exact⟨N,M,Hv.out,Hu.out,HG.out.symm,hN,hM,Ext.refl _⟩
 case round =>
  obtain⟨A,B,hA,hB,hAB,h1,h2,hx⟩:=hrel;have HA:=Ad hA;have HB:=Ad hB;have HAB:=Ad hAB;obtain⟨p,c,rfl,_,_⟩:=hA.form;obtain⟨p',c',rfl,_,_⟩:=hB.form;clear hA hB hAB;by_cases hB0:B=0
  ·have hb:decide (0 < sz B)=false:=by rw[hB0];rfl
   have H0:=Ad hB0;clear hB0
   go_wp2_with fail
   refine AL (Jf _ A _ HA.out Aa) ?_;rintro r w1 hr hx1;go_wp2
   go_ret
   have:=HAB.out;rw[H0.out,Nat.gcd_zero_right]at this;exact Ah.mk (this▸hr) (hx.trans hx1)
  ·have hb:decide (0 < sz B)=true:=by have:=DY hB0;simpa using this
   have H0:=Ad hB0;clear hB0;by_cases hsm:sz A≤2∧sz B≤2
   ·have hb1:decide (((sz A:Nat):Int)≤2)=true:=by have:=hsm.1;simp;omega
    have hb2:decide (((sz B:Nat):Int)≤2)=true:=by have:=hsm.2;simp;omega
    have hA64:A < 18446744073709551616:=by have:=EU.1 hsm.1;rwa[IQ]at this
    have hB64:B < 18446744073709551616:=by have:=EU.1 hsm.2;rwa[IQ]at this
    clear hsm
    go_wp2_with fail
    refine AL (R3 _ A _ HA.out hA64) ?_;rintro r w1 rfl hx1
    go_wp2_with fail
    refine AL (R3 _ B _ (HB.out.ext hx1) hB64) ?_;rintro r w2 rfl hx2;replace hx:=(hx.trans hx1).trans hx2;clear hx1 hx2;go_wp2
    go_loopw [5,6] (fun av bv wx=>∃ A' B':Nat,av = .int .u64 A'∧bv = .int .u64 B'∧Nat.gcd A' B'=G∧A' < 18446744073709551616∧B' < 18446744073709551616∧Ext w wx) (fun _ bv _=>(intOf bv).toNat)
    case atStart=>exact⟨A,B,rfl,rfl,HAB.out,hA64,hB64,hx⟩
    case round =>
     obtain⟨A',B',rfl,rfl,hg,k1,k2,hx'⟩:=hrel;have Hg:=Ad hg;clear hg;by_cases hB0:B'=0
     ·subst hB0
      go_wp2_with fail
      refine AL (Mo A' _ rfl _ k1) ?_;rintro r w3 hr hx3;go_wp2
      go_ret
      have:=Hg.out;rw[Nat.gcd_zero_right]at this;exact Ah.mk (this▸hr) (hx'.trans hx3)
     ·have hp:(1:Int)≤B':=by omega
      have hb:((B':Int) != 0)=true:=by simp;omega
      go_wp2
      go_quiet (fail)
      go_wp2
      go_roundw
      case rel=>exact⟨B',A' % B',Ac,Ac,by rw[KC,Hg.out],k2,by have:=Nat.mod_lt A' (show 0 < B' by omega);omega,hx'.drewN _⟩
      case measure =>
       have:=Nat.mod_lt A' (show 0 < B' by omega);simp only[intOf,Array.getD,Int.toNat_natCast]<;>simp<;>omega
   ·have hb1:decide (((sz A:Nat):Int)≤2)=false∨(decide (((sz A:Nat):Int)≤2)=true∧decide (((sz B:Nat):Int)≤2)=false):=by
     by_cases q:sz A≤2
     ·right;simp;omega
     ·left;simp;omega
    clear hsm;rcases hb1 with hb1 | ⟨hb1,hb2⟩
    all_goals
     go_wp2_with fail
     refine AL (MF _ _ A B wr HA.out HB.out (by have:=H0.out;omega) Aa Aa) ?_;rintro r w1 ⟨q,m,rfl,hq,hm⟩ hx1;have hlt:=Nat.mod_lt A (show 0 < B by have:=H0.out;omega);have hm1:=MW hm;have hb1:=MW HB.out;have hsz:=Bp (Nat.le_of_lt hlt);have Hm:=Ad hm;clear hm;go_wp2
     go_roundw
     case rel=>exact⟨B,A % B,HB.out.ext hx1,Hm.out,by rw[KC,HAB.out],h2,Aa,hx.trans hx1⟩
     case measure=>simpa[hm1,hb1] using hlt
def KT(B:Nat)(w:World)(v:Value)(ds:List Nat):Prop:=BJ w v ds∧(0 < ds.length→∀ a n c,v = .slice (some a) n c→a.block≠B)
theorem KT.ext{B:Nat}{w w':World}{v:Value}{ds:List Nat}(h:KT B w v ds)(e:Ext w w'):KT B w' v ds:=⟨h.1.ext e,h.2⟩
theorem KT.of_own{B base:Nat}{w:World}{v:Value}{ds:List Nat}(h:Sg base w v ds)(hb:B < base):KT B w v ds:=⟨h.1,fun h0 a n c e=>by have:=h.2 h0 a n c e;omega⟩
theorem KT.of_old{B:Nat}{w:World}{v:Value}{ds:List Nat}(h:BJ w v ds)(hb:w.heap.size≤B):KT B w v ds:=⟨h,fun h0 a n c e=>by
 obtain⟨A,c',e',_,_,_,hA⟩:=h;obtain⟨a',ha,hc⟩:=hA h0;rw[e']at e;simp only[Value.slice.injEq]at e;rw[ha]at e;simp only[Option.some.injEq]at e;have hlt:=hc 0 h0;have:(a'.add 0).block < w.heap.size:=by
  rcases Nat.lt_or_ge (a'.add 0).block w.heap.size with h | h
  ·exact h
  ·unfold World.cell? at hlt
   rw[Array.getElem?_eq_none h]at hlt;cases hlt
 have e2:(a'.add 0).block=a'.block:=rfl;rw[←e.1];omega⟩
theorem KT.set_{B:Nat}{w:World}{v:Value}{ds:List Nat}(h:KT B w v ds)(i:Nat)(u:Value):KT B (w.setCell ⟨B,i,none⟩ u) v ds:=⟨by
 obtain⟨A,c,e,h1,h2,hd,hA⟩:=h.1;refine⟨A,c,e,h1,h2,hd,fun h0=>?_⟩;obtain⟨a,ha,hc⟩:=hA h0;have hne:=h.2 h0 a _ _ (by rw[e,ha]);refine⟨a,ha,fun j hj=>?_⟩;have hb:(w.setCell ⟨B,i,none⟩ u).heap[(a.add j).block]? = w.heap[(a.add j).block]? := Below.heap_setCell w ⟨B,i,none⟩ u _ (by
  have e2:(a.add j).block=a.block:=by unfold Addr.add;split<;>rfl
  rw[e2];exact hne)
 have h3:=hc j hj;unfold World.cell? at h3 ⊢;rw[hb];exact h3,h.2⟩
theorem Vd{l:List Nat}{t z p:Nat}(hd:Bc l)(hz:z < l.length)(hp:p < 32)(h:nv l=2^(32*z+p+1)*t):dg l z+2^p < 4294967296∧nv (l.set z (dg l z+2^p))=nv l+2^(32*z+p):=by
 have e1:=Eb l z Aa;have e2:=Dm hz;rw[←Dn hz]at e2;have hb:=Ee (Bc.take hd z);have hlen:(l.take z).length=z:=by rw[List.length_take];omega
 rw[hlen]at hb;have hx:=Ba hd z;have hs:=Na (l:=l) (p:=z) (d:=dg l z+2^p) hz;generalize hxx:dg l z=x at *;rw[e2]at e1;generalize nv (l.drop (z+1))=y at *;have hpw:2^(32*z+p+1)=bp z*(2*2^p):=by rw[Cw,Nat.pow_succ,Nat.pow_add,Nat.mul_assoc,Nat.mul_comm (2^p) 2]
 obtain⟨q,hq⟩:∃ q,4294967296=2*2^p*q:=⟨2^(31 - p),by rw[Nat.mul_assoc,←Nat.pow_add,show p+(31 - p)=31 by omega]⟩
 have hP:=Nat.two_pow_pos p;have hB:=I8 z;rw[hpw,Nat.mul_assoc,e1]at h;have hx2:∃ r,x=2*2^p*r:=by
  generalize 2*2^p=P at *;have hlow:nv (l.take z)=0:=by
   have h1:bp z∣nv (l.take z):=(Nat.dvd_add_iff_left (Nat.dvd_mul_right _ _)).2 (by rw[h];exact Nat.dvd_mul_right _ _);exact Nat.eq_zero_of_dvd_of_lt h1 hb
  rw[hlow,Nat.zero_add]at h;have h2:=Nat.eq_of_mul_eq_mul_left hB h;have h3:P∣x:=⟨t - q*y,by rw[Nat.mul_sub,←h2,hq,Nat.mul_assoc,Nat.add_sub_cancel]⟩
  exact h3
 obtain⟨r,hr⟩:=hx2;constructor
 ·generalize hPP:2^p=P at *
  have h4:r < q:=by
   rcases Nat.lt_or_ge r q with h | h
   ·exact h
   ·have:=Nat.mul_le_mul_left (2*P) h
    omega
  have h5:2*P*(r+1)≤2*P*q:=Nat.mul_le_mul_left _ h4;rw[Nat.mul_add,Nat.mul_one]at h5;omega
 ·have e3:2^(32*z+p)=bp z*2^p:=by rw[Cw,Nat.pow_add]
  rw[e3];rw[Nat.mul_add]at hs;omega
theorem TS(v:Value)(A:Option Addr)(n c N:Nat)(w:World)(hv:v = .slice A n c)(h:BA w v N)(hs:sz N≤1099511627776):Bh 46 #[.agg #[.bool false,.slice A n c]] w (fun r _=>∃ b:Nat,r = .int .i64 b∧BL N b):=by
 obtain⟨ds,hd,hN,ht,hl⟩:=h.len;have:=WH (.agg #[.bool false,.slice A n c]) N w ⟨false,ds,⟨v,by rw[hv],hd⟩,by unfold iv;rw[hN];rfl,Aa⟩;simpa using this
theorem J6(v:Value)(N:Nat)(w:World)(h:BA w v N)(hn:sz N≤2):Bh 154 #[v] w (fun r _=>r = .int .u64 (N:Nat)):=by
 obtain⟨ds,hd,rfl,ht,hl⟩:=h.len;exact bX v ds w hd Aa
theorem QD(z:Int)(N:Nat)(w:World)(hz:z=(N:Nat))(hN:N < 18446744073709551616):Bh 155 #[.int .u64 z] w (fun r w'=>BA w' r N):=by
 subst hz;exact UC N w hN
theorem Si(v:Value)(N s:Nat)(w:World)(h:BA w v N)(hs:s≤70368744177664)(hn:sz N≤2199023255552) :
  Bh 191 #[v,.int .i64 (s:Nat)] w (fun r w'=>BA w' r (N*2^s)):=by
 obtain⟨ds,hd,rfl,ht,hl⟩:=h.len;exact UR v ds s w hd hs Aa
theorem XX(v:Value)(N l:Nat)(w:World)(h:Cr w v N l)(hl:l≤8796093022208):Bh 97 #[v] w (fun r w'=>∃ rs,Sg w.heap.size w' r rs∧nv rs=N∧Jm rs):=by
 obtain⟨ds,h1,rfl,h3⟩:=h;exact Ah.imp (Qr v ds w h1 Aa) fun _ _ h=>⟨_,h,Gb ds,FR ds⟩
theorem VB(v u:Value)(N M:Nat)(w:World)(hv:BA w v N)(hu:BA w u M)(hM:M≠0)(sN:sz N≤1099511627776)(sM:sz M≤1099511627776) :
  Bh 177 #[v,u] w (fun e w'=>∃ q r,e = .tuple #[q,r]∧Cr w' q (N / M) (sz N+1)∧BA w' r (N % M)):=by
 have HV:=Ad hv;have HU:=Ad hu;obtain⟨ds,hd,hN,ht,hl⟩:=hv.len;obtain⟨es,he,hM',ht',hl'⟩:=hu.len;have hd':=hd;obtain⟨A,p1,rfl,hl1,hc1,hA⟩:=hd;obtain⟨E,p2,rfl,hl2,hc2,hE⟩:=he;have HT:=Ad (Ak hd' (Ak hN ht));rw[←hl]at sN;rw[←hl']at sM;have HL:=Ad (Ak hl hl');clear hv hu hA hE ht ht' hl hl' hN hM' hd';have hM0:(M:Int)≠0:=by omega
 have hM1:0 < M:=by omega
 by_cases hsm:ds.length≤2∧es.length≤2
 ·obtain⟨s1,s2⟩:=hsm
  have b1:N < 18446744073709551616:=by
   have h1:=CF N;have h2:bp (sz N)≤bp 2:=FY (by rw[←HL.out.1];exact s1);rw[IQ]at h2;omega
  have b3:N / M < 18446744073709551616:=Nat.lt_of_le_of_lt (Nat.div_le_self _ _) b1;have b4:N % M < 18446744073709551616:=Nat.lt_of_le_of_lt (Nat.mod_le _ _) b1
  go_enter Tryz.func177,Tryz.ntmps177
  go_wp2_with fail
  refine AL (J6 _ N _ HV.out (by rw[←HL.out.1];exact s1)) ?_;rintro r w1 rfl hx1
  go_wp2_with fail
  refine AL (J6 _ M _ (HU.out.ext hx1) (by rw[←HL.out.2];exact s2)) ?_;rintro r w2 rfl hx2;replace hx1:=hx1.trans hx2;clear hx2
  go_wp2_with fail
  refine AL (QD _ (N / M) _ (by rw[show(N:Int) / M=((N / M:Nat):Int) by simp];generalize N / M=Z at *;rw[IntKind.wrap_u64];omega) b3) ?_;rintro r w3 hq hx2;replace hx1:=hx1.trans hx2;clear hx2
  go_wp2_with fail
  refine AL (J6 _ N _ (HV.out.ext hx1) (by rw[←HL.out.1];exact s1)) ?_;rintro r w4 rfl hx2;replace hq:=hq.ext hx2;replace hx1:=hx1.trans hx2;clear hx2
  go_wp2_with fail
  refine AL (J6 _ M _ (HU.out.ext hx1) (by rw[←HL.out.2];exact s2)) ?_;rintro r w5 rfl hx2;replace hq:=hq.ext hx2;replace hx1:=hx1.trans hx2;clear hx2
  go_wp2_with fail
  refine AL (QD _ (N % M) _ Ac b4) ?_;rintro r w6 hr hx2;replace hq:=hq.ext hx2;replace hx1:=hx1.trans hx2;clear hx2;go_wp2
  go_ret2
  exact Ah.mk ⟨_,_,rfl,hq.num (Nat.le_trans (Bp (Nat.div_le_self N M)) (Nat.le_succ _)),hr⟩ hx1
 ·have hcase:2 < ds.length∨(ds.length≤2∧2 < es.length):=by omega
  clear hsm;rcases hcase with hcase | ⟨hcase,hcase2⟩
  all_goals
   go_enter Tryz.func177,Tryz.ntmps177
   go_wp2_with fail
   refine AL (TS _ _ _ _ N _ rfl HV.out (by rw[←HL.out.1];exact sN)) ?_;rintro r w1 ⟨ba,rfl,hba⟩ hx1;have a1:ba≤32*ds.length:=by
    have h1:=CF N;rw[Cw]at h1;have:=hba.le h1;rw[←HL.out.1]at this;omega
   go_wp2_with fail
   refine AL (TS _ _ _ _ M _ rfl (HU.out.ext hx1) (by rw[←HL.out.2];exact sM)) ?_;rintro r w2 ⟨bb,rfl,hbb⟩ hx2;have a2:bb≤35184372088832:=by
    have h1:=CF M;rw[Cw]at h1;have:=hbb.le h1;rw[←HL.out.2]at this;omega
   replace hx1:=hx1.trans hx2;clear hx2;have HB:=Ad (Ak hba hbb);clear hba hbb;by_cases hlt:ba < bb
   ·have hNM:N < M:=by
     have h1:=HB.out.1.1;have h2:=HB.out.2.2 Aa;have h3:2^ba≤2^(bb - 1):=Nat.pow_le_pow_right Ab Aa;omega
    have H1:=Ad (Ak (Nat.div_eq_of_lt hNM) (Nat.mod_eq_of_lt hNM));clear hNM;go_wp2
    go_ret2
    refine Ah.mk ⟨_,_,rfl,?_,?_⟩ hx1
    ·rw[H1.out.1];exact⟨[],⟨none,0,rfl,Nat.le_refl _,Aa,Bc.nil,fun h=>absurd h Ac⟩,rfl,Ac⟩
    ·rw[H1.out.2];exact HV.out.ext hx1
   ·obtain⟨n,hn⟩:∃ n,ba=bb+n:=⟨ba - bb,Aa⟩
    have hn1:(ba:Int) - bb=n:=by omega
    have hn2:n≤32*ds.length:=by omega
    have hmk:=fun W=>Du (n / 32+1) ((n:Int) / 32+1) Aa Aa W;have Hn:=Ad hn;clear hn hlt a1 a2;go_wp2
    go_loopw [6,9] (fun rv iv wr=>∃ (k R:Nat) (rs l:List Nat),k≤n+1∧(∃ q:Int,q+1=k∧iv = .int .i64 q)∧KT w2.heap.size wr rv rs∧nv rs=R∧Jm rs∧BO wr w2.heap.size 113 l∧Bc l∧l.length=n / 32+1∧nv l*M+R=N∧R < M*2^k∧(∃ t,nv l=2^k*t)∧Ext w2 wr) (fun _ iv _=>(intOf iv+1).toNat)
    case atStart =>
     refine⟨n+1,N,ds,_,Nat.le_refl _,⟨_,Aa,rfl⟩,(KT.of_old (HT.out.1.ext hx1) (Nat.le_refl _)).ext ((Ext.refl w2).alloc _),HT.out.2.1,HT.out.2.2,BO.new _ _ _,Bc.zeros _,List.length_replicate,by rw[IK];omega,?_,⟨0,by rw[IK];rfl⟩,(Ext.refl w2).alloc _⟩
     ·have h1:=HB.out.1.1
      have h2:bb=0∨2^(bb - 1)≤M:=by
       rcases Nat.eq_zero_or_pos bb with h | h
       ·exact .inl h
       ·exact .inr (HB.out.2.2 h)
      rcases h2 with h2 | h2
      ·have:=HB.out.2.1;rw[h2]at this;omega
      ·have hb0:bb≠0:=by rintro rfl;have:=HB.out.2.1;omega
       have h3:2^(bb - 1)*2^(n+1)≤M*2^(n+1):=Nat.mul_le_mul_right _ h2;rw[←Nat.pow_add,show bb - 1+(n+1)=ba by have:=Hn.out;omega]at h3;omega
    case round =>
     obtain⟨k,R,rs,l,hk,⟨q,hq,rfl⟩,hrf,hrv,hrt,hblk,hdl,hll,hval,hlt,ht,hx⟩:=hrel;obtain⟨A1,c1,rfl,r1,r2,-⟩:=hrf.1;have Hr:=Ad (Ak hrf (Ak hrv hrt));clear hrf hrv hrt;have Hv:=Ad (Ak hval (Ak hlt ht));clear hval hlt ht;have hRN:R≤N:=by have:=Hv.out.1;omega
     by_cases hk0:0 < k
     ·obtain⟨i,rfl⟩:∃ j,k=j+1:=⟨k - 1,Aa⟩
      obtain rfl:q=(i:Int):=by omega
      clear hq
      go_wp2_with fail
      refine AL (Si _ M i _ (HU.out.ext (hx1.trans hx)) Aa (by rw[←HL.out.2];omega)) ?_;rintro r w3 hs hx3;have hrn:BA w3 (.slice A1 rs.length c1) R:=⟨rs,Hr.out.1.1.ext hx3,Hr.out.2.1,Hr.out.2.2⟩
      go_wp2_with fail
      refine AL (Ob _ _ R (M*2^i) _ hrn hs) ?_;rintro r w4 rfl hx4;by_cases hcmp:R < M*2^i
      ·have hb:decide (R < M*2^i)=true:=by simpa using hcmp
       have Hc:=Ad hcmp;clear hcmp;go_wp2
       go_roundw
       case rel=>exact⟨i,R,rs,l,Aa,⟨_,Aa,rfl⟩,(Hr.out.1.ext hx3).ext hx4,Hr.out.2.1,Hr.out.2.2,(hblk.ext hx3).ext hx4,hdl,hll,Hv.out.1,Hc.out,by
        obtain⟨t,ht⟩:=Hv.out.2.2;exact⟨2*t,by rw[ht,Nat.pow_succ,Nat.mul_assoc]⟩,(hx.trans hx3).trans hx4⟩
       case measure=>simp[intOf]<;>omega
      ·have hb:decide (R < M*2^i)=false:=by simpa using hcmp
       have Hc:=Ad hcmp;clear hcmp
       go_wp2_with fail
       refine AL (NK _ _ R (M*2^i) _ (hrn.ext hx4) (hs.ext hx4) (by have:=Hc.out;omega) (Nat.le_trans (Bp hRN) (by rw[←HL.out.1];exact sN))) ?_;rintro r5 w5 hd5 hx5
       go_wp2_with fail
       refine AL (XX _ _ _ _ hd5 (Nat.le_trans (Bp hRN) (by rw[←HL.out.1];omega))) ?_;rintro r6 w6 ⟨rs',ho6,hv6,ht6⟩ hx6;have hf6:KT w2.heap.size w6 r6 rs':=KT.of_own ho6 (by have:=((hx.trans hx3).trans (hx4.trans hx5)).size;have:=hblk.lt;have:=((hx3.trans hx4).trans hx5).size;omega);have hx7:Ext wr w6:=(((hx3.trans hx4).trans hx5).trans hx6)
       replace hblk:=hblk.ext hx7;replace hx:=hx.trans hx7;have H6:=Ad (Ak hf6 (Ak hv6 ht6));clear hf6 hv6 ht6 ho6 hd5 hs hrn hx3 hx4 hx5 hx6 hx7;obtain⟨z,hz⟩:∃ z,z=i / 32:=⟨_,rfl⟩
       obtain⟨p,hp⟩:∃ p,p=i % 32:=⟨_,rfl⟩
       have hp32:p < 32:=by omega
       have hzl:z < l.length:=by omega
       have e1:(i:Int) / 32=z:=by omega
       have e2:(i:Int) % 32=p:=by omega
       have ei:i=32*z+p:=by omega
       obtain⟨S,hS⟩:∃ S,2^p=S:=⟨_,rfl⟩
       have hSi:(2:Int)^p=(S:Nat):=by rw[←hS];simp
       have hS1:S≤2147483648:=by rw[←hS];exact Nat.pow_le_pow_right Ab (show p≤31 by omega)
       have hlow:dg l z+S < 4294967296∧nv (l.set z (dg l z+S))=nv l+2^i:=by
        obtain⟨t,ht⟩:=Hv.out.2.2;have:=Vd hdl hzl hp32 (t:=t) (by rw[ht,ei]);rw[ei];rw[hS]at this;exact this
       have hmc:=hblk.celld (i:=z) hzl;have hfz:=hblk.frozen z;generalize hdd:dg l z=d at *;have hd1:=hlow.1;have Hlow:=Ad hlow;clear hlow hdd;have Hi:=Ad (Ak hz (Ak hp (Ak ei hS)));clear hz hp ei hS;go_wp2
       go_roundw
       case rel =>
        refine⟨i,R - M*2^i,rs',l.set z (d+S),Aa,⟨_,Aa,rfl⟩,H6.out.1.set_ _ _,H6.out.2.1,H6.out.2.2,hblk.setI _ _ Aa,hdl.set Aa _,by simpa using hll,?_,?_,?_,hx.setCell _ _ (Nat.le_refl _)⟩
        ·rw[Hlow.out.2,Nat.add_mul,Nat.mul_comm (2^i) M]
         have:=Hv.out.1;have:=Hc.out;omega
        ·have h1:=Hv.out.2.1
         rw[Nat.pow_succ,←Nat.mul_assoc]at h1;have:=Hc.out;omega
        ·obtain⟨t,ht⟩:=Hv.out.2.2
         exact⟨2*t+1,by rw[Hlow.out.2,ht,Nat.pow_succ,Nat.mul_add,Nat.mul_one,Nat.mul_assoc]⟩
       case measure=>simp[intOf]<;>omega
     ·obtain rfl:k=0:=by omega
      have q1:q < 0:=by omega
      have hlt:=Hv.out.2.1;rw[Nat.pow_zero,Nat.mul_one]at hlt;have hdv:N / M=nv l∧N % M=R:=by
       have h1:=Hv.out.1;rw[←h1,Nat.add_comm,Nat.mul_comm];exact⟨by rw[Nat.add_mul_div_left _ _ hM1,Nat.div_eq_of_lt hlt,Nat.zero_add],by rw[Nat.add_mul_mod_self_left,Nat.mod_eq_of_lt hlt]⟩
      have Hd:=Ad hdv;clear hdv hlt;go_wp2
      go_ret2
      have hq:=hblk.digv hdl (c:=n / 32+1) Aa Aa;rw[hll]at hq;exact Ah.mk ⟨_,_,rfl,⟨l,hq,Hd.out.1.symm,by rw[←HL.out.1];omega⟩,⟨rs,Hr.out.1.1,by rw[Hd.out.2];exact Hr.out.2.1,Hr.out.2.2⟩⟩ (hx1.trans hx)
def jJ(x y:Int)(r:Value)(w:World):Prop:=∃ a b,r = .tuple #[a,b]∧AO w a (x / y)∧AO w b (x % y)
theorem VR{x y:Int}(hy:y≠0)(h:¬ (x < 0∧x.natAbs % y.natAbs≠0)):x / y=(if (decide (x < 0) != decide (y < 0))=true then -((x.natAbs / y.natAbs:Nat):Int)else(x.natAbs / y.natAbs:Nat))∧x % y=(x.natAbs % y.natAbs:Nat):=by
 have hM:0 < y.natAbs:=by omega
 have ey:y=if decide (y < 0)=true then -(y.natAbs:Int)else y.natAbs:=by by_cases h:y < 0<;>simp[h]<;>omega
 by_cases hx:x < 0
 ·have e0:x.natAbs % y.natAbs=0:=Decidable.byContradiction fun e=>h ⟨hx,e⟩
  have ex:x = -(x.natAbs:Int):=by omega
  have:=LP (decide (y < 0)) hM e0;rw[←ey,←ex]at this;simpa[hx] using this
 ·have ex:x=(x.natAbs:Int):=by omega
  have:=MU (N:=x.natAbs) (decide (y < 0)) hM;rw[←ey,←ex]at this;simpa[hx] using this
theorem bJ{x y:Int}(hy:y≠0)(hx:x < 0)(h:0 < x.natAbs % y.natAbs):x / y=(if (!decide (y < 0))=true then -((x.natAbs / y.natAbs+1:Nat):Int)else(x.natAbs / y.natAbs+1:Nat))∧x % y=(y.natAbs:Int) - (x.natAbs % y.natAbs:Nat):=by
 have hM:0 < y.natAbs:=by omega
 have ey:y=if decide (y < 0)=true then -(y.natAbs:Int)else y.natAbs:=by by_cases h:y < 0<;>simp[h]<;>omega
 have ex:x = -(x.natAbs:Int):=by omega
 have:=Ni (decide (y < 0)) hM h;rw[←ey,←ex]at this;have h2:=Nat.mod_lt x.natAbs hM;exact⟨this.1,by rw[this.2];omega⟩
theorem Nr(v u:Value)(x y:Int)(w:World)(hv:Bu w v x)(hu:Bu w u y)(hy:y≠0)(sx:sz x.natAbs≤549755813888)(sy:sz y.natAbs≤549755813888):Bh 150 #[v,u] w ((jJ x y)):=by
 have HV:=Ad hv;have HU:=Ad hu;have HY:=Ad hy;obtain⟨neg,A,n,c,N,rfl,-,-,-,-,-⟩:=hv.form;obtain⟨neg',A',n',c',M,rfl,-,-,-,-,-⟩:=hu.form;clear hv hu hy
 go_enter Tryz.func150,Tryz.ntmps150
 go_wp2_with fail
 refine CU 6 [11,12,13,14,6,7] [[],[0],[],[0,1,2],[],[],[0,1,2,3,4,5],[0,1,2,3,4,5,6]] [2,3] [_,_] [(kv ?_),(fun γ=>γ 1),(kv ?_),(fun γ=>γ 3),(fun γ=>γ 4),(fun γ=>γ 5)] (fun γ w'=>[True,AO w' (γ 1) x,True,AO w' (γ 3) y,AZ w' (γ 4) (w.heap.size+4) #[.bool false,.slice none 0 0] 26,AZ w' (γ 5) (w.heap.size+4) #[.bool false,.slice none 0 0] 26]) Bn Aj Aj Bo Aj Bl Br ?hstep1 ?_
 case hstep1 =>
  iterate 6 refine⟨?_,?_⟩
  trivial
  iterate 1 focus
   intro γ w' he hf;clear hf;refine⟨by trivial,?_⟩;intro R hR;have hc:=he.cells;go_simp;refine hR _ _ (Ext.refl _) ?_ trivial;rfl
  ·intro γ w' he hf;clear hf;refine⟨trivial,?_⟩;intro R hR
   go_simp;exact Bd (EN _ x w' (HV.out.ext he.a4)) hR
  iterate 1 focus
   intro γ w' he hf;clear hf;refine⟨by trivial,?_⟩;intro R hR;have hc:=he.cells;go_simp;refine hR _ _ (Ext.refl _) ?_ trivial;rfl
  ·intro γ w' he hf;clear hf;refine⟨trivial,?_⟩;intro R hR
   go_simp;exact Bd (EN _ y w' (HU.out.ext he.a4)) hR
  ·intro γ w' he hf;clear hf;refine⟨trivial,?_⟩;intro R hR
   go_simp;exact hR _ _ ((Ext.refl _).alloc _) rfl (AZ.mk (Nat.le_trans Ac he.size) (by simp[Ag]))
  ·intro γ w' he hf;clear hf;refine⟨trivial,?_⟩;intro R hR
   go_simp;exact hR _ _ ((Ext.refl _).alloc _) rfl (AZ.mk (Nat.le_trans Ac he.size) (by simp[Ag]))
 intro γ w1 hx1 hF hA;have na4x5:γ 4≠γ 5:=hA 4 5 Ab Ab Ab ⟨_,_,rfl,rfl⟩ ⟨_,_,rfl,rfl⟩;clear hA;have p1:AO w1 (γ 1) x:=AA.get hF 1 Ab;have p3:AO w1 (γ 3) y:=AA.get hF 3 Ab;have p4:AZ w1 (γ 4) (w.heap.size+4) #[.bool false,.slice none 0 0] 26:=AA.get hF 4 Ab;have p5:AZ w1 (γ 5) (w.heap.size+4) #[.bool false,.slice none 0 0] 26:=AA.get hF 5 Ab;clear hF;simp only[Bf,Nat.reduceAdd];generalize γ 1=g1 at *
 generalize γ 3=g3 at *;generalize γ 4=g4 at *;generalize γ 5=g5 at *;clear γ;obtain⟨ga,rfl,hga,ea⟩:=p4;obtain⟨gb,rfl,hgb,eb⟩:=p5;have hab:ga≠gb:=fun e=>na4x5 (by rw[e]);clear na4x5;obtain⟨A1,c1,rfl,q1,q2,-⟩:=p1.form;obtain⟨A2,c2,rfl,q3,q4,-⟩:=p3.form;obtain⟨bx,hbx⟩:∃ b,b=decide (x < 0):=⟨_,rfl⟩
 obtain⟨by_,hby⟩:∃ b,b=decide (y < 0):=⟨_,rfl⟩
 rw[←hbx]at p1 ⊢;rw[←hby]at p3 ⊢;have Hb:=Ad (Ak hbx hby);clear hbx hby;obtain⟨cea0,cea1⟩:=ea.cells2;have fea:=ea.frozen;obtain⟨ceb0,ceb1⟩:=eb.cells2;have feb:=eb.frozen
 go_upto_region 2 with(fail)
 obtain⟨W1,eW,ea',U⟩:=ea.put2 (.bool bx) (.slice A1 (sz x.natAbs) c1) rfl rfl;rw[←eW];clear eW ea;replace p1:=p1.kd U.kd;replace p3:=p3.kd U.kd;replace eb:=eb.upd U Ai;replace hx1:=U.from_ hx1 Ai;have ea:=ea';clear U ea';obtain⟨W2,eW,eb',U⟩:=eb.put2 (.bool by_) (.slice A2 (sz y.natAbs) c2) rfl rfl;rw[←eW];clear eW eb;replace p1:=p1.kd U.kd;replace p3:=p3.kd U.kd;replace ea:=ea.upd U Ai;replace hx1:=U.from_ hx1 Ai
 have eb:=eb';clear U eb';clear cea0 cea1 ceb0 ceb1 fea feb;obtain⟨cea0,cea1⟩:=ea.cells2;have fea:=ea.frozen;obtain⟨ceb0,ceb1⟩:=eb.cells2;have feb:=eb.frozen;have hc1:=hx1.cells;have hf1:=hx1.frozens
 go_wp2_with fail
 refine AL (VB _ _ x.natAbs y.natAbs _ p1.nat p3.nat (by have:=HY.out;omega) Aa Aa) ?_;rintro r w3 ⟨q,r3,rfl,hq,hr⟩ hx2;obtain⟨A3,c3,rfl,d1,d2⟩:=hr.form;clear hc1 hf1 cea0 cea1 ceb0 ceb1 fea feb;replace p1:=p1.ext hx2;replace p3:=p3.ext hx2;replace ea:=ea.ext hx2;replace eb:=eb.ext hx2;replace hx1:=hx1.trans hx2;clear hx2;obtain⟨cea0,cea1⟩:=ea.cells2;have fea:=ea.frozen;obtain⟨ceb0,ceb1⟩:=eb.cells2
 have feb:=eb.frozen;have hc1:=hx1.cells;have hf1:=hx1.frozens;have Hq:=Ad hq;clear hq
 go_wp2_with fail
 refine AL (Dc ((x.natAbs % y.natAbs:Nat):Int) false _ (x.natAbs % y.natAbs) _ _ rfl (hr.num (Nat.le_refl _)) (Nat.le_trans (Bp (Nat.mod_le _ _)) Aa)) ?_;rintro r w4 hz hx2;replace Hq:=Ad (Hq.out.ext hx2);clear hc1 hf1 cea0 cea1 ceb0 ceb1 fea feb hr;replace p1:=p1.ext hx2;replace p3:=p3.ext hx2;replace ea:=ea.ext hx2;replace eb:=eb.ext hx2;replace hx1:=hx1.trans hx2;clear hx2;obtain⟨A4,c4,rfl,d3,d4,-⟩:=hz.form
 have hbz:decide (((x.natAbs % y.natAbs:Nat):Int) < 0)=false:=decide_eq_false Aa;rw[hbz]at hz;simp only[hbz,Int.natAbs_natCast]at hz d3 ⊢
 go_upto_region 4 with(fail)
 have ec:=Bj.new w4 26 #[.bool false,.slice A4 (sz (x.natAbs % y.natAbs)) c4] (by simp[Ag]);obtain⟨w5,hw5⟩:∃ w5,w5=w4.alloc (.cells #[.bool false,.slice A4 (sz (x.natAbs % y.natAbs)) c4] 26):=⟨_,rfl⟩
 obtain⟨gc,hgc⟩:∃ g,g=w4.heap.size:=⟨_,rfl⟩
 have hx2:Ext w4 w5:=by rw[hw5];exact(Ext.refl w4).alloc _
 rw[←hw5,←hgc]at ec ⊢;have hgc4:w.heap.size+4≤gc:=by have:=hx1.size;simp at this;omega
 clear hw5 hgc;replace Hq:=Ad (Hq.out.ext hx2);replace p1:=p1.ext hx2;replace p3:=p3.ext hx2;replace hz:=hz.ext hx2;replace ea:=ea.ext hx2;replace eb:=eb.ext hx2;replace hx1:=hx1.trans hx2;clear hx2;obtain⟨cea0,cea1⟩:=ea.cells2;have fea:=ea.frozen;obtain⟨ceb0,ceb1⟩:=eb.cells2;have feb:=eb.frozen;obtain⟨cec0,cec1⟩:=ec.cells2;have fec:=ec.frozen;have hc1:=hx1.cells;have hf1:=hx1.frozens;by_cases hup:x < 0∧x.natAbs % y.natAbs≠0
 ·have H:=Ad (bJ HY.out hup.1 Aa)
  obtain rfl:bx=true:=by rw[Hb.out.1];simpa using hup.1
  have hb:decide (0 < sz (x.natAbs % y.natAbs))=true:=by have:=DY hup.2;simpa using this
  clear hup
  go_wp2_with fail
  refine Ae 10 [33,34,35,36,37,38,39,40,41,42] [[],[0],[0,1],[],[],[3,4],[0,1,2,3,4,5],[],[0,1,2,3,4,5,6,7],[],[0,1,2,3,4,5,6,7,8,9],[0,1,2,3,4,5,6,7,8,9,10],[0,1,2,3,4,5,6,7,8,9,10,11]] [7,8,10] [_,_,_] [(kv ?_),(kv ?_),(kv ?_),(kv ?_),(fun γ=>γ 4),(fun γ=>γ 5),(fun γ=>γ 6),(kv ?_),(fun γ=>γ 8),(kv ?_)] (fun γ w'=>[True,True,True,True,Cr w' (γ 4) 1 1,Cr w' (γ 5) (x.natAbs / y.natAbs+1) (max (sz x.natAbs+1) 1+1),AO w' (γ 6) (x / y),True,AO w' (γ 8) (y.natAbs:Nat),True]) Bn Aj Aj Bo Aj Bl Br ?hstep2 ?_
  case hstep2 =>
   iterate 10 refine⟨?_,?_⟩
   trivial
   iterate 4 focus
    intro γ w' he hf;clear hf;refine⟨by trivial,?_⟩;intro R hR;have hc:=he.cells;have cq0:=he.cell cea0;have cq1:=he.cell cea1;have cq2:=he.cell ceb0;have cq3:=he.cell ceb1;have cq4:=he.cell cec0;have cq5:=he.cell cec1;go_simp;(try go_ints);(try(rw[if_neg Aa]));(try(rw[if_pos Aa]));(try go_simp);(try go_ints)
    refine hR _ _ (Ext.refl _) ?_ trivial;rfl
   ·intro γ w' he hf;clear hf;refine⟨trivial,?_⟩;intro R hR
    go_simp;exact hR _ _ ((Ext.refl _).alloc _) rfl (Cr.unit _ _)
   ·intro γ w' he hf;have f4:Cr w' (γ 4) 1 1:=hf 4 Ab;clear hf;refine⟨trivial,?_⟩;intro R hR
    go_simp;exact Bd (Ui _ _ _ _ _ _ w' (Hq.out.ext he) f4 Aa Aa) hR
   ·intro γ w' he hf;have f5:Cr w' (γ 5) (x.natAbs / y.natAbs+1) (max (sz x.natAbs+1) 1+1):=hf 5 Ab;clear hf;refine⟨trivial,?_⟩;intro R hR
    go_simp;exact Bd (Dc (x / y) (!by_) _ _ _ w' (by rw[H.out.1,Hb.out.2]) f5 Aa) hR
   iterate 1 focus
    intro γ w' he hf;clear hf;refine⟨by trivial,?_⟩;intro R hR;have hc:=he.cells;have cq0:=he.cell cea0;have cq1:=he.cell cea1;have cq2:=he.cell ceb0;have cq3:=he.cell ceb1;have cq4:=he.cell cec0;have cq5:=he.cell cec1;go_simp;refine hR _ _ (Ext.refl _) ?_ trivial;rfl
   ·intro γ w' he hf;clear hf;refine⟨trivial,?_⟩;intro R hR
    go_simp;exact Bd (Qw _ y w' ((p3.ext he).has Aa)) hR
   iterate 1 focus
    intro γ w' he hf;clear hf;refine⟨by trivial,?_⟩;intro R hR;have hc:=he.cells;have cq0:=he.cell cea0;have cq1:=he.cell cea1;have cq2:=he.cell ceb0;have cq3:=he.cell ceb1;have cq4:=he.cell cec0;have cq5:=he.cell cec1;go_simp;refine hR _ _ (Ext.refl _) ?_ trivial;rfl
  intro γ w6 hx6 hF;have p4:Cr w6 (γ 4) 1 1:=AA.get hF 4 Ab;have p5:Cr w6 (γ 5) (x.natAbs / y.natAbs+1) (max (sz x.natAbs+1) 1+1):=AA.get hF 5 Ab;have p6:AO w6 (γ 6) (x / y):=AA.get hF 6 Ab;have p8:AO w6 (γ 8) (y.natAbs:Nat):=AA.get hF 8 Ab;clear hF;simp only[Bf,Nat.reduceAdd];generalize γ 4=g4 at *;generalize γ 5=g5 at *;generalize γ 6=g6 at *;generalize γ 8=g8 at *;clear γ
  go_wp2_with fail
  refine AL (gX _ _ (y.natAbs:Nat) (x.natAbs % y.natAbs:Nat) _ (p8.has (by rw[Int.natAbs_natCast];omega)) ((hz.ext hx6).has (by rw[Int.natAbs_natCast];exact Nat.le_trans (Bp (Nat.mod_le _ _)) Aa)) (by rw[Int.natAbs_natCast];omega) (by rw[Int.natAbs_natCast];exact Nat.le_trans (Bp (Nat.mod_le _ _)) Aa)) ?_;rintro r w7 hr7 hx7;rw[←H.out.2]at hr7;replace p6:=p6.ext hx7;replace hx1:=(hx1.trans hx6).trans hx7
  clear hc1 hf1 cea0 cea1 ceb0 ceb1 cec0 cec1 fea feb fec hx6 hx7 p4 p5 p8;obtain⟨bq,Aq,nq,cq,rfl⟩:=p6.cells;obtain⟨br,Ar,nr,cr,rfl⟩:=hr7.cells;have hc1:=hx1.cells;have hf1:=hx1.frozens;have Hfin:=Ad (I5 p6 hr7 hx1.a4 (AX.at_ hx1.a1 (g:=w.heap.size+1+1) Ac (by simp[Ag])) (AX.at_ hx1 (g:=w.heap.size+1+1+1) Ac (by simp[Ag])) Aa Aa);clear p6 hr7;go_wp2;refine bodyPost_ret (v := .tuple #[.agg #[.bool bq,.slice Aq nq cq],.agg #[.bool br,.slice Ar nr cr]]) (by simp[results,Tryz.results150,go_sem,hc1]) rfl ?_
  exact Ah.mk ⟨_,_,rfl,Hfin.out.1,Hfin.out.2.1⟩ Hfin.out.2.2
 ·have H:=Ad (VR HY.out hup)
  have hcase:bx=false∨(bx=true∧x.natAbs % y.natAbs=0):=by
   rw[Hb.out.1];by_cases h:x < 0
   ·right;exact⟨by simpa using h,Decidable.byContradiction fun e=>hup ⟨h,e⟩⟩
   ·left;simpa using h
  clear hup;have hqs:sz (x.natAbs % y.natAbs)≤549755813888:=Nat.le_trans (Bp (Nat.mod_le _ _)) sx;rcases hcase with h0 | ⟨h0,h1⟩
  ·have hb:bx=false:=h0
   subst h0
   go_wp2_with fail
   refine Bz 8 [7] (fun x=>9) [44,45,46,47,48,49,50,51] [[],[0],[],[2],[0,1,2,3],[],[0,1,2,3,4,5],[],[0,1,2,3,4,5,6],[0,1,2,3,4,5,6,7,8]] [6,7,8,10] [_,_,_,_] [(kv ?_),(kv ?_),(kv ?_),(kv ?_),(kv ?_),(kv ?_),(fun γ=>γ 6),(kv ?_)] (fun γ w'=>[True,True,True,True,True,True,AO w' (γ 6) (x / y),True]) Bn Aj Aj Aj Aj Aj Bo Aj Bl Br ?hstep3 ?_ ?hlate3
   case hstep3 =>
    iterate 8 refine⟨?_,?_⟩
    trivial
    iterate 6 focus
     intro γ w' he hf;clear hf;refine⟨by trivial,?_⟩;intro R hR;have hc:=he.cells;have cq0:=he.cell cea0;have cq1:=he.cell cea1;have cq2:=he.cell ceb0;have cq3:=he.cell ceb1;have cq4:=he.cell cec0;have cq5:=he.cell cec1;go_simp;(try go_ints);(try(rw[if_neg Aa]));(try(rw[if_pos Aa]));(try go_simp);(try go_ints)
     refine hR _ _ (Ext.refl _) ?_ trivial;rfl
    ·intro γ w' he hf;clear hf;refine⟨trivial,?_⟩;intro R hR
     go_simp;exact Bd (Dc (x / y) _ _ _ _ w' (by rw[H.out.1,←Hb.out.1,←Hb.out.2];cases by_<;>rfl) (Hq.out.ext he) Aa) hR
    iterate 1 focus
     intro γ w' he hf;clear hf;refine⟨by trivial,?_⟩;intro R hR;have hc:=he.cells;have cq0:=he.cell cea0;have cq1:=he.cell cea1;have cq2:=he.cell ceb0;have cq3:=he.cell ceb1;have cq4:=he.cell cec0;have cq5:=he.cell cec1;go_simp;refine hR _ _ (Ext.refl _) ?_ trivial;rfl
   case hlate3 =>
    intro Pn hPs hPn;obtain rfl:=Gn hPs hPn;clear hPs hPn
    ·intro γ w6 hx6 hF hA
     clear hA;have p6:AO w6 (γ 6) (x / y):=(AA.get hF 6 Ab).resolve_left Ab;clear hF;show AC _ _ _ _ 3 [7] 8 _ _;simp only[Bf,Nat.reduceAdd,Ck,Array.getD_eq_getD_getElem?,List.getElem?_toArray,List.getElem?_cons_succ,List.getElem?_cons_zero,Option.getD_some];generalize γ 6=g6 at *;clear γ;rw[←H.out.2]at hz;have hr7:=hz.ext hx6;replace hx1:=hx1.trans hx6;have ck0:=hx6.cell cec0;have ck1:=hx6.cell cec1
     clear hc1 hf1 cea0 cea1 ceb0 ceb1 cec0 cec1 fea feb fec hz;obtain⟨bq,Aq,nq,cq,rfl⟩:=p6.cells;have hc1:=hx1.cells;have hf1:=hx1.frozens;have Hfin:=Ad (I5 p6 hr7 hx1.a4 (AX.at_ hx1.a1 (g:=w.heap.size+1+1) Ac (by simp[Ag])) (AX.at_ hx1 (g:=w.heap.size+1+1+1) Ac (by simp[Ag])) Aa Aa);clear p6 hr7;refine AC.mk 2 ⟨?_,trivial⟩ (fun _=>?_)
     ·simp only[Bb,List.toList_toArray,List.drop_succ_cons,List.drop_zero,List.take_succ_cons,List.take_zero]
      go_wp2;show AC _ _ _ _ _ [] _ _ _;refine AC.nil ?_;simp only[List.toList_toArray,List.drop_succ_cons,List.drop_zero];go_wp2;refine bodyPost_ret (v := .tuple #[.agg #[.bool bq,.slice Aq nq cq],.agg #[.bool false,.slice A4 (sz (x.natAbs % y.natAbs)) c4]]) (by simp[results,Tryz.results150,go_sem,hc1]) rfl ?_;exact Ah.mk ⟨_,_,rfl,Hfin.out.1,Hfin.out.2.1⟩ Hfin.out.2.2
     ·simp only[Bb,List.toList_toArray,List.drop_succ_cons,List.drop_zero,List.take_succ_cons,List.take_zero]
      go_wp2;refine AC.mk 1 ⟨?_,trivial⟩ (fun h=>by cases(show false=true from h))
      ·simp only[Bb,List.toList_toArray,List.drop_succ_cons,List.drop_zero,List.take_succ_cons,List.take_zero]
       go_wp2;show AC _ _ _ _ _ [] _ _ _;refine AC.nil ?_;simp only[List.toList_toArray,List.drop_succ_cons,List.drop_zero];go_wp2;refine bodyPost_ret (v := .tuple #[.agg #[.bool bq,.slice Aq nq cq],.agg #[.bool false,.slice A4 (sz (x.natAbs % y.natAbs)) c4]]) (by simp[results,Tryz.results150,go_sem,hc1]) rfl ?_;exact Ah.mk ⟨_,_,rfl,Hfin.out.1,Hfin.out.2.1⟩ Hfin.out.2.2
   intro γ w6 hx6 hF hA;clear hA;have p6:AO w6 (γ 6) (x / y):=AA.get hF 6 Ab;clear hF;simp only[Bf,Nat.reduceAdd];generalize γ 6=g6 at *;clear γ;rw[←H.out.2]at hz;have hr7:=hz.ext hx6;replace hx1:=hx1.trans hx6;have ck0:=hx6.cell cec0;have ck1:=hx6.cell cec1;clear hc1 hf1 cea0 cea1 ceb0 ceb1 cec0 cec1 fea feb fec hz;obtain⟨bq,Aq,nq,cq,rfl⟩:=p6.cells;have hc1:=hx1.cells;have hf1:=hx1.frozens;have Hfin:=Ad (I5 p6 hr7 hx1.a4 (AX.at_ hx1.a1 (g:=w.heap.size+1+1) Ac (by simp[Ag])) (AX.at_ hx1 (g:=w.heap.size+1+1+1) Ac (by simp[Ag])) Aa Aa)
   clear p6 hr7;go_wp2;refine bodyPost_ret (v := .tuple #[.agg #[.bool bq,.slice Aq nq cq],.agg #[.bool false,.slice A4 (sz (x.natAbs % y.natAbs)) c4]]) (by simp[results,Tryz.results150,go_sem,hc1]) rfl ?_;exact Ah.mk ⟨_,_,rfl,Hfin.out.1,Hfin.out.2.1⟩ Hfin.out.2.2
  ·subst h0
   have hb:decide (0 < sz (x.natAbs % y.natAbs))=false:=by rw[h1];rfl
   clear h1
   go_wp2_with fail
   refine Bz 8 [7] (fun x=>9) [44,45,46,47,48,49,50,51] [[],[0],[],[2],[0,1,2,3],[],[0,1,2,3,4,5],[],[0,1,2,3,4,5,6],[0,1,2,3,4,5,6,7,8]] [6,7,8,10] [_,_,_,_] [(kv ?_),(kv ?_),(kv ?_),(kv ?_),(kv ?_),(kv ?_),(fun γ=>γ 6),(kv ?_)] (fun γ w'=>[True,True,True,True,True,True,AO w' (γ 6) (x / y),True]) Bn Aj Aj Aj Aj Aj Bo Aj Bl Br ?hstep4 ?_ ?hlate4
   case hstep4 =>
    iterate 8 refine⟨?_,?_⟩
    trivial
    iterate 6 focus
     intro γ w' he hf;clear hf;refine⟨by trivial,?_⟩;intro R hR;have hc:=he.cells;have cq0:=he.cell cea0;have cq1:=he.cell cea1;have cq2:=he.cell ceb0;have cq3:=he.cell ceb1;have cq4:=he.cell cec0;have cq5:=he.cell cec1;go_simp;(try go_ints);(try(rw[if_neg Aa]));(try(rw[if_pos Aa]));(try go_simp);(try go_ints)
     refine hR _ _ (Ext.refl _) ?_ trivial;rfl
    ·intro γ w' he hf;clear hf;refine⟨trivial,?_⟩;intro R hR
     go_simp;exact Bd (Dc (x / y) _ _ _ _ w' (by rw[H.out.1,←Hb.out.1,←Hb.out.2];cases by_<;>rfl) (Hq.out.ext he) Aa) hR
    iterate 1 focus
     intro γ w' he hf;clear hf;refine⟨by trivial,?_⟩;intro R hR;have hc:=he.cells;have cq0:=he.cell cea0;have cq1:=he.cell cea1;have cq2:=he.cell ceb0;have cq3:=he.cell ceb1;have cq4:=he.cell cec0;have cq5:=he.cell cec1;go_simp;refine hR _ _ (Ext.refl _) ?_ trivial;rfl
   case hlate4 =>
    intro Pn hPs hPn;obtain rfl:=Gn hPs hPn;clear hPs hPn
    ·intro γ w6 hx6 hF hA
     clear hA;have p6:AO w6 (γ 6) (x / y):=(AA.get hF 6 Ab).resolve_left Ab;clear hF;show AC _ _ _ _ 3 [7] 8 _ _;simp only[Bf,Nat.reduceAdd,Ck,Array.getD_eq_getD_getElem?,List.getElem?_toArray,List.getElem?_cons_succ,List.getElem?_cons_zero,Option.getD_some];generalize γ 6=g6 at *;clear γ;rw[←H.out.2]at hz;have hr7:=hz.ext hx6;replace hx1:=hx1.trans hx6;have ck0:=hx6.cell cec0;have ck1:=hx6.cell cec1
     clear hc1 hf1 cea0 cea1 ceb0 ceb1 cec0 cec1 fea feb fec hz;obtain⟨bq,Aq,nq,cq,rfl⟩:=p6.cells;have hc1:=hx1.cells;have hf1:=hx1.frozens;have Hfin:=Ad (I5 p6 hr7 hx1.a4 (AX.at_ hx1.a1 (g:=w.heap.size+1+1) Ac (by simp[Ag])) (AX.at_ hx1 (g:=w.heap.size+1+1+1) Ac (by simp[Ag])) Aa Aa);clear p6 hr7;refine AC.mk 2 ⟨?_,trivial⟩ (fun _=>?_)
     ·simp only[Bb,List.toList_toArray,List.drop_succ_cons,List.drop_zero,List.take_succ_cons,List.take_zero]
      go_wp2;show AC _ _ _ _ _ [] _ _ _;refine AC.nil ?_;simp only[List.toList_toArray,List.drop_succ_cons,List.drop_zero];go_wp2;refine bodyPost_ret (v := .tuple #[.agg #[.bool bq,.slice Aq nq cq],.agg #[.bool false,.slice A4 (sz (x.natAbs % y.natAbs)) c4]]) (by simp[results,Tryz.results150,go_sem,hc1]) rfl ?_;exact Ah.mk ⟨_,_,rfl,Hfin.out.1,Hfin.out.2.1⟩ Hfin.out.2.2
     ·simp only[Bb,List.toList_toArray,List.drop_succ_cons,List.drop_zero,List.take_succ_cons,List.take_zero]
      go_wp2;refine AC.mk 1 ⟨?_,trivial⟩ (fun h=>by cases(show false=true from h))
      ·simp only[Bb,List.toList_toArray,List.drop_succ_cons,List.drop_zero,List.take_succ_cons,List.take_zero]
       go_wp2;show AC _ _ _ _ _ [] _ _ _;refine AC.nil ?_;simp only[List.toList_toArray,List.drop_succ_cons,List.drop_zero];go_wp2;refine bodyPost_ret (v := .tuple #[.agg #[.bool bq,.slice Aq nq cq],.agg #[.bool false,.slice A4 (sz (x.natAbs % y.natAbs)) c4]]) (by simp[results,Tryz.results150,go_sem,hc1]) rfl ?_;exact Ah.mk ⟨_,_,rfl,Hfin.out.1,Hfin.out.2.1⟩ Hfin.out.2.2
   intro γ w6 hx6 hF hA;clear hA;have p6:AO w6 (γ 6) (x / y):=AA.get hF 6 Ab;clear hF;simp only[Bf,Nat.reduceAdd];generalize γ 6=g6 at *;clear γ;rw[←H.out.2]at hz;have hr7:=hz.ext hx6;replace hx1:=hx1.trans hx6;have ck0:=hx6.cell cec0;have ck1:=hx6.cell cec1;clear hc1 hf1 cea0 cea1 ceb0 ceb1 cec0 cec1 fea feb fec hz;obtain⟨bq,Aq,nq,cq,rfl⟩:=p6.cells;have hc1:=hx1.cells;have hf1:=hx1.frozens;have Hfin:=Ad (I5 p6 hr7 hx1.a4 (AX.at_ hx1.a1 (g:=w.heap.size+1+1) Ac (by simp[Ag])) (AX.at_ hx1 (g:=w.heap.size+1+1+1) Ac (by simp[Ag])) Aa Aa)
   clear p6 hr7;go_wp2;refine bodyPost_ret (v := .tuple #[.agg #[.bool bq,.slice Aq nq cq],.agg #[.bool false,.slice A4 (sz (x.natAbs % y.natAbs)) c4]]) (by simp[results,Tryz.results150,go_sem,hc1]) rfl ?_;exact Ah.mk ⟨_,_,rfl,Hfin.out.1,Hfin.out.2.1⟩ Hfin.out.2.2
end Go.Proofs.YtmhgnigpmompmaaGreat
namespace Go.Hp
open Go.RowKit
theorem AO.natform{w:World}{v:Value}{n:Nat}(h:AO w v (n:Int)):∃ A c,v = .agg #[.bool false,.slice A (sz n) c]∧sz n≤c∧c≤9223372036854775807:=by
 obtain⟨A,c,e,h1,h2,_⟩:=h.form;have h0:decide ((n:Int) < 0)=false:=decide_eq_false Aa;rw[h0,Int.natAbs_natCast]at e;rw[Int.natAbs_natCast]at h1;exact⟨A,c,e,h1,h2⟩
theorem AO.natn{w:World}{A:Option Addr}{m c n:Nat}{b:Bool}(h:AO w (.agg #[.bool b,.slice A m c]) (n:Int)):BA w (.slice A m c) n:=by
 obtain⟨A',c',e,_,_,k⟩:=h.form;simp only[Value.agg.injEq,Array.mk.injEq,List.cons.injEq,Value.slice.injEq]at e;obtain⟨_,⟨rfl,rfl,rfl⟩,_⟩:=e;rw[Int.natAbs_natCast]at k ⊢;exact k
def IsU(_:World)(v:Value)(n:Nat):Prop:=v = .int .u64 n
theorem IsU.ext{w w':World}{v:Value}{n:Nat}(h:IsU w v n)(_:Ext w w'):IsU w' v n:=h
noncomputable def Sr(g:Nat)(w:World):Nat:=Uf ((w.cell? ⟨g,1,none⟩).getD undef) w
theorem O7{w:World}{g:Nat}{v:Value}{n:Nat}(h:w.cell? ⟨g,1,none⟩=some v)(k:BA w v n):Sr g w=n:=by
 unfold Sr;rw[h];exact MW k
end Go.Hp
namespace Go.Proofs.YtmhgnigpmompmaaGreat
open Go.RowKit Go.Hp
theorem Io(v u:Value)(x y:Int)(w:World)(hv:Bu w v x)(hu:Bu w u y)(hy:y≠0)(sx:sz x.natAbs≤549755813888)(sy:sz y.natAbs≤549755813888):Bh 108 #[v,u] w (fun r w'=>AO w' r (x / y)):=by
 have HV:=Ad hv;have HU:=Ad hu;obtain⟨neg,A,n,c,N,rfl,-,-,-,-,-⟩:=hv.form;obtain⟨neg',A',n',c',M,rfl,-,-,-,-,-⟩:=hu.form;clear hv hu
 go_enter Tryz.func108,Tryz.ntmps108
 go_wp2_with fail
 refine AL (Nr _ _ x y _ (HV.out.ext (((Ext.refl w).alloc _).alloc _ |>.alloc _)) (HU.out.ext (((Ext.refl w).alloc _).alloc _ |>.alloc _)) hy sx sy) ?_;rintro r w1 ⟨a,b,rfl,ha,hb⟩ hx1;obtain⟨b5,A5,n5,c5,rfl⟩:=ha.cells;obtain⟨b6,A6,n6,c6,rfl⟩:=hb.cells;clear hb
 go_upto_region 2 with(fail)
 obtain⟨w5,hw5⟩:∃ w5,w5=(w1.alloc (.cells #[.bool b5,.slice A5 n5 c5] 26)).alloc (.cells #[.bool b6,.slice A6 n6 c6] 26):=⟨_,rfl⟩
 have hx2:Ext w1 w5:=by rw[hw5];exact((Ext.refl w1).alloc _).alloc _
 have ed:Bj w5 w1.heap.size 26 #[.bool b5,.slice A5 n5 c5]:=by rw[hw5];exact(Bj.new w1 _ _ (by simp[Ag])).alloc _
 rw[←hw5];have hr:=ha.ext hx2;replace hx1:=hx1.trans hx2;clear hw5 hx2 ha;obtain⟨ced0,ced1⟩:=ed.cells2;have fed:=ed.frozen;have hc1:=hx1.cells;have hf1:=hx1.frozens;have Hfin:=Ad (Ci hr hx1.a3 (AX.at_ hx1 (g:=w.heap.size+2) Ac (by simp[Ag])) Aa);clear hr;go_wp2;refine bodyPost_ret (v := .agg #[.bool b5,.slice A5 n5 c5]) (by simp[results,Tryz.results108,go_sem,hc1]) rfl ?_;exact Hfin.out
theorem Uc(v u:Value)(x y:Int)(w:World)(hv:Bu w v x)(hu:Bu w u y)(sx:sz x.natAbs≤549755813888)(sy:sz y.natAbs≤549755813888):Bh 106 #[v,u] w (fun r w'=>AO w' r (Int.gcd x y:Nat)):=by
 have HV:=Ad hv;have HU:=Ad hu;obtain⟨neg,A,n,c,N,rfl,-,-,-,-,-⟩:=hv.form;obtain⟨neg',A',n',c',M,rfl,-,-,-,-,-⟩:=hu.form;clear hv hu;obtain⟨G,hG⟩:∃ G,G=Int.gcd x y:=⟨_,rfl⟩
 rw[←hG];have HG:=Ad hG;clear hG
 go_enter Tryz.func106,Tryz.ntmps106
 go_wp2_with fail
 refine CU 6 [11,12,13,14,5,6] [[],[0],[],[0,1,2],[],[],[0,1,2,3,4,5],[0,1,2,3,4,5,6]] [2,3] [_,_] [(kv ?_),(fun γ=>γ 1),(kv ?_),(fun γ=>γ 3),(fun γ=>γ 4),(fun γ=>γ 5)] (fun γ w'=>[True,AO w' (γ 1) (x.natAbs:Nat),True,AO w' (γ 3) (y.natAbs:Nat),AZ w' (γ 4) (w.heap.size+3) #[.bool false,.slice none 0 0] 26,AZ w' (γ 5) (w.heap.size+3) #[.bool false,.slice none 0 0] 26]) Bn Aj Aj Bo Aj Bl Br ?hstep1 ?_
 case hstep1 =>
  iterate 6 refine⟨?_,?_⟩
  trivial
  iterate 1 focus
   intro γ w' he hf;clear hf;refine⟨by trivial,?_⟩;intro R hR;have hc:=he.cells;go_simp;refine hR _ _ (Ext.refl _) ?_ trivial;rfl
  ·intro γ w' he hf;clear hf;refine⟨trivial,?_⟩;intro R hR
   go_simp;exact Bd (Qw _ x w' (HV.out.ext he.a3)) hR
  iterate 1 focus
   intro γ w' he hf;clear hf;refine⟨by trivial,?_⟩;intro R hR;have hc:=he.cells;go_simp;refine hR _ _ (Ext.refl _) ?_ trivial;rfl
  ·intro γ w' he hf;clear hf;refine⟨trivial,?_⟩;intro R hR
   go_simp;exact Bd (Qw _ y w' (HU.out.ext he.a3)) hR
  ·intro γ w' he hf;clear hf;refine⟨trivial,?_⟩;intro R hR
   go_simp;exact hR _ _ ((Ext.refl _).alloc _) rfl (AZ.mk (Nat.le_trans Ac he.size) (by simp[Ag]))
  ·intro γ w' he hf;clear hf;refine⟨trivial,?_⟩;intro R hR
   go_simp;exact hR _ _ ((Ext.refl _).alloc _) rfl (AZ.mk (Nat.le_trans Ac he.size) (by simp[Ag]))
 intro γ w1 hx1 hF hA;have na4x5:γ 4≠γ 5:=hA 4 5 Ab Ab Ab ⟨_,_,rfl,rfl⟩ ⟨_,_,rfl,rfl⟩;clear hA;have p1:AO w1 (γ 1) (x.natAbs:Nat):=AA.get hF 1 Ab;have p3:AO w1 (γ 3) (y.natAbs:Nat):=AA.get hF 3 Ab;have p4:AZ w1 (γ 4) (w.heap.size+3) #[.bool false,.slice none 0 0] 26:=AA.get hF 4 Ab;have p5:AZ w1 (γ 5) (w.heap.size+3) #[.bool false,.slice none 0 0] 26:=AA.get hF 5 Ab;clear hF;simp only[Bf,Nat.reduceAdd]
 generalize γ 1=g1 at *;generalize γ 3=g3 at *;generalize γ 4=g4 at *;generalize γ 5=g5 at *;clear γ;obtain⟨ga,rfl,hga,ea⟩:=p4;obtain⟨gb,rfl,hgb,eb⟩:=p5;have hab:ga≠gb:=fun e=>na4x5 (by rw[e]);clear na4x5;obtain⟨A1,c1,rfl,q1,q2⟩:=p1.natform;obtain⟨A2,c2,rfl,q3,q4⟩:=p3.natform;obtain⟨cea0,cea1⟩:=ea.cells2;have fea:=ea.frozen;obtain⟨ceb0,ceb1⟩:=eb.cells2;have feb:=eb.frozen
 go_upto_region 2 with(fail)
 obtain⟨W1,eW,ea',U⟩:=ea.put2 (.bool false) (.slice A1 (sz x.natAbs) c1) rfl rfl;rw[←eW];clear eW ea;replace p1:=p1.kd U.kd;replace p3:=p3.kd U.kd;replace eb:=eb.upd U Ai;replace hx1:=U.from_ hx1 Ai;have ea:=ea';clear U ea';obtain⟨W2,eW,eb',U⟩:=eb.put2 (.bool false) (.slice A2 (sz y.natAbs) c2) rfl rfl;rw[←eW];clear eW eb;replace p1:=p1.kd U.kd;replace p3:=p3.kd U.kd;replace ea:=ea.upd U Ai;replace hx1:=U.from_ hx1 Ai
 have eb:=eb';clear U eb';clear cea0 cea1 ceb0 ceb1 fea feb;have Hg:Hid (Nat.gcd x.natAbs y.natAbs=G):=Ad HG.out.symm;clear HV HU HG;generalize x.natAbs=aa at *;generalize y.natAbs=bb at *;by_cases hsm:sz aa≤2∧sz bb≤2
 ·obtain⟨s1,s2⟩:=hsm
  have hA64:aa < 18446744073709551616:=by rw[←IQ];exact Nat.lt_of_lt_of_le (CF aa) (FY s1)
  have hB64:bb < 18446744073709551616:=by rw[←IQ];exact Nat.lt_of_lt_of_le (CF bb) (FY s2)
  obtain⟨cea0,cea1⟩:=ea.cells2;have fea:=ea.frozen;obtain⟨ceb0,ceb1⟩:=eb.cells2;have feb:=eb.frozen;have hc1:=hx1.cells;have hf1:=hx1.frozens
  go_wp2_with fail
  refine Ae 5 [25,26,27,28,29] [[],[0],[0,1],[],[3],[0,1,2,3,4],[0,1,2,3,4,5],[0,1,2,3,4,5,6]] [5,6] [_,_] [(kv ?_),(kv ?_),(fun γ=>γ 2),(kv ?_),(kv ?_)] (fun γ w'=>[True,True,IsU w' (γ 2) aa,True,True]) Bn Aj Aj Bo Aj Bl Br ?hstep2 ?_
  case hstep2 =>
   iterate 5 refine⟨?_,?_⟩
   trivial
   iterate 2 focus
    intro γ w' he hf;clear hf;refine⟨by trivial,?_⟩;intro R hR;have hc:=he.cells;have cq0:=he.cell cea0;have cq1:=he.cell cea1;have cq2:=he.cell ceb0;have cq3:=he.cell ceb1;go_simp;refine hR _ _ (Ext.refl _) ?_ trivial;rfl
   ·intro γ w' he hf;clear hf;refine⟨trivial,?_⟩;intro R hR
    go_simp;exact Bd (F:=fun r w''=>IsU w'' (r) aa) (Ah.imp (J6 _ aa w' ((p1.ext he).natn) s1) fun _ _ h=>h) hR
   iterate 2 focus
    intro γ w' he hf;clear hf;refine⟨by trivial,?_⟩;intro R hR;have hc:=he.cells;have cq0:=he.cell cea0;have cq1:=he.cell cea1;have cq2:=he.cell ceb0;have cq3:=he.cell ceb1;go_simp;refine hR _ _ (Ext.refl _) ?_ trivial;rfl
  intro γ w3 hx3 hF;have p2:IsU w3 (γ 2) aa:=AA.get hF 2 Ab;clear hF;simp only[Bf,Nat.reduceAdd];generalize γ 2=g2 at *;clear γ;obtain rfl:g2 = .int .u64 aa:=p2
  go_wp2_with fail
  refine AL (J6 _ bb _ ((p3.ext hx3).natn) s2) ?_;rintro r w4 rfl hx4;replace hx1:=(hx1.trans hx3).trans hx4;clear hc1 hf1 cea0 cea1 ceb0 ceb1 fea feb hx3 hx4 ea eb p1 p3 q1 q2 q3 q4;go_wp2
  go_loopw [7,8] (fun av bv wx=>∃ A' B':Nat,av = .int .u64 A'∧bv = .int .u64 B'∧Nat.gcd A' B'=G∧A' < 18446744073709551616∧B' < 18446744073709551616∧Ext w4 wx) (fun _ bv _=>(intOf bv).toNat)
  case atStart=>exact⟨aa,bb,rfl,rfl,Hg.out,hA64,hB64,Ext.refl _⟩
  case round =>
   obtain⟨A',B',rfl,rfl,hg,k1,k2,hx'⟩:=hrel;have Hg':=Ad hg;clear hg;by_cases hB0:B'=0
   ·subst hB0
    go_wp2_with fail
    refine AL (UC A' _ k1) ?_;rintro r w5 hr hx5;have hg:=Hg'.out;rw[Nat.gcd_zero_right]at hg;subst hg;replace hx1:=(hx1.trans hx').trans hx5;clear hx' hx5;have hc1:=hx1.cells;have hf1:=hx1.frozens;have hs2:sz A'≤2:=Cj (by rw[IQ];exact k1)
    go_wp2_with fail
    refine AL (Dc (A':Int) false _ A' _ _ rfl (hr.num hs2) Aa) ?_;rintro r w6 hr hx6;replace hx1:=hx1.trans hx6;clear hc1 hf1 hx6;obtain⟨b5,A5,n5,c5,rfl⟩:=hr.cells;have hc1:=hx1.cells;have hf1:=hx1.frozens;have Hfin:=Ad (Ci hr hx1.a3 (AX.at_ hx1 (g:=w.heap.size+2) Ac (by simp[Ag])) Aa);clear hr;go_wp2;refine bodyPost_ret (v := .agg #[.bool b5,.slice A5 n5 c5]) (by simp[results,Tryz.results106,go_sem,hc1]) rfl ?_
    exact Hfin.out
   ·have hp:(1:Int)≤B':=by omega
    have hb:((B':Int) != 0)=true:=by simp;omega
    go_wp2
    go_quiet (fail)
    go_wp2
    go_roundw
    case rel=>exact⟨B',A' % B',Ac,Ac,by rw[KC,Hg'.out],k2,by have:=Nat.mod_lt A' (show 0 < B' by omega);omega,hx'.drewN _⟩
    case measure =>
     have:=Nat.mod_lt A' (show 0 < B' by omega);simp only[intOf,Array.getD,Int.toNat_natCast]<;>simp<;>omega
 ·have hcase:2 < sz aa∨(sz aa≤2∧2 < sz bb):=by omega
  clear hsm;obtain⟨cea0,cea1⟩:=ea.cells2;have fea:=ea.frozen;obtain⟨ceb0,ceb1⟩:=eb.cells2;have feb:=eb.frozen;rcases hcase with hcase | ⟨hcase,hcase2⟩
  all_goals
   go_wp2;clear cea0 cea1 ceb0 ceb1 fea feb hcase
   go_loopw [] (fun wr=>∃ (a b:Nat) (A1 A2:Option Addr) (c1 c2:Nat),Bj wr ga 26 #[.bool false,.slice A1 (sz a) c1]∧Bj wr gb 26 #[.bool false,.slice A2 (sz b) c2]∧AO wr (.agg #[.bool false,.slice A1 (sz a) c1]) (a:Nat)∧AO wr (.agg #[.bool false,.slice A2 (sz b) c2]) (b:Nat)∧sz a≤549755813888∧sz b≤549755813888∧Nat.gcd a b=G∧Ext (((w.alloc (.cells #[.bool neg,.slice A n c] 26)).alloc (.cells #[.bool neg',.slice A' n' c'] 26)).alloc (.cells #[.bool false,.slice none 0 0] 26)) wr) (fun wr=>Sr gb wr)
   case atStart=>exact⟨aa,bb,A1,A2,c1,c2,ea,eb,p1,p3,sx,sy,Hg.out,hx1⟩
   case round =>
    clear ea eb p1 p3 sx sy q1 q2 q3 q4 Hg hx1;obtain⟨a,b,B1,B2,d1,d2,ea,eb,p1,p3,sx,sy,hg,hx1⟩:=hrel;have Hg:=Ad hg;clear hg;obtain⟨cea0,cea1⟩:=ea.cells2;have fea:=ea.frozen;obtain⟨ceb0,ceb1⟩:=eb.cells2;have feb:=eb.frozen;have hc1:=hx1.cells;have hf1:=hx1.frozens;by_cases hb0:b=0
    ·have hb:decide (0 < sz b)=false:=by rw[hb0];rfl
     have hga:a=G:=by rw[←Hg.out,hb0,Nat.gcd_zero_right]
     rw[hga]at p1 cea1;have Hfin:=Ad (Ci p1 hx1.a3 (AX.at_ hx1 (g:=w.heap.size+2) Ac (by simp[Ag])) Aa);clear p1 p3 hga hb0;go_wp2;refine bodyPost_ret (v := .agg #[.bool false,.slice B1 (sz G) d1]) (by simp[results,Tryz.results106,go_sem,hc1]) rfl ?_;exact Hfin.out
    ·have hb:decide (0 < sz b)=true:=by have:=DY hb0;simpa using this
     have hbz:(b:Int)≠0:=by omega
     have hm0:=O7 ceb1 p3.natn;have hmod:=Nat.mod_lt a (show 0 < b by omega);have Hm:=Ad (Ak hm0 hmod);clear hm0 hmod hb0
     go_wp2_with fail
     refine AL (Nr _ _ a b _ (p1.has (by rw[Int.natAbs_natCast];omega)) (p3.has (by rw[Int.natAbs_natCast];omega)) hbz (by rw[Int.natAbs_natCast];exact sx) (by rw[Int.natAbs_natCast];exact sy)) ?_;rintro r w3 ⟨q,r3,rfl,hq,hr⟩ hx2;rw[←Int.natCast_emod]at hr;obtain⟨A3,c3,rfl,e1,e2⟩:=hr.natform;obtain⟨b6,A6,n6,c6,rfl⟩:=hq.cells;clear hc1 hf1 cea0 cea1 ceb0 ceb1 fea feb hq;replace p1:=p1.ext hx2;replace p3:=p3.ext hx2
     replace ea:=ea.ext hx2;replace eb:=eb.ext hx2;replace hx1:=hx1.trans hx2;clear hx2
     go_upto_region 9 with(fail)
     obtain⟨w5,hw5⟩:∃ w5,w5=(w3.alloc (.cells #[.bool b6,.slice A6 n6 c6] 26)).alloc (.cells #[.bool false,.slice A3 (sz (a % b)) c3] 26):=⟨_,rfl⟩
     have hx2:Ext w3 w5:=by rw[hw5];exact((Ext.refl w3).alloc _).alloc _
     have hs3:(w3.alloc (.cells #[.bool b6,.slice A6 n6 c6] 26)).heap.size=w3.heap.size+1:=by simp
     have ed:Bj w5 (w3.heap.size+1) 26 #[.bool false,.slice A3 (sz (a % b)) c3]:=by rw[hw5,←hs3];exact Bj.new _ _ _ (by simp[Ag])
     rw[←hw5];have hda:w3.heap.size+1≠ga:=by have:=ea.lt;omega
     have hdb:w3.heap.size+1≠gb:=by have:=eb.lt;omega
     generalize w3.heap.size+1=gd at *;generalize w3.heap.size=ge at *;clear hw5 hs3;replace p1:=p1.ext hx2;replace p3:=p3.ext hx2;replace hr:=hr.ext hx2;replace ea:=ea.ext hx2;replace eb:=eb.ext hx2;replace hx1:=hx1.trans hx2;clear hx2;obtain⟨cea0,cea1⟩:=ea.cells2;have fea:=ea.frozen;obtain⟨ceb0,ceb1⟩:=eb.cells2;have feb:=eb.frozen;obtain⟨ced0,ced1⟩:=ed.cells2;have fed:=ed.frozen
     go_upto_region 10 with(fail)
     obtain⟨W1,eW,ea',U⟩:=ea.put2 (.bool false) (.slice B2 (sz b) d2) rfl rfl;rw[←eW];clear eW ea;replace p3:=p3.kd U.kd;replace hr:=hr.kd U.kd;replace eb:=eb.upd U Ai;replace ed:=ed.upd U Ai;replace hx1:=U.from_ hx1 Ai;have ea:=ea';clear U ea';clear cea0 cea1 ceb0 ceb1 fea feb ced0 ced1 fed;obtain⟨cea0,cea1⟩:=ea.cells2;have fea:=ea.frozen;obtain⟨ceb0,ceb1⟩:=eb.cells2;have feb:=eb.frozen;obtain⟨ced0,ced1⟩:=ed.cells2
     have fed:=ed.frozen;go_wp2;obtain⟨W2,eW,eb',U⟩:=eb.put2 (.bool false) (.slice A3 (sz (a % b)) c3) rfl rfl;rw[←eW];clear eW eb;replace p3:=p3.kd U.kd;replace hr:=hr.kd U.kd;replace ea:=ea.upd U Ai;replace hx1:=U.from_ hx1 Ai;have eb:=eb';clear U eb';clear cea0 cea1 ceb0 ceb1 fea feb ced0 ced1 fed ed;obtain⟨ceb0,ceb1⟩:=eb.cells2;have feb:=eb.frozen
     go_roundw
     case rel=>exact⟨b,a % b,B2,A3,d2,c3,ea,eb,p3,hr,sy,Nat.le_trans (Bp (Nat.mod_le _ _)) sx,by rw[KC,Hg.out],hx1⟩
     case measure=>rw[Hm.out.1,O7 ceb1 hr.natn];exact Hm.out.2
theorem Ux(v u:Value)(x y:Int)(w:World)(hv:Bu w v x)(hu:Bu w u y):Bh 93 #[v,u] w (fun r w'=>AO w' r (Int.gcd x y:Nat)):=by
 obtain⟨neg,A,n,c,N,rfl,h1,h2,h3,hN,hx⟩:=hv.form;obtain⟨neg',A',n',c',M,rfl,k1,k2,k3,kN,hy⟩:=hu.form;have HN:=Ad hN;have HM:=Ad kN;clear hN hv hu kN;have hs:sz N≤n:=HN.out.sz;have hs':sz M≤n':=HM.out.sz;have hg:Int.gcd x y=Nat.gcd N M:=by unfold Int.gcd;rw[hx,hy];cases neg<;>cases neg'<;>simp
 rw[hg];clear hx hy hg
 go_enter Tryz.func93,Tryz.ntmps93
 go_wp2_with fail
 refine Ae 5 [5,6,7,8,9] [[],[0],[0,1],[],[3],[0,1,2,3,4],[0,1,2,3,4,5],[0,1,2,3,4,5,6],[0,1,2,3,4,5,6,7]] [2,3] [_,_] [(kv ?_),(kv ?_),(fun γ=>γ 2),(kv ?_),(kv ?_)] (fun γ w'=>[True,True,BA w' (γ 2) N,True,True]) Bn Aj Aj Bo Aj Bl Br ?hstep1 ?_
 case hstep1 =>
  iterate 5 refine⟨?_,?_⟩
  trivial
  iterate 2 focus
   intro γ w' he hf;clear hf;refine⟨by trivial,?_⟩;intro R hR;have hc:=he.cells;go_simp;refine hR _ _ (Ext.refl _) ?_ trivial;rfl
  ·intro γ w' he hf;clear hf;refine⟨trivial,?_⟩;intro R hR
   go_simp;exact Bd (BN _ N n w' (HN.out.ext he.a3)) hR
  iterate 2 focus
   intro γ w' he hf;clear hf;refine⟨by trivial,?_⟩;intro R hR;have hc:=he.cells;go_simp;refine hR _ _ (Ext.refl _) ?_ trivial;rfl
 intro γ w1 hx1 hF;have p2:BA w1 (γ 2) N:=AA.get hF 2 Ab;clear hF;simp only[Bf,Nat.reduceAdd];generalize γ 2=g2 at *;clear γ
 go_wp2_with fail
 refine AL (BN _ M n' w1 (HM.out.ext hx1.a3)) ?_;rintro r2 w2 hr2 hx2;replace p2:=p2.ext hx2;replace hx1:=hx1.trans hx2;clear hx2
 go_wp2_with fail
 refine AL (Sa _ _ N M w2 p2 hr2 Aa Aa) ?_;rintro r3 w3 hr3 hx2;replace hx1:=hx1.trans hx2;clear hx2 p2 hr2
 go_wp2_with fail
 refine AL (Cz (Nat.gcd N M:Nat) false _ (Nat.gcd N M) _ w3 rfl (hr3.num (Nat.le_refl _))) ?_;rintro r w4 hr hx2;obtain⟨b,A2,n2,c2,rfl⟩:=hr.cells;replace hx1:=hx1.trans hx2;have hc1:=hx1.cells;have hf1:=hx1.frozens;have Hfin:=Ad (Ci hr hx1.a3 (AX.at_ hx1 (g:=w.heap.size+2) Ac (by simp[Ag])) Aa);clear hr hr3;go_wp2;refine bodyPost_ret (v := .agg #[.bool b,.slice A2 n2 c2]) (by simp[results,Tryz.results93,go_sem,hc1]) rfl ?_
 exact Hfin.out
theorem I9(v u:Value)(x y:Int)(w:World)(hv:Bu w v x)(hu:Bu w u y)(h0:y≠0)(hd:y∣x):Bh 86 #[v,u] w (fun r w'=>∃ a,r = .tuple #[a,.int .i64 0]∧AO w' a (x / y)):=by
 have Hv:=Ad hv;have Hu:=Ad hu;obtain⟨neg,A,n,c,N,rfl,h1,h2,h3,hN,hx⟩:=hv.form;obtain⟨neg',A',n',c',M,rfl,k1,k2,k3,kN,hy⟩:=hu.form;clear hN hx hv hu kN hy;have H0:=Ad h0;have Hd:=Ad hd;clear h0 hd
 go_enter Tryz.func86,Tryz.ntmps86
 go_wp2_with fail
 refine AL (Kn _ _ x y _ (Hv.out.ext ((((Ext.refl w).alloc _).alloc _).alloc _)) (Hu.out.ext ((((Ext.refl w).alloc _).alloc _).alloc _))) ?_;rintro r w1 ⟨q,m,rfl,hq,hm⟩ hx1;rw[if_neg H0.out,Int.emod_eq_zero_of_dvd Hd.out]at hm;rw[if_neg H0.out];obtain⟨b,A1,n1,c1,rfl⟩:=hq.cells;obtain⟨A2,c2,rfl⟩:∃ A2 c2,m = .agg #[.bool false,.slice A2 0 c2]:=by obtain⟨A,c,e,_⟩:=hm.form;exact⟨A,c,e⟩
 have Hq:=Ad hq;clear hq hm;have hx2:=(hx1.alloc (Obj.cells #[Value.bool b,Value.slice A1 n1 c1] 26)).alloc (Obj.cells #[Value.bool false,Value.slice A2 0 c2] 26);have hc2:=hx2.cells;have hf2:=hx2.frozens;have Hfin:=Ad (Ci (Hq.out.ext (((Ext.refl w1).alloc _).alloc _)) hx2.a3 (AX.at_ hx2 (g:=w.heap.size+1+1) Ac (by simp[Ag])) Aa);have hc1:=hx1.cells;have hf1:=hx1.frozens;go_wp2;refine bodyPost_ret (v := .tuple #[.agg #[.bool b,.slice A1 n1 c1],.int .i64 0]) (by simp[results,Tryz.results86,go_sem,hc2]) rfl ?_
 obtain⟨r,e,hr,hx⟩:=Hfin.out;cases e;exact Ah.mk ⟨_,rfl,hr⟩ hx
end Go.Proofs.YtmhgnigpmompmaaGreat
namespace Go.Hp
theorem AO.parts{w:World}{v:Value}{x:Int}(h:AO w v x):∃ b A n c,v = .agg #[.bool b,.slice A n c]∧n=sz x.natAbs∧b=decide (x < 0):=by
 obtain⟨A,c,e,_⟩:=h.form;exact⟨_,_,_,_,e,rfl,rfl⟩
theorem aF{x:Int}(h:x=0):(((sz x.natAbs:Nat):Int)==0)=true:=by subst h;rfl
theorem Yf{x:Int}(h:x≠0):(((sz x.natAbs:Nat):Int)==0)=false:=by
 have:=DY (n:=x.natAbs) Aa;simp;omega
theorem I4(p:Int):(Rat.divInt p 1).num=p∧((Rat.divInt p 1).den:Int)=1:=by
 rw[Rat.num_divInt,Rat.den_divInt];simp
theorem CY{p q:Int}(hq:0 < q):(Rat.divInt p q).num=p / (Int.gcd p q:Nat)∧((Rat.divInt p q).den:Int)=q / (Int.gcd p q:Nat):=by
 have hq0:q≠0:=by omega
 rw[Rat.num_divInt,Rat.den_divInt,if_neg hq0,Int.sign_eq_one_of_pos hq,Int.one_mul,Int.gcd_comm q p];refine⟨rfl,?_⟩;have:((q.natAbs:Nat):Int)=q:=by omega
 rw[Int.natCast_ediv,this]
theorem VI{p q:Int}(hq:0 < q){k:Nat}(h:sz q.natAbs≤k):sz ((Int.gcd p q:Nat):Int).natAbs≤k:=by
 refine Nat.le_trans (Bp ?_) h;rw[Int.natAbs_natCast];exact Nat.le_of_dvd Aa (Nat.gcd_dvd_right _ _)
end Go.Hp
namespace Go.Proofs.YtmhgnigpmompmaaGreat
open Go.RowKit Go.Hp
theorem BD.mk_{w:World}{b b':Bool}{A A':Option Addr}{n c n' c':Nat}{q:Rat}{x y:Int}(h1:AO w (.agg #[.bool b,.slice A n c]) x)(h2:AO w (.agg #[.bool b',.slice A' n' c']) y)(e1:x=q.num)(e2:y=q.den):BD w (.agg #[.bool b,.slice A n c,.bool b',.slice A' n' c']) q:=
 ⟨b,A,n,c,b',A',n',c',rfl,e1▸h1,e2▸h2⟩
theorem JP(v u:Value)(x y:Int)(w:World)(hv:Bu w v x)(hu:Bu w u y):Bh 149 #[v,u] w (fun r w'=>BD w' r (Rat.divInt x y)):=by
 have Hv:=Ad hv;have Hu:=Ad hu;have hsx:=hv.sz;have hsy:=hu.sz;obtain⟨neg,A,n,c,N,rfl,h1,h2,h3,hN,hx⟩:=hv.form;obtain⟨neg',A',n',c',M,rfl,k1,k2,k3,kN,hy⟩:=hu.form;clear hN hx hv hu kN hy
 go_enter Tryz.func149,Tryz.ntmps149
 go_wp2_with fail
 refine Ae 3 [6,7,8] [[],[0],[],[0,1,2],[0,1,2,3],[0,1,2,3,4]] [2,3] [_,_] [(kv ?_),(fun γ=>γ 1),(kv ?_)] (fun γ w'=>[True,AO w' (γ 1) x,True]) Bn Aj Aj Bo Aj Bl Br ?hstep1 ?_
 case hstep1 =>
  iterate 3 refine⟨?_,?_⟩
  trivial
  iterate 1 focus
   intro γ w' he hf;clear hf;refine⟨by trivial,?_⟩;intro R hR;have hc:=he.cells;go_simp;refine hR _ _ (Ext.refl _) ?_ trivial;rfl
  ·intro γ w' he hf;clear hf;refine⟨trivial,?_⟩;intro R hR
   go_simp;exact Bd (IM _ x w' (Hv.out.ext he.a3)) hR
  iterate 1 focus
   intro γ w' he hf;clear hf;refine⟨by trivial,?_⟩;intro R hR;have hc:=he.cells;go_simp;refine hR _ _ (Ext.refl _) ?_ trivial;rfl
 intro γ w1 hx1 hF;have p1:AO w1 (γ 1) x:=AA.get hF 1 Ab;clear hF;simp only[Bf,Nat.reduceAdd];generalize γ 1=g1 at *;clear γ
 go_wp2_with fail
 refine AL (IM _ y w1 (Hu.out.ext hx1.a3)) ?_;rintro r w2 hr hx2;replace p1:=p1.ext hx2;replace hx1:=hx1.trans hx2;obtain⟨b1,A1,n1,c1,rfl,hn1,hb1'⟩:=p1.parts;obtain⟨b2,A2,n2,c2,rfl,hn2,hb2'⟩:=hr.parts;have e0:Bj w2 w.heap.size 26 #[.bool neg,.slice A n c]:=(Bj.new w _ _ (by simp[Ag])).ext hx1.a1.a1;have e1:Bj w2 (w.heap.size+1) 26 #[.bool neg',.slice A' n' c']:=by
  have:=(Bj.new (w.alloc _) _ _ (by simp[Ag])).ext hx1.a1;simpa using this
 have e2:Bj w2 (w.heap.size+1+1) 28 #[.bool false,.slice none 0 0,.bool false,.slice none 0 0]:=by
  have:=(Bj.new ((w.alloc _).alloc _) _ _ (by simp[Ag])).ext hx1;simpa using this
 replace hx1:=hx1.a3;obtain⟨ce00,ce01⟩:=e0.cells2;have fe0:=e0.frozen;obtain⟨ce10,ce11⟩:=e1.cells2;have fe1:=e1.frozen;obtain⟨ce20,ce21,ce22,ce23⟩:=e2.cells4;have fe2:=e2.frozen;have Hn1:=Ad (Ak hn1 hb1');have Hn2:=Ad (Ak hn2 hb2');clear hn1 hb1' hn2 hb2'
 go_upto_block 0 with(fail)
 obtain⟨W1,eW,e0',U⟩:=e0.put2 (.bool b1) (.slice A1 n1 c1) rfl rfl;rw[←eW];clear eW e0;replace p1:=p1.kd U.kd;replace hr:=hr.kd U.kd;replace e1:=e1.upd U Ai;replace e2:=e2.upd U Ai;replace hx1:=U.from_ hx1 Ai;have e0:=e0';clear U e0';obtain⟨W2,eW,e1',U⟩:=e1.put2 (.bool b2) (.slice A2 n2 c2) rfl rfl;rw[←eW];clear eW e1;replace p1:=p1.kd U.kd;replace hr:=hr.kd U.kd;replace e0:=e0.upd U Ai;replace e2:=e2.upd U Ai
 replace hx1:=U.from_ hx1 Ai;have e1:=e1';clear U e1';clear ce00 ce01 fe0 ce10 ce11 fe1 ce20 ce21 ce22 ce23 fe2;obtain⟨ce00,ce01⟩:=e0.cells2;have fe0:=e0.frozen;obtain⟨ce10,ce11⟩:=e1.cells2;have fe1:=e1.frozen;obtain⟨ce20,ce21,ce22,ce23⟩:=e2.cells4;have fe2:=e2.frozen;clear hx2
 go_cut [] (fun wx=>∃ (p q:Int) (b1:Bool) (A1:Option Addr) (n1 c1:Nat) (b2:Bool) (A2:Option Addr) (n2 c2:Nat),AO wx (.agg #[.bool b1,.slice A1 n1 c1]) p∧AO wx (.agg #[.bool b2,.slice A2 n2 c2]) q∧0 < q∧Rat.divInt x y=Rat.divInt p q∧sz p.natAbs≤1099511627776∧sz q.natAbs≤1099511627776∧Bj wx w.heap.size 26 #[.bool b1,.slice A1 n1 c1]∧Bj wx (w.heap.size+1) 26 #[.bool b2,.slice A2 n2 c2]∧Bj wx (w.heap.size+1+1) 28 #[.bool false,.slice none 0 0,.bool false,.slice none 0 0]∧Ext w wx)
 case first =>
  by_cases hz:y=0∨x=0
  ·have hq:Rat.divInt x y=0:=by rcases hz with h | h<;>simp[h]
   have hbb:(((n2:Nat):Int)==0)=true∨((((n2:Nat):Int)==0)=false∧(((n1:Nat):Int)==0)=true):=by
    rw[Hn1.out.1,Hn2.out.1];by_cases hy0:y=0
    ·exact .inl (aF hy0)
    ·exact .inr ⟨Yf hy0,aF (hz.resolve_left hy0)⟩
   have Hq:=Ad hq;clear hq hz;rcases hbb with hb1 | ⟨hb1,hb2⟩
   all_goals
    go_wp2_with fail
    refine AL (Jv 1 _ Aa Aa) ?_;rintro r w3 hr1 hx3;obtain⟨b3,A3,n3,c3,rfl⟩:=hr1.cells;clear p1 hr ce00 ce01 fe0 ce10 ce11 fe1 ce20 ce21 ce22 ce23 fe2;replace e2:=e2.ext hx3;replace hx1:=hx1.trans hx3;clear hx3;obtain⟨ce20,ce21,ce22,ce23⟩:=e2.cells4;have fe2:=e2.frozen;go_wp2
    try clear ce00 ce01 fe0 ce10 ce11 fe1
    clear ce20 ce21 ce22 ce23 fe2;obtain⟨W9,eW,e2',U⟩:=e2.put4 (.bool false) (.slice none 0 0) (.bool b3) (.slice A3 n3 c3) rfl rfl rfl rfl;rw[←eW];clear eW e2;replace hr1:=hr1.kd U.kd;replace hx1:=U.from_ hx1 Ai;have e2:=e2';clear U e2';obtain⟨ce20,ce21,ce22,ce23⟩:=e2.cells4;have fe2:=e2.frozen;refine bodyPost_ret (v := .agg #[.bool false,.slice none 0 0,.bool b3,.slice A3 n3 c3]) (by simp[results,Tryz.results149,go_sem,ce20,ce21,ce22,ce23]) rfl ?_
    exact Ah.mk (BD.mk_ (AO.zero _) hr1 (by rw[Hq.out];rfl) (by rw[Hq.out];rfl)) hx1
  ·have hy0:y≠0:=fun h=>hz (.inl h)
   have hx0:x≠0:=fun h=>hz (.inr h);have hb1:(((n2:Nat):Int)==0)=false:=by rw[Hn2.out.1];exact Yf hy0
   have hb2:(((n1:Nat):Int)==0)=false:=by rw[Hn1.out.1];exact Yf hx0
   have Hp1:=Ad p1;have Hp2:=Ad hr;clear p1 hr;by_cases hyn:y < 0
   ·obtain rfl:b2=true:=by rw[Hn2.out.2];simpa using hyn
    have Hy:=Ad (Ak hyn hy0);clear hyn hy0 hx0 hz;go_wp2;refine Ae 3 [26,27,28] [[],[0],[],[0,1,2],[0,1,2,3],[0,1,2,3,4]] [2,3] [_,_] [(kv ?_),(fun γ=>γ 1),(kv ?_)] (fun γ w'=>[True,AO w' (γ 1) (-x),True]) Bn Aj Aj Bo Aj Bl Br ?hstep2 ?_
    case hstep2 =>
     iterate 3 refine⟨?_,?_⟩
     trivial
     iterate 1 focus
      intro γ w' he hf;clear hf;refine⟨by trivial,?_⟩;intro R hR;have hc:=he.cells;have cq0:=he.cell ce00;have cq1:=he.cell ce01;have cq2:=he.cell ce10;have cq3:=he.cell ce11;go_simp;refine hR _ _ (Ext.refl _) ?_ trivial;rfl
     ·intro γ w' he hf;clear hf;refine⟨trivial,?_⟩;intro R hR
      go_simp;exact Bd (Ur _ x w' ((Hp1.out.ext he).has hsx)) hR
     iterate 1 focus
      intro γ w' he hf;clear hf;refine⟨by trivial,?_⟩;intro R hR;have hc:=he.cells;have cq0:=he.cell ce00;have cq1:=he.cell ce01;have cq2:=he.cell ce10;have cq3:=he.cell ce11;go_simp;refine hR _ _ (Ext.refl _) ?_ trivial;rfl
    intro γ w3 hx3 hF;have p1:AO w3 (γ 1) (-x):=AA.get hF 1 Ab;clear hF;simp only[Bf,Nat.reduceAdd];generalize γ 1=g1 at *;clear γ
    go_wp2_with fail
    refine AL (Ur _ y w3 ((Hp2.out.ext hx3).has hsy)) ?_;rintro r w4 hr hx4;replace p1:=p1.ext hx4;replace hx3:=hx3.trans hx4;clear ce00 ce01 fe0 ce10 ce11 fe1 ce20 ce21 ce22 ce23 fe2 Hp1 Hp2;replace e0:=e0.ext hx3;replace e1:=e1.ext hx3;replace e2:=e2.ext hx3;replace hx1:=hx1.trans hx3;clear hx3;obtain⟨b3,A3,n3,c3,rfl⟩:=p1.cells;obtain⟨b4,A4,n4,c4,rfl⟩:=hr.cells;obtain⟨ce00,ce01⟩:=e0.cells2;have fe0:=e0.frozen
    obtain⟨ce10,ce11⟩:=e1.cells2;have fe1:=e1.frozen;go_wp2;obtain⟨W3,eW,e0',U⟩:=e0.put2 (.bool b3) (.slice A3 n3 c3) rfl rfl;rw[←eW];clear eW e0;replace p1:=p1.kd U.kd;replace hr:=hr.kd U.kd;replace e1:=e1.upd U Ai;replace e2:=e2.upd U Ai;replace hx1:=U.from_ hx1 Ai;have e0:=e0';clear U e0';obtain⟨W4,eW,e1',U⟩:=e1.put2 (.bool b4) (.slice A4 n4 c4) rfl rfl;rw[←eW];clear eW e1;replace p1:=p1.kd U.kd
    replace hr:=hr.kd U.kd;replace e0:=e0.upd U Ai;replace e2:=e2.upd U Ai;replace hx1:=U.from_ hx1 Ai;have e1:=e1';clear U e1'
    go_meet
    case rel=>exact⟨-x,-y,b3,A3,n3,c3,b4,A4,n4,c4,p1,hr,by have:=Hy.out;omega,by rw[Rat.neg_divInt_neg],by rwa[Int.natAbs_neg],by rwa[Int.natAbs_neg],e0,e1,e2,hx1⟩
   ·obtain rfl:b2=false:=by rw[Hn2.out.2];simpa using hyn
    have Hy:=Ad (Ak hyn hy0);clear hyn hy0 hx0 hz;go_wp2
    go_meet
    case rel=>exact⟨x,y,b1,A1,n1,c1,false,A2,n2,c2,Hp1.out,Hp2.out,by have:=Hy.out;omega,rfl,hsx,hsy,e0,e1,e2,hx1⟩
 case rest =>
  clear ce00 ce01 fe0 ce10 ce11 fe1 ce20 ce21 ce22 ce23 fe2 e0 e1 e2 hx1 p1 hr Hn1 Hn2 Hv Hu;obtain⟨p,q,b1,A1,n1,c1,b2,A2,n2,c2,p1,hr,hq0,hpq,hsp,hsq,e0,e1,e2,hx1⟩:=hcut;have Hpq:=Ad hpq;have Hc:=Ad (Ak hq0 (Ak hsp hsq));clear hq0 hpq hsp hsq hsx hsy;obtain⟨ce00,ce01⟩:=e0.cells2;have fe0:=e0.frozen;obtain⟨ce10,ce11⟩:=e1.cells2;have fe1:=e1.frozen;obtain⟨ce20,ce21,ce22,ce23⟩:=e2.cells4;have fe2:=e2.frozen
  go_wp2_with fail
  refine AL (Um _ q _ (hr.has Hc.out.2.2)) ?_;rintro r w3 ⟨b,rfl,hb⟩ hx3;replace p1:=p1.ext hx3;replace hr:=hr.ext hx3;replace e0:=e0.ext hx3;replace e1:=e1.ext hx3;replace e2:=e2.ext hx3;replace hx1:=hx1.trans hx3;clear hx3;clear ce00 ce01 fe0 ce10 ce11 fe1 ce20 ce21 ce22 ce23 fe2;obtain⟨ce00,ce01⟩:=e0.cells2;have fe0:=e0.frozen;obtain⟨ce10,ce11⟩:=e1.cells2;have fe1:=e1.frozen;obtain⟨ce20,ce21,ce22,ce23⟩:=e2.cells4
  have fe2:=e2.frozen;cases b
  ·clear hb
   go_wp2_with fail
   refine AL (Ux _ _ p q _ (p1.has Hc.out.2.1) (hr.has Hc.out.2.2)) ?_;rintro r w4 hg hx4;replace p1:=p1.ext hx4;replace hr:=hr.ext hx4;replace e0:=e0.ext hx4;replace e1:=e1.ext hx4;replace e2:=e2.ext hx4;replace hx1:=hx1.trans hx4;clear hx4;clear ce00 ce01 fe0 ce10 ce11 fe1 ce20 ce21 ce22 ce23 fe2;obtain⟨b5,A5,n5,c5,rfl⟩:=hg.cells;obtain⟨ce00,ce01⟩:=e0.cells2;have fe0:=e0.frozen;obtain⟨ce10,ce11⟩:=e1.cells2
   have fe1:=e1.frozen;obtain⟨ce20,ce21,ce22,ce23⟩:=e2.cells4;have fe2:=e2.frozen;have hgs:=VI (p:=p) Hc.out.1 Hc.out.2.2;have hg0:((Int.gcd p q:Nat):Int)≠0:=by have:=Int.gcd_pos_of_ne_zero_right p (show q≠0 by have:=Hc.out.1;omega);omega
   have Hg:=Ad (Ak hgs hg0);clear hgs hg0;have l0:=e0.lt;have l1:=e1.lt;have l2:=e2.lt
   go_wp2_with fail
   obtain⟨W5,eW5,e5,x5⟩:=Bj.made w4 26 #[.bool b5,.slice A5 n5 c5] (by simp[Ag]);rw[←eW5];clear eW5;replace p1:=p1.ext x5;replace hr:=hr.ext x5;replace hg:=hg.ext x5;replace e0:=e0.ext x5;replace e1:=e1.ext x5;replace e2:=e2.ext x5;replace hx1:=hx1.trans x5;clear x5;clear ce00 ce01 fe0 ce10 ce11 fe1 ce20 ce21 ce22 ce23 fe2;refine AL (Um _ _ _ (hg.has Hg.out.1)) ?_;rintro r w6 ⟨b,rfl,hb⟩ hx4;replace p1:=p1.ext hx4
   replace hr:=hr.ext hx4;replace hg:=hg.ext hx4;replace e0:=e0.ext hx4;replace e1:=e1.ext hx4;replace e2:=e2.ext hx4;replace e5:=e5.ext hx4;replace hx1:=hx1.trans hx4;clear hx4;obtain⟨ce00,ce01⟩:=e0.cells2;have fe0:=e0.frozen;obtain⟨ce10,ce11⟩:=e1.cells2;have fe1:=e1.frozen;obtain⟨ce20,ce21,ce22,ce23⟩:=e2.cells4;have fe2:=e2.frozen;obtain⟨ce50,ce51⟩:=e5.cells2;have fe5:=e5.frozen;cases b
   ·clear hb
    go_wp2_with fail
    refine AL (I9 _ _ p _ _ (p1.has Hc.out.2.1) (hg.has Hg.out.1) Hg.out.2 (Int.gcd_dvd_left ..)) ?_;rintro r w7 ⟨a7,rfl,h7⟩ hx4;obtain⟨b7,A7,n7,c7,rfl⟩:=h7.cells;replace hr:=hr.ext hx4;replace hg:=hg.ext hx4;replace e0:=e0.ext hx4;replace e1:=e1.ext hx4;replace e2:=e2.ext hx4;replace e5:=e5.ext hx4;replace hx1:=hx1.trans hx4;clear hx4;clear ce00 ce01 fe0 ce10 ce11 fe1 ce20 ce21 ce22 ce23 fe2 ce50 ce51 fe5 p1
    obtain⟨ce00,ce01⟩:=e0.cells2;have fe0:=e0.frozen;obtain⟨ce10,ce11⟩:=e1.cells2;have fe1:=e1.frozen;obtain⟨ce20,ce21,ce22,ce23⟩:=e2.cells4;have fe2:=e2.frozen;obtain⟨ce50,ce51⟩:=e5.cells2;have fe5:=e5.frozen
    go_upto_region 11 with(fail)
    obtain⟨W7,eW,e0',U⟩:=e0.put2 (.bool b7) (.slice A7 n7 c7) rfl rfl;rw[←eW];clear eW e0;replace hr:=hr.kd U.kd;replace hg:=hg.kd U.kd;replace h7:=h7.kd U.kd;replace e1:=e1.upd U Ai;replace e2:=e2.upd U Ai;replace e5:=e5.upd U Ai;replace hx1:=U.from_ hx1 Ai;have e0:=e0';clear U e0';clear ce00 ce01 fe0 ce10 ce11 fe1 ce20 ce21 ce22 ce23 fe2 ce50 ce51 fe5;obtain⟨ce00,ce01⟩:=e0.cells2;have fe0:=e0.frozen
    obtain⟨ce10,ce11⟩:=e1.cells2;have fe1:=e1.frozen;obtain⟨ce20,ce21,ce22,ce23⟩:=e2.cells4;have fe2:=e2.frozen;obtain⟨ce50,ce51⟩:=e5.cells2;have fe5:=e5.frozen
    go_wp2_with fail
    refine AL (I9 _ _ q _ _ (hr.has Hc.out.2.2) (hg.has Hg.out.1) Hg.out.2 (Int.gcd_dvd_right ..)) ?_;rintro r w8 ⟨a8,rfl,h8⟩ hx4;obtain⟨b8,A8,n8,c8,rfl⟩:=h8.cells;replace h7:=h7.ext hx4;replace e0:=e0.ext hx4;replace e1:=e1.ext hx4;replace e2:=e2.ext hx4;replace hx1:=hx1.trans hx4;clear hx4;clear ce00 ce01 fe0 ce10 ce11 fe1 ce20 ce21 ce22 ce23 fe2 ce50 ce51 fe5 hr hg e5;obtain⟨ce00,ce01⟩:=e0.cells2
    have fe0:=e0.frozen;obtain⟨ce10,ce11⟩:=e1.cells2;have fe1:=e1.frozen;obtain⟨ce20,ce21,ce22,ce23⟩:=e2.cells4;have fe2:=e2.frozen
    go_upto_region 12 with(fail)
    obtain⟨W8,eW,e1',U⟩:=e1.put2 (.bool b8) (.slice A8 n8 c8) rfl rfl;rw[←eW];clear eW e1;replace h7:=h7.kd U.kd;replace h8:=h8.kd U.kd;replace e0:=e0.upd U Ai;replace e2:=e2.upd U Ai;replace hx1:=U.from_ hx1 Ai;have e1:=e1';clear U e1';clear ce00 ce01 fe0 ce10 ce11 fe1 ce20 ce21 ce22 ce23 fe2;obtain⟨ce00,ce01⟩:=e0.cells2;have fe0:=e0.frozen;obtain⟨ce10,ce11⟩:=e1.cells2;have fe1:=e1.frozen;obtain⟨ce20,ce21,ce22,ce23⟩:=e2.cells4
    have fe2:=e2.frozen;go_wp2
    try clear ce00 ce01 fe0 ce10 ce11 fe1
    clear ce20 ce21 ce22 ce23 fe2;obtain⟨W9,eW,e2',U⟩:=e2.put4 (.bool b7) (.slice A7 n7 c7) (.bool b8) (.slice A8 n8 c8) rfl rfl rfl rfl;rw[←eW];clear eW e2;replace h7:=h7.kd U.kd;replace h8:=h8.kd U.kd;replace hx1:=U.from_ hx1 Ai;have e2:=e2';clear U e2';obtain⟨ce20,ce21,ce22,ce23⟩:=e2.cells4;have fe2:=e2.frozen;refine bodyPost_ret (v := .agg #[.bool b7,.slice A7 n7 c7,.bool b8,.slice A8 n8 c8]) (by simp[results,Tryz.results149,go_sem,ce20,ce21,ce22,ce23]) rfl ?_
    exact Ah.mk (BD.mk_ h7 h8 (by rw[Hpq.out];exact(CY Hc.out.1).1.symm) (by rw[Hpq.out];exact(CY Hc.out.1).2.symm)) hx1
   ·have H1:=Ad (hb rfl);clear hb
    go_wp2;clear ce50 ce51 fe5
    try clear ce00 ce01 fe0 ce10 ce11 fe1
    clear ce20 ce21 ce22 ce23 fe2;obtain⟨W9,eW,e2',U⟩:=e2.put4 (.bool b1) (.slice A1 n1 c1) (.bool b2) (.slice A2 n2 c2) rfl rfl rfl rfl;rw[←eW];clear eW e2;replace p1:=p1.kd U.kd;replace hr:=hr.kd U.kd;replace hx1:=U.from_ hx1 Ai;have e2:=e2';clear U e2';obtain⟨ce20,ce21,ce22,ce23⟩:=e2.cells4;have fe2:=e2.frozen;refine bodyPost_ret (v := .agg #[.bool b1,.slice A1 n1 c1,.bool b2,.slice A2 n2 c2]) (by simp[results,Tryz.results149,go_sem,ce20,ce21,ce22,ce23]) rfl ?_
    exact Ah.mk (BD.mk_ p1 hr (by rw[Hpq.out,(CY Hc.out.1).1,H1.out];simp) (by rw[Hpq.out,(CY Hc.out.1).2,H1.out];simp)) hx1
  ·have hq1:=hb rfl;clear hb
   have H1:=Ad hq1;clear hq1;go_wp2
   try clear ce00 ce01 fe0 ce10 ce11 fe1
   clear ce20 ce21 ce22 ce23 fe2;obtain⟨W9,eW,e2',U⟩:=e2.put4 (.bool b1) (.slice A1 n1 c1) (.bool b2) (.slice A2 n2 c2) rfl rfl rfl rfl;rw[←eW];clear eW e2;replace p1:=p1.kd U.kd;replace hr:=hr.kd U.kd;replace hx1:=U.from_ hx1 Ai;have e2:=e2';clear U e2';obtain⟨ce20,ce21,ce22,ce23⟩:=e2.cells4;have fe2:=e2.frozen;refine bodyPost_ret (v := .agg #[.bool b1,.slice A1 n1 c1,.bool b2,.slice A2 n2 c2]) (by simp[results,Tryz.results149,go_sem,ce20,ce21,ce22,ce23]) rfl ?_
   exact Ah.mk (BD.mk_ p1 hr (by rw[Hpq.out,H1.out];exact(I4 p).1.symm) (by rw[Hpq.out,H1.out];exact(I4 p).2.symm)) hx1
end Go.Proofs.YtmhgnigpmompmaaGreat
namespace Go.Hp
theorem BD.cells{w:World}{v:Value}{q:Rat}(h:BD w v q):∃ b A n c b' A' n' c',v = .agg #[.bool b,.slice A n c,.bool b',.slice A' n' c']:=by
 obtain⟨b,A,n,c,b',A',n',c',e,_⟩:=h;exact⟨_,_,_,_,_,_,_,_,e⟩
theorem Cy{w w1:World}{g n c n' c':Nat}{A A':Option Addr}{b b':Bool}{q:Rat}(h:BD w1 (.agg #[.bool b,.slice A n c,.bool b',.slice A' n' c']) q)(hx:Ext w w1)(hn:AX w1 g)(hg:w.heap.size≤g) :
  Ah w (fun r w'=>BD w' r q) (.returned (.agg #[.bool b,.slice A n c,.bool b',.slice A' n' c'])) ((((w1.setCell ⟨g,0,none⟩ (.bool b)).setCell ⟨g,1,none⟩ (.slice A n c)).setCell ⟨g,2,none⟩ (.bool b')).setCell ⟨g,3,none⟩ (.slice A' n' c')):=
 Ah.mk (h.kd (((((KD.refl w1).set_ (i:=0) hn (.bool b)).set_ (i:=1) (hn.set_ rfl) (.slice A n c)).set_ (i:=2) ((hn.set_ rfl).set_ rfl) (.bool b')).set_ (i:=3) (((hn.set_ rfl).set_ rfl).set_ rfl) (.slice A' n' c'))) ((((hx.setCell _ _ hg).setCell _ _ hg).setCell _ _ hg).setCell _ _ hg)
theorem MK(x y:Int):(Rat.divInt x y).num.sign=x.sign*y.sign:=by
 rcases Int.lt_trichotomy y 0 with h | h | h
 ·rw[show Rat.divInt x y=Rat.divInt (-x) (-y)from(Rat.neg_divInt_neg x y).symm,(CY Aa).1,Int.sign_eq_neg_one_of_neg h]
  have hg:=Int.gcd_pos_of_ne_zero_right (-x) (show -y≠0 by omega);have hd:(Int.gcd (-x) (-y):Int) ∣ -x:=Int.gcd_dvd_left ..;obtain⟨k,hk⟩:=hd;have e : -x / ((-x).gcd (-y):Nat)=k:=Int.ediv_eq_of_eq_mul_right Aa hk;have hs:=congrArg Int.sign hk;rw[Int.sign_mul,Int.sign_eq_one_of_pos (a:=(((-x).gcd (-y):Nat):Int)) Aa,Int.sign_neg]at hs;rw[e];omega
 ·subst h;simp
 ·rw[(CY h).1,Int.sign_eq_one_of_pos h]
  have hg:=Int.gcd_pos_of_ne_zero_right x (show y≠0 by omega);obtain⟨k,hk⟩:(Int.gcd x y:Int)∣x:=Int.gcd_dvd_left ..;have e:x / (x.gcd y:Nat)=k:=Int.ediv_eq_of_eq_mul_right Aa hk;have hs:=congrArg Int.sign hk;rw[Int.sign_mul,Int.sign_eq_one_of_pos (a:=((x.gcd y:Nat):Int)) Aa]at hs;rw[e];omega
theorem Xu(x:Int):Rat.divInt x 1=((x:Int):Rat):=Rat.ext (I4 x).1 (by have:=(I4 x).2;show _=1;omega)
def dZ(_:World)(v:Value)(n:Int):Prop:=v = .int .i64 n
theorem dZ.ext{w w':World}{v:Value}{n:Int}(h:dZ w v n)(_:Ext w w'):dZ w' v n:=h
def FB(q:Rat):Int:=q.num.sign
theorem QX{q:Rat}:FB q=0↔q=0:=by unfold FB;rw[Int.sign_eq_zero_iff_zero];exact Rat.num_eq_zero
theorem Nj(a b c d:Int):Rat.divInt (a*d) (b*c)=Rat.divInt a b / Rat.divInt c d:=by
 rw[Rat.div_def,Rat.inv_divInt,Rat.divInt_mul_divInt]
theorem BQ.form{w:World}{v:Value}{q:Rat}(h:BQ w v q):∃ b A n c b' A' n' c' x y,v = .agg #[.bool b,.slice A n c,.bool b',.slice A' n' c']∧Bu w (.agg #[.bool b,.slice A n c]) x∧Bu w (.agg #[.bool b',.slice A' n' c']) y∧sz x.natAbs≤274877906944∧sz y.natAbs≤274877906944∧q=Rat.divInt x y:=h
end Go.Hp
namespace Go.Proofs.YtmhgnigpmompmaaGreat
open Go.RowKit Go.Hp
theorem GN(v:Value)(q:Rat)(w:World)(hv:BQ w v q):Bh 133 #[v] w (fun r w'=>BD w' r q):=by
 obtain⟨b,A,n,c,b',A',n',c',x,y,rfl,hx,hy,sx,sy,hq⟩:=hv.form;have HX:=Ad hx;have HY:=Ad hy;clear hx hy hv sx sy;have Hq:=Ad hq;clear hq
 go_enter Tryz.func133,Tryz.ntmps133
 go_wp2_with fail
 refine AL (JP _ _ x y _ (HX.out.ext (((Ext.refl w).alloc _).alloc _)) (HY.out.ext (((Ext.refl w).alloc _).alloc _))) ?_;rintro r w1 hr hx1;rw[←Hq.out]at hr;obtain⟨b5,A5,n5,c5,b6,A6,n6,c6,rfl⟩:=hr.cells;have hc1:=hx1.cells;have hf1:=hx1.frozens;have Hfin:=Ad (Cy hr hx1.a2 (AX.at_ hx1 (g:=w.heap.size+1) Ac (by simp[Ag])) Aa);clear hr;go_wp2;refine bodyPost_ret (v := .agg #[.bool b5,.slice A5 n5 c5,.bool b6,.slice A6 n6 c6]) (by simp[results,Tryz.results133,go_sem,hc1]) rfl ?_
 exact Hfin.out
theorem eT(v u:Value)(x y:Int)(w:World)(hv:Bu w v x)(hu:Bu w u y)(h0:y≠0):Bh 159 #[v,u] w (fun r w'=>∃ a,r = .tuple #[a,.int .i64 0]∧BD w' a (Rat.divInt x y)):=by
 have HX:=Ad hv;have HY:=Ad hu;have H0:=Ad h0;clear h0;obtain⟨neg,A,n,c,N,rfl,h1,h2,h3,hN,hx⟩:=hv.form;obtain⟨neg',A',n',c',M,rfl,k1,k2,k3,kN,hy⟩:=hu.form;clear hN hx hv hu kN hy
 go_enter Tryz.func159,Tryz.ntmps159
 go_wp2_with fail
 refine AL (IL _ y _ (HY.out.ext ((((Ext.refl w).alloc _).alloc _).alloc _))) ?_;rintro r w1 rfl hx1;have hb:(y.sign==0)=false:=by simpa[Int.sign_eq_zero_iff_zero] using H0.out
 have hc1:=hx1.cells;have hf1:=hx1.frozens
 go_wp2_with fail
 refine AL (JP _ _ x y _ (HX.out.ext hx1.a3) (HY.out.ext hx1.a3)) ?_;rintro r w2 hr hx2;replace hx1:=hx1.trans hx2;clear hc1 hf1 hx2;obtain⟨b5,A5,n5,c5,b6,A6,n6,c6,rfl⟩:=hr.cells;have hc1:=hx1.cells;have hf1:=hx1.frozens;have Hfin:=Ad (Cy hr hx1.a3 (AX.at_ hx1 (g:=w.heap.size+2) Ac (by simp[Ag])) Aa);clear hr;go_wp2;refine bodyPost_ret (v := .tuple #[.agg #[.bool b5,.slice A5 n5 c5,.bool b6,.slice A6 n6 c6],.int .i64 0]) (by simp[results,Tryz.results159,go_sem,hc1]) rfl ?_
 obtain⟨r,e,hr,hx⟩:=Hfin.out;cases e;exact Ah.mk ⟨_,rfl,hr⟩ hx
theorem Ye(n:Int)(w:World)(h1 : -9223372036854775808≤n)(h2:n < 9223372036854775808):Bh 120 #[.int .i64 n] w (fun r w'=>BD w' r (n:Rat)):=by
 go_enter Tryz.func120,Tryz.ntmps120
 go_wp2_with fail
 refine AL (Jv n _ h1 h2) ?_;rintro r w1 hn hx1
 go_wp2_with fail
 refine AL (Jv 1 _ Aa Aa) ?_;rintro r w2 h1' hx2;replace hn:=hn.ext hx2;replace hx1:=hx1.trans hx2;clear hx2;obtain⟨b5,A5,n5,c5,rfl⟩:=hn.cells;obtain⟨b6,A6,n6,c6,rfl⟩:=h1'.cells;have hr:=BD.mk_ hn h1' (q:=(n:Rat)) rfl rfl;clear hn h1';have hc1:=hx1.cells;have hf1:=hx1.frozens;have Hfin:=Ad (Cy hr hx1.a1 (AX.at_ hx1 (g:=w.heap.size+0) Ac (by simp[Ag])) Aa);clear hr;go_wp2;refine bodyPost_ret (v := .agg #[.bool b5,.slice A5 n5 c5,.bool b6,.slice A6 n6 c6]) (by simp[results,Tryz.results120,go_sem,hc1]) rfl ?_
 exact Hfin.out
theorem Ih(v:Value)(x:Int)(w:World)(hv:Bu w v x):Bh 102 #[v] w (fun r w'=>BD w' r (x:Rat)):=by
 have HX:=Ad hv;obtain⟨neg,A,n,c,N,rfl,h1,h2,h3,hN,hx⟩:=hv.form;clear hN hx hv
 go_enter Tryz.func102,Tryz.ntmps102
 go_wp2_with fail
 refine AL (IM _ x _ (HX.out.ext (((Ext.refl w).alloc _).alloc _))) ?_;rintro r w1 hn hx1
 go_wp2_with fail
 refine AL (Jv 1 _ Aa Aa) ?_;rintro r w2 h1' hx2;replace hn:=hn.ext hx2;replace hx1:=hx1.trans hx2;clear hx2;obtain⟨b5,A5,n5,c5,rfl⟩:=hn.cells;obtain⟨b6,A6,n6,c6,rfl⟩:=h1'.cells;have hr:=BD.mk_ hn h1' (q:=(x:Rat)) rfl rfl;clear hn h1';have hc1:=hx1.cells;have hf1:=hx1.frozens;have Hfin:=Ad (Cy hr hx1.a2 (AX.at_ hx1 (g:=w.heap.size+1) Ac (by simp[Ag])) Aa);clear hr;go_wp2;refine bodyPost_ret (v := .agg #[.bool b5,.slice A5 n5 c5,.bool b6,.slice A6 n6 c6]) (by simp[results,Tryz.results102,go_sem,hc1]) rfl ?_
 exact Hfin.out
theorem Rp(x:Int) : -1≤x.sign∧x.sign≤1:=by
 rcases Int.lt_trichotomy x 0 with h | h | h
 ·rw[Int.sign_eq_neg_one_of_neg h];omega
 ·subst h;simp
 ·rw[Int.sign_eq_one_of_pos h];omega
theorem Iy(x y:Int) : -1≤x.sign*y.sign∧x.sign*y.sign≤1:=by rw[←Int.sign_mul];exact Rp _
theorem MS(v:Value)(q:Rat)(w:World)(hv:BQ w v q):Bh 89 #[v] w (fun r _=>r = .int .i64 (FB q)):=by
 obtain⟨b,A,n,c,b',A',n',c',x,y,rfl,hx,hy,sx,sy,hq⟩:=hv.form;have HX:=Ad hx;have HY:=Ad hy;clear hx hy hv sx sy;have Hq:=Ad (show FB q=x.sign*y.sign by rw[hq];exact MK x y);clear hq;have hb:=Iy x y
 go_enter Tryz.func89,Tryz.ntmps89
 go_wp2_with fail
 refine Ae 5 [3,4,5,6,7] [[],[0],[0,1],[],[3],[0,1,2,3,4],[0,1,2,3,4,5],[0,1,2,3,4,5,6]] [1] [_] [(kv ?_),(kv ?_),(fun γ=>γ 2),(kv ?_),(kv ?_)] (fun γ w'=>[True,True,dZ w' (γ 2) x.sign,True,True]) Bn Aj Aj Bo Aj Bl Br ?hstep1 ?_
 case hstep1 =>
  iterate 5 refine⟨?_,?_⟩
  trivial
  iterate 2 focus
   intro γ w' he hf;clear hf;refine⟨by trivial,?_⟩;intro R hR;have hc:=he.cells;go_simp;refine hR _ _ (Ext.refl _) ?_ trivial;rfl
  ·intro γ w' he hf;clear hf;refine⟨trivial,?_⟩;intro R hR
   go_simp;exact Bd (IL _ x w' (HX.out.ext he.a1)) hR
  iterate 2 focus
   intro γ w' he hf;clear hf;refine⟨by trivial,?_⟩;intro R hR;have hc:=he.cells;go_simp;refine hR _ _ (Ext.refl _) ?_ trivial;rfl
 intro γ w1 hx1 hF;have p2:dZ w1 (γ 2) x.sign:=AA.get hF 2 Ab;clear hF;simp only[Bf,Nat.reduceAdd];generalize γ 2=g2 at *;clear γ;obtain rfl:g2 = .int .i64 x.sign:=p2
 go_wp2_with fail
 refine AL (IL _ y _ (HY.out.ext hx1.a1)) ?_;rintro r w2 rfl hx2;replace hx1:=hx1.trans hx2;go_wp2
 go_ret
 exact Ah.mk (by rw[Hq.out];rfl) hx1.a1
theorem aL(v:Value)(q:Rat)(w:World)(hv:BQ w v q):Bh 103 #[v] w (fun r w'=>BD w' r (-q)):=by
 obtain⟨b,A,n,c,b',A',n',c',x,y,rfl,hx,hy,sx,sy,hq⟩:=hv.form;have HX:=Ad hx;have HY:=Ad hy;clear hx hy hv;have Hq:=Ad hq;clear hq
 go_enter Tryz.func103,Tryz.ntmps103
 go_wp2_with fail
 refine Ae 5 [3,4,5,6,7] [[],[0],[0,1],[],[3],[0,1,2,3,4],[0,1,2,3,4,5]] [1] [_] [(kv ?_),(kv ?_),(fun γ=>γ 2),(kv ?_),(kv ?_)] (fun γ w'=>[True,True,AO w' (γ 2) (-x),True,True]) Bn Aj Aj Bo Aj Bl Br ?hstep2 ?_
 case hstep2 =>
  iterate 5 refine⟨?_,?_⟩
  trivial
  iterate 2 focus
   intro γ w' he hf;clear hf;refine⟨by trivial,?_⟩;intro R hR;have hc:=he.cells;go_simp;refine hR _ _ (Ext.refl _) ?_ trivial;rfl
  ·intro γ w' he hf;clear hf;refine⟨trivial,?_⟩;intro R hR
   go_simp;exact Bd (Ur _ x w' (HX.out.ext he.a2)) hR
  iterate 2 focus
   intro γ w' he hf;clear hf;refine⟨by trivial,?_⟩;intro R hR;have hc:=he.cells;go_simp;refine hR _ _ (Ext.refl _) ?_ trivial;rfl
 intro γ w1 hx1 hF;have p2:AO w1 (γ 2) (-x):=AA.get hF 2 Ab;clear hF;simp only[Bf,Nat.reduceAdd];generalize γ 2=g2 at *;clear γ
 go_wp2_with fail
 refine AL (JP _ _ (-x) y _ (p2.has (by rw[Int.natAbs_neg];omega)) (HY.out.ext hx1.a2)) ?_;rintro r w2 hr hx2;replace hx1:=hx1.trans hx2;clear hx2 p2;rw[←Rat.neg_divInt,←Hq.out]at hr;obtain⟨b5,A5,n5,c5,b6,A6,n6,c6,rfl⟩:=hr.cells;have hc1:=hx1.cells;have hf1:=hx1.frozens;have Hfin:=Ad (Cy hr hx1.a2 (AX.at_ hx1 (g:=w.heap.size+1) Ac (by simp[Ag])) Aa);clear hr;go_wp2;refine bodyPost_ret (v := .agg #[.bool b5,.slice A5 n5 c5,.bool b6,.slice A6 n6 c6]) (by simp[results,Tryz.results103,go_sem,hc1]) rfl ?_
 exact Hfin.out
theorem I1{x y:Int}(hx:sz x.natAbs≤274877906944)(hy:sz y.natAbs≤274877906944):sz (x*y).natAbs≤549755813888:=by
 rw[Int.natAbs_mul];have:=Cc x.natAbs y.natAbs;omega
theorem Yx(v u:Value)(p q:Rat)(w:World)(hv:BQ w v p)(hu:BQ w u q):Bh 140 #[v,u] w (fun r w'=>BD w' r (p*q)):=by
 obtain⟨b,A,n,c,b',A',n',c',x,y,rfl,hx,hy,sx,sy,hp⟩:=hv.form;obtain⟨d,E,m,e,d',E',m',e',s,t,rfl,hs,ht,ss,st,hq⟩:=hu.form;have HX:=Ad (Ak hx hy);have HY:=Ad (Ak hs ht);clear hx hy hv hs ht hu;have Hq:=Ad (show Rat.divInt (x*s) (y*t)=p*q by rw[hp,hq,Rat.divInt_mul_divInt]);clear hp hq;have m1:=I1 sx ss;have m2:=I1 sy st
 go_enter Tryz.func140,Tryz.ntmps140
 go_wp2_with fail
 refine Ae 9 [5,6,7,8,9,10,11,12,13] [[],[0],[],[2],[0,1,2,3],[],[5],[],[7],[0,1,2,3,4,5,6,7,8],[0,1,2,3,4,5,6,7,8,9],[0,1,2,3,4,5,6,7,8,9,10]] [2,3] [_,_] [(kv ?_),(kv ?_),(kv ?_),(kv ?_),(fun γ=>γ 4),(kv ?_),(kv ?_),(kv ?_),(kv ?_)] (fun γ w'=>[True,True,True,True,AO w' (γ 4) (x*s),True,True,True,True]) Bn Aj Aj Bo Aj Bl Br ?hstep3 ?_
 case hstep3 =>
  iterate 9 refine⟨?_,?_⟩
  trivial
  iterate 4 focus
   intro γ w' he hf;clear hf;refine⟨by trivial,?_⟩;intro R hR;have hc:=he.cells;go_simp;refine hR _ _ (Ext.refl _) ?_ trivial;rfl
  ·intro γ w' he hf;clear hf;refine⟨trivial,?_⟩;intro R hR
   go_simp;exact Bd (DF _ _ x s w' (HX.out.1.ext he.a3) (HY.out.1.ext he.a3)) hR
  iterate 4 focus
   intro γ w' he hf;clear hf;refine⟨by trivial,?_⟩;intro R hR;have hc:=he.cells;go_simp;refine hR _ _ (Ext.refl _) ?_ trivial;rfl
 intro γ w1 hx1 hF;have p4:AO w1 (γ 4) (x*s):=AA.get hF 4 Ab;clear hF;simp only[Bf,Nat.reduceAdd];generalize γ 4=g4 at *;clear γ
 go_wp2_with fail
 refine AL (DF _ _ y t _ (HX.out.2.ext hx1.a3) (HY.out.2.ext hx1.a3)) ?_;rintro g9 w9 p9 hx9;replace p4:=p4.ext hx9;replace hx1:=hx1.trans hx9;clear hx9
 go_wp2_with fail
 refine AL (JP _ _ (x*s) (y*t) _ (p4.has Aa) (p9.has Aa)) ?_;rintro r w2 hr hx2;replace hx1:=hx1.trans hx2;clear hx2 p4 p9;rw[Hq.out]at hr;obtain⟨b5,A5,n5,c5,b6,A6,n6,c6,rfl⟩:=hr.cells;have hc1:=hx1.cells;have hf1:=hx1.frozens;have Hfin:=Ad (Cy hr hx1.a3 (AX.at_ hx1 (g:=w.heap.size+2) Ac (by simp[Ag])) Aa);clear hr;go_wp2;refine bodyPost_ret (v := .agg #[.bool b5,.slice A5 n5 c5,.bool b6,.slice A6 n6 c6]) (by simp[results,Tryz.results140,go_sem,hc1]) rfl ?_
 exact Hfin.out
theorem XE(v u:Value)(p q:Rat)(w:World)(hv:BQ w v p)(hu:BQ w u q)(h0:q≠0):Bh 122 #[v,u] w (fun r w'=>∃ a,r = .tuple #[a,.int .i64 0]∧BD w' a (p / q)):=by
 have HU:=Ad hu;obtain⟨b,A,n,c,b',A',n',c',x,y,rfl,hx,hy,sx,sy,hp⟩:=hv.form;obtain⟨d,E,m,e,d',E',m',e',s,t,rfl,hs,ht,ss,st,hq⟩:=hu.form;have HX:=Ad (Ak hx hy);have HY:=Ad (Ak hs ht);clear hx hy hv hs ht hu;have Hq:=Ad (show Rat.divInt (x*t) (y*s)=p / q by rw[hp,hq];exact Nj x y s t);clear hp hq;have m1:=I1 sx st;have m2:=I1 sy ss;have hb:(FB q==0)=false:=by simpa[QX] using h0
 clear h0
 go_enter Tryz.func122,Tryz.ntmps122
 go_wp2_with fail
 refine AL (MS _ q _ (HU.out.ext ((((Ext.refl w).alloc _).alloc _).alloc _))) ?_;rintro r w0 rfl hx0;have hc0:=hx0.cells;have hf0:=hx0.frozens
 go_wp2_with fail
 have ca0:=hx0.a1.a1.box (g:=w.heap.size) (i:=0) rfl rfl;have ca1:=hx0.a1.a1.box (g:=w.heap.size) (i:=1) rfl rfl;have ca2:=hx0.a1.a1.box (g:=w.heap.size) (i:=2) rfl rfl;have ca3:=hx0.a1.a1.box (g:=w.heap.size) (i:=3) rfl rfl;have cb0:=hx0.a1.box (g:=w.heap.size+1) (i:=0) Ac rfl;have cb1:=hx0.a1.box (g:=w.heap.size+1) (i:=1) Ac rfl;have cb2:=hx0.a1.box (g:=w.heap.size+1) (i:=2) Ac rfl;have cb3:=hx0.a1.box (g:=w.heap.size+1) (i:=3) Ac rfl
 refine Ae 9 [10,11,12,13,14,15,16,17,18] [[],[0],[],[2],[0,1,2,3],[],[5],[],[7],[0,1,2,3,4,5,6,7,8],[0,1,2,3,4,5,6,7,8,9],[0,1,2,3,4,5,6,7,8,9,10],[0,1,2,3,4,5,6,7,8,9,10,11]] [2,3] [_,_] [(kv ?_),(kv ?_),(kv ?_),(kv ?_),(fun γ=>γ 4),(kv ?_),(kv ?_),(kv ?_),(kv ?_)] (fun γ w'=>[True,True,True,True,AO w' (γ 4) (x*t),True,True,True,True]) Bn Aj Aj Bo Aj Bl Br ?hstep4 ?_
 case hstep4 =>
  iterate 9 refine⟨?_,?_⟩
  trivial
  iterate 4 focus
   intro γ w' he hf;clear hf;refine⟨by trivial,?_⟩;intro R hR;have hc:=he.cells;have cq0:=he.cell ca0;have cq1:=he.cell ca1;have cq2:=he.cell ca2;have cq3:=he.cell ca3;have cq4:=he.cell cb0;have cq5:=he.cell cb1;have cq6:=he.cell cb2;have cq7:=he.cell cb3;go_simp;refine hR _ _ (Ext.refl _) ?_ trivial;rfl
  ·intro γ w' he hf;clear hf;refine⟨trivial,?_⟩;intro R hR
   go_simp;exact Bd (DF _ _ x t w' (HX.out.1.ext (hx0.trans he).a3) (HY.out.2.ext (hx0.trans he).a3)) hR
  iterate 4 focus
   intro γ w' he hf;clear hf;refine⟨by trivial,?_⟩;intro R hR;have hc:=he.cells;have cq0:=he.cell ca0;have cq1:=he.cell ca1;have cq2:=he.cell ca2;have cq3:=he.cell ca3;have cq4:=he.cell cb0;have cq5:=he.cell cb1;have cq6:=he.cell cb2;have cq7:=he.cell cb3;go_simp;refine hR _ _ (Ext.refl _) ?_ trivial;rfl
 intro γ w1 hx1 hF;have p4:AO w1 (γ 4) (x*t):=AA.get hF 4 Ab;clear hF;simp only[Bf,Nat.reduceAdd];generalize γ 4=g4 at *;clear γ;replace hx1:=hx0.trans hx1;clear hx0 hc0 hf0 ca0 ca1 ca2 ca3 cb0 cb1 cb2 cb3;have hc0:=hx1.cells;have hf0:=hx1.frozens
 go_wp2_with fail
 refine AL (DF _ _ y s _ (HX.out.2.ext hx1.a3) (HY.out.1.ext hx1.a3)) ?_;rintro g9 w9 p9 hx9;replace p4:=p4.ext hx9;replace hx1:=hx1.trans hx9;clear hx9 hc0 hf0
 go_wp2_with fail
 refine AL (JP _ _ (x*t) (y*s) _ (p4.has Aa) (p9.has Aa)) ?_;rintro r w2 hr hx2;replace hx1:=hx1.trans hx2;clear hx2 p4 p9;rw[Hq.out]at hr;obtain⟨b5,A5,n5,c5,b6,A6,n6,c6,rfl⟩:=hr.cells;have hc1:=hx1.cells;have hf1:=hx1.frozens;have Hfin:=Ad (Cy hr hx1.a3 (AX.at_ hx1 (g:=w.heap.size+2) Ac (by simp[Ag])) Aa);clear hr;go_wp2;refine bodyPost_ret (v := .tuple #[.agg #[.bool b5,.slice A5 n5 c5,.bool b6,.slice A6 n6 c6],.int .i64 0]) (by simp[results,Tryz.results122,go_sem,hc1]) rfl ?_
 obtain⟨r,e,hr,hx⟩:=Hfin.out;cases e;exact Ah.mk ⟨_,rfl,hr⟩ hx
theorem U5(v u:Value)(p q:Rat)(w:World)(hv:BQ w v p)(hu:BQ w u q):Bh 123 #[v,u] w (fun r w'=>BD w' r (p+q)):=by
 have HV:=Ad hv;have HU:=Ad hu;obtain⟨b,A,n,c,b',A',n',c',x,y,rfl,hx,hy,sx,sy,hp⟩:=hv.form;obtain⟨d,E,m,e,d',E',m',e',s,t,rfl,hs,ht,ss,st,hq⟩:=hu.form;have HX:=Ad (Ak hx hy);have HY:=Ad (Ak hs ht);clear hx hy hv hs ht hu;have Hpq:=Ad (Ak hp hq);clear hp hq
 go_enter Tryz.func123,Tryz.ntmps123
 go_wp2_with fail
 refine AL (IL _ y _ (HX.out.2.ext ((((Ext.refl w).alloc _).alloc _).alloc _))) ?_;rintro r w1 rfl hx1;have hc1:=hx1.cells;have hf1:=hx1.frozens;by_cases hy0:y=0
 ·have hb:(y.sign==0)=true:=by rw[hy0];rfl
  have Hz:=Ad (show p+q=q by rw[Hpq.out.1,hy0,Rat.divInt_zero];exact Rat.zero_add _);clear hy0
  go_wp2_with fail
  refine AL (GN _ q _ (HU.out.ext hx1.a3)) ?_;rintro r w2 hr hx2;replace hx1:=hx1.trans hx2;clear hx2 hc1 hf1;rw[←Hz.out]at hr;obtain⟨b5,A5,n5,c5,b6,A6,n6,c6,rfl⟩:=hr.cells;have hc1:=hx1.cells;have hf1:=hx1.frozens;have Hfin:=Ad (Cy hr hx1.a3 (AX.at_ hx1 (g:=w.heap.size+2) Ac (by simp[Ag])) Aa);clear hr;go_wp2;refine bodyPost_ret (v := .agg #[.bool b5,.slice A5 n5 c5,.bool b6,.slice A6 n6 c6]) (by simp[results,Tryz.results123,go_sem,hc1]) rfl ?_
  exact Hfin.out
 have hb:(y.sign==0)=false:=by simpa[Int.sign_eq_zero_iff_zero] using hy0
 have Hy0:=Ad hy0;clear hy0
 go_wp2_with fail
 refine AL (IL _ t _ (HY.out.2.ext hx1.a3)) ?_;rintro r w3 rfl hx3;clear hc1 hf1;replace hx1:=hx1.trans hx3;clear hx3;have hc1:=hx1.cells;have hf1:=hx1.frozens;by_cases ht0:t=0
 ·have hb:(t.sign==0)=true:=by rw[ht0];rfl
  have Hz:=Ad (show p+q=p by rw[Hpq.out.2,ht0,Rat.divInt_zero];exact Rat.add_zero _);clear ht0
  go_wp2_with fail
  refine AL (GN _ p _ (HV.out.ext hx1.a3)) ?_;rintro r w2 hr hx2;replace hx1:=hx1.trans hx2;clear hx2 hc1 hf1;rw[←Hz.out]at hr;obtain⟨b5,A5,n5,c5,b6,A6,n6,c6,rfl⟩:=hr.cells;have hc1:=hx1.cells;have hf1:=hx1.frozens;have Hfin:=Ad (Cy hr hx1.a3 (AX.at_ hx1 (g:=w.heap.size+2) Ac (by simp[Ag])) Aa);clear hr;go_wp2;refine bodyPost_ret (v := .agg #[.bool b5,.slice A5 n5 c5,.bool b6,.slice A6 n6 c6]) (by simp[results,Tryz.results123,go_sem,hc1]) rfl ?_
  exact Hfin.out
 have hb2:(t.sign==0)=false:=by simpa[Int.sign_eq_zero_iff_zero] using ht0
 have Ht0:=Ad ht0;clear ht0
 go_wp2_with fail
 refine AL (Um _ y _ (HX.out.2.ext hx1.a3)) ?_;rintro r w4 ⟨o1,rfl,ho1⟩ hx3;clear hc1 hf1;replace hx1:=hx1.trans hx3;clear hx3;have hc1:=hx1.cells;have hf1:=hx1.frozens;have m1:=I1 sx st;have m2:=I1 ss sy;have m3:=I1 sy st;have m4:sz (x*t+s*y).natAbs≤549755813889:=by
  have h1:=Bp (Int.natAbs_add_le (x*t) (s*y));have h2:=Gp (x*t).natAbs (s*y).natAbs;omega
 have Hz:=Ad (show p+q=Rat.divInt (x*t+s*y) (y*t) by rw[Hpq.out.1,Hpq.out.2,Rat.divInt_add_divInt _ _ Hy0.out Ht0.out]);have H1:=Ad ho1;clear ho1;cases o1
 ·go_wp2_with fail
  have l4:w.heap.size+3≤w4.heap.size:=by have:=hx1.size;simpa using this
  have ca0:=hx1.a1.a1.box (g:=w.heap.size) (i:=0) rfl rfl;have ca1:=hx1.a1.a1.box (g:=w.heap.size) (i:=1) rfl rfl;have ca2:=hx1.a1.a1.box (g:=w.heap.size) (i:=2) rfl rfl;have ca3:=hx1.a1.a1.box (g:=w.heap.size) (i:=3) rfl rfl;have cb0:=hx1.a1.box (g:=w.heap.size+1) (i:=0) Ac rfl;have cb1:=hx1.a1.box (g:=w.heap.size+1) (i:=1) Ac rfl;have cb2:=hx1.a1.box (g:=w.heap.size+1) (i:=2) Ac rfl;have cb3:=hx1.a1.box (g:=w.heap.size+1) (i:=3) Ac rfl
  refine Ae 12 [36,37,38,39,40,41,42,43,44,45,46,5] [[],[0],[],[2],[0,1,2,3],[],[5],[],[7],[0,1,2,3,4,5,6,7,8],[0,1,2,3,4,5,6,7,8,9],[],[0,1,2,3,4,5,6,7,8,9,10,11]] [2,3] [_,_] [(kv ?_),(kv ?_),(kv ?_),(kv ?_),(fun γ=>γ 4),(kv ?_),(kv ?_),(kv ?_),(kv ?_),(fun γ=>γ 9),(fun γ=>γ 10),(fun γ=>γ 11)] (fun γ w'=>[True,True,True,True,AO w' (γ 4) (x*t),True,True,True,True,AO w' (γ 9) (s*y),AO w' (γ 10) (x*t+s*y),AZ w' (γ 11) w4.heap.size #[.bool false,.slice none 0 0] 26]) Bn Aj Aj Bo Aj Bl Br ?hstep5 ?_
  case hstep5 =>
   iterate 12 refine⟨?_,?_⟩
   trivial
   iterate 4 focus
    intro γ w' he hf;clear hf;refine⟨by trivial,?_⟩;intro R hR;have hc:=he.cells;have cq0:=he.cell ca0;have cq1:=he.cell ca1;have cq2:=he.cell ca2;have cq3:=he.cell ca3;have cq4:=he.cell cb0;have cq5:=he.cell cb1;have cq6:=he.cell cb2;have cq7:=he.cell cb3;go_simp;refine hR _ _ (Ext.refl _) ?_ trivial;rfl
   ·intro γ w' he hf;clear hf;refine⟨trivial,?_⟩;intro R hR
    go_simp;exact Bd (DF _ _ x t w' (HX.out.1.ext (hx1.trans he).a3) (HY.out.2.ext (hx1.trans he).a3)) hR
   iterate 4 focus
    intro γ w' he hf;clear hf;refine⟨by trivial,?_⟩;intro R hR;have hc:=he.cells;have cq0:=he.cell ca0;have cq1:=he.cell ca1;have cq2:=he.cell ca2;have cq3:=he.cell ca3;have cq4:=he.cell cb0;have cq5:=he.cell cb1;have cq6:=he.cell cb2;have cq7:=he.cell cb3;go_simp;refine hR _ _ (Ext.refl _) ?_ trivial;rfl
   ·intro γ w' he hf;clear hf;refine⟨trivial,?_⟩;intro R hR
    go_simp;exact Bd (DF _ _ s y w' (HY.out.1.ext (hx1.trans he).a3) (HX.out.2.ext (hx1.trans he).a3)) hR
   ·intro γ w' he hf;have f4:AO w' (γ 4) (x*t):=hf 4 Ab;have f9:AO w' (γ 9) (s*y):=hf 9 Ab;clear hf;refine⟨trivial,?_⟩;intro R hR
    go_simp;exact Bd (ML _ _ _ _ w' (f4.has Aa) (f9.has Aa)) hR
   ·intro γ w' he hf;clear hf;refine⟨trivial,?_⟩;intro R hR
    go_simp;exact hR _ _ ((Ext.refl _).alloc _) rfl (AZ.mk (Nat.le_trans Ac he.size) (by simp[Ag]))
  intro γ w6 hx6 hF;have p4:AO w6 (γ 4) (x*t):=AA.get hF 4 Ab;have p9:AO w6 (γ 9) (s*y):=AA.get hF 9 Ab;have p10:AO w6 (γ 10) (x*t+s*y):=AA.get hF 10 Ab;have p11:AZ w6 (γ 11) w4.heap.size #[.bool false,.slice none 0 0] 26:=AA.get hF 11 Ab;clear hF;simp only[Bf,Nat.reduceAdd];generalize γ 4=g4 at *;generalize γ 9=g9 at *;generalize γ 10=g10 at *;generalize γ 11=g11 at *;clear γ;obtain⟨gb,rfl,hgb,eb⟩:=p11
  obtain⟨b7,A7,n7,c7,rfl⟩:=p10.cells;clear hc1 hf1 ca0 ca1 ca2 ca3 cb0 cb1 cb2 cb3 p4 p9;replace hx1:=hx1.trans hx6;obtain⟨ceb0,ceb1⟩:=eb.cells2;have feb:=eb.frozen
  go_upto_region 8 with(fail)
  obtain⟨W8,eW,eb',U⟩:=eb.put2 (.bool b7) (.slice A7 n7 c7) rfl rfl;rw[←eW];clear eW eb;replace p10:=p10.kd U.kd;replace hx1:=U.from_ hx1 Ai;have eb:=eb';clear U eb';clear ceb0 ceb1 feb;obtain⟨ceb0,ceb1⟩:=eb.cells2;have feb:=eb.frozen;have hc1:=hx1.cells;have ca0:=hx1.a1.a1.box (g:=w.heap.size) (i:=0) rfl rfl;have ca1:=hx1.a1.a1.box (g:=w.heap.size) (i:=1) rfl rfl;have ca2:=hx1.a1.a1.box (g:=w.heap.size) (i:=2) rfl rfl
  have ca3:=hx1.a1.a1.box (g:=w.heap.size) (i:=3) rfl rfl;have cb0:=hx1.a1.box (g:=w.heap.size+1) (i:=0) Ac rfl;have cb1:=hx1.a1.box (g:=w.heap.size+1) (i:=1) Ac rfl;have cb2:=hx1.a1.box (g:=w.heap.size+1) (i:=2) Ac rfl;have cb3:=hx1.a1.box (g:=w.heap.size+1) (i:=3) Ac rfl;refine Ae 6 [47,48,49,50,51,52] [[],[],[1],[],[3],[1,2,3,4],[0,1,2,3,4,5],[0,1,2,3,4,5,6]] [5,2,3] [_,_,_] [(kv ?_),(kv ?_),(kv ?_),(kv ?_),(kv ?_),(fun γ=>γ 5)] (fun γ w'=>[True,True,True,True,True,AO w' (γ 5) (y*t)]) Bn Aj Aj Bo Aj Bl Br ?hstep6 ?_
  case hstep6 =>
   iterate 6 refine⟨?_,?_⟩
   trivial
   iterate 5 focus
    intro γ w' he hf;clear hf;refine⟨by trivial,?_⟩;intro R hR;have hc:=he.cells;have cq0:=he.cell ceb0;have cq1:=he.cell ceb1;have cq2:=he.cell ca0;have cq3:=he.cell ca1;have cq4:=he.cell ca2;have cq5:=he.cell ca3;have cq6:=he.cell cb0;have cq7:=he.cell cb1;have cq8:=he.cell cb2;have cq9:=he.cell cb3;go_simp;refine hR _ _ (Ext.refl _) ?_ trivial;rfl
   ·intro γ w' he hf;clear hf;refine⟨trivial,?_⟩;intro R hR
    go_simp;exact Bd (DF _ _ y t w' (HX.out.2.ext (hx1.trans he).a3) (HY.out.2.ext (hx1.trans he).a3)) hR
  intro γ w8 hx9 hF;have p5:AO w8 (γ 5) (y*t):=AA.get hF 5 Ab;clear hF;simp only[Bf,Nat.reduceAdd];generalize γ 5=g5 at *;clear γ
  go_wp2_with fail
  refine AL (JP _ _ (x*t+s*y) (y*t) _ ((p10.ext hx9).has Aa) (p5.has Aa)) ?_;rintro r w10 hr hx10;rw[←Hz.out]at hr;clear hc1 p5 ca0 ca1 ca2 ca3 cb0 cb1 cb2 cb3 ceb0 ceb1 feb;replace hx1:=(hx1.trans hx9).trans hx10;clear hx9 hx10;obtain⟨b5,A5,n5,c5,b6,A6,n6,c6,rfl⟩:=hr.cells;have hc1:=hx1.cells;have hf1:=hx1.frozens;have Hfin:=Ad (Cy hr hx1.a3 (AX.at_ hx1 (g:=w.heap.size+2) Ac (by simp[Ag])) Aa);clear hr
  go_wp2;refine bodyPost_ret (v := .agg #[.bool b5,.slice A5 n5 c5,.bool b6,.slice A6 n6 c6]) (by simp[results,Tryz.results123,go_sem,hc1]) rfl ?_;exact Hfin.out
 ·go_wp2_with fail
  refine AL (Um _ t _ (HY.out.2.ext hx1.a3)) ?_;rintro r w5 ⟨o2,rfl,ho2⟩ hx3;clear hc1 hf1;replace hx1:=hx1.trans hx3;clear hx3;have hc1:=hx1.cells;have hf1:=hx1.frozens;have H2:=Ad ho2;clear ho2;cases o2
  ·go_wp2_with fail
   have l4:w.heap.size+3≤w5.heap.size:=by have:=hx1.size;simpa using this
   have ca0:=hx1.a1.a1.box (g:=w.heap.size) (i:=0) rfl rfl;have ca1:=hx1.a1.a1.box (g:=w.heap.size) (i:=1) rfl rfl;have ca2:=hx1.a1.a1.box (g:=w.heap.size) (i:=2) rfl rfl;have ca3:=hx1.a1.a1.box (g:=w.heap.size) (i:=3) rfl rfl;have cb0:=hx1.a1.box (g:=w.heap.size+1) (i:=0) Ac rfl;have cb1:=hx1.a1.box (g:=w.heap.size+1) (i:=1) Ac rfl;have cb2:=hx1.a1.box (g:=w.heap.size+1) (i:=2) Ac rfl;have cb3:=hx1.a1.box (g:=w.heap.size+1) (i:=3) Ac rfl
   refine Ae 12 [36,37,38,39,40,41,42,43,44,45,46,5] [[],[0],[],[2],[0,1,2,3],[],[5],[],[7],[0,1,2,3,4,5,6,7,8],[0,1,2,3,4,5,6,7,8,9],[],[0,1,2,3,4,5,6,7,8,9,10,11]] [2,3] [_,_] [(kv ?_),(kv ?_),(kv ?_),(kv ?_),(fun γ=>γ 4),(kv ?_),(kv ?_),(kv ?_),(kv ?_),(fun γ=>γ 9),(fun γ=>γ 10),(fun γ=>γ 11)] (fun γ w'=>[True,True,True,True,AO w' (γ 4) (x*t),True,True,True,True,AO w' (γ 9) (s*y),AO w' (γ 10) (x*t+s*y),AZ w' (γ 11) w5.heap.size #[.bool false,.slice none 0 0] 26]) Bn Aj Aj Bo Aj Bl Br ?hstep7 ?_
   case hstep7 =>
    iterate 12 refine⟨?_,?_⟩
    trivial
    iterate 4 focus
     intro γ w' he hf;clear hf;refine⟨by trivial,?_⟩;intro R hR;have hc:=he.cells;have cq0:=he.cell ca0;have cq1:=he.cell ca1;have cq2:=he.cell ca2;have cq3:=he.cell ca3;have cq4:=he.cell cb0;have cq5:=he.cell cb1;have cq6:=he.cell cb2;have cq7:=he.cell cb3;go_simp;refine hR _ _ (Ext.refl _) ?_ trivial;rfl
    ·intro γ w' he hf;clear hf;refine⟨trivial,?_⟩;intro R hR
     go_simp;exact Bd (DF _ _ x t w' (HX.out.1.ext (hx1.trans he).a3) (HY.out.2.ext (hx1.trans he).a3)) hR
    iterate 4 focus
     intro γ w' he hf;clear hf;refine⟨by trivial,?_⟩;intro R hR;have hc:=he.cells;have cq0:=he.cell ca0;have cq1:=he.cell ca1;have cq2:=he.cell ca2;have cq3:=he.cell ca3;have cq4:=he.cell cb0;have cq5:=he.cell cb1;have cq6:=he.cell cb2;have cq7:=he.cell cb3;go_simp;refine hR _ _ (Ext.refl _) ?_ trivial;rfl
    ·intro γ w' he hf;clear hf;refine⟨trivial,?_⟩;intro R hR
     go_simp;exact Bd (DF _ _ s y w' (HY.out.1.ext (hx1.trans he).a3) (HX.out.2.ext (hx1.trans he).a3)) hR
    ·intro γ w' he hf;have f4:AO w' (γ 4) (x*t):=hf 4 Ab;have f9:AO w' (γ 9) (s*y):=hf 9 Ab;clear hf;refine⟨trivial,?_⟩;intro R hR
     go_simp;exact Bd (ML _ _ _ _ w' (f4.has Aa) (f9.has Aa)) hR
    ·intro γ w' he hf;clear hf;refine⟨trivial,?_⟩;intro R hR
     go_simp;exact hR _ _ ((Ext.refl _).alloc _) rfl (AZ.mk (Nat.le_trans Ac he.size) (by simp[Ag]))
   intro γ w6 hx6 hF;have p4:AO w6 (γ 4) (x*t):=AA.get hF 4 Ab;have p9:AO w6 (γ 9) (s*y):=AA.get hF 9 Ab;have p10:AO w6 (γ 10) (x*t+s*y):=AA.get hF 10 Ab;have p11:AZ w6 (γ 11) w5.heap.size #[.bool false,.slice none 0 0] 26:=AA.get hF 11 Ab;clear hF;simp only[Bf,Nat.reduceAdd];generalize γ 4=g4 at *;generalize γ 9=g9 at *;generalize γ 10=g10 at *;generalize γ 11=g11 at *;clear γ;obtain⟨gb,rfl,hgb,eb⟩:=p11
   obtain⟨b7,A7,n7,c7,rfl⟩:=p10.cells;clear hc1 hf1 ca0 ca1 ca2 ca3 cb0 cb1 cb2 cb3 p4 p9;replace hx1:=hx1.trans hx6;obtain⟨ceb0,ceb1⟩:=eb.cells2;have feb:=eb.frozen
   go_upto_region 8 with(fail)
   obtain⟨W8,eW,eb',U⟩:=eb.put2 (.bool b7) (.slice A7 n7 c7) rfl rfl;rw[←eW];clear eW eb;replace p10:=p10.kd U.kd;replace hx1:=U.from_ hx1 Ai;have eb:=eb';clear U eb';clear ceb0 ceb1 feb;obtain⟨ceb0,ceb1⟩:=eb.cells2;have feb:=eb.frozen;have hc1:=hx1.cells;have ca0:=hx1.a1.a1.box (g:=w.heap.size) (i:=0) rfl rfl;have ca1:=hx1.a1.a1.box (g:=w.heap.size) (i:=1) rfl rfl;have ca2:=hx1.a1.a1.box (g:=w.heap.size) (i:=2) rfl rfl
   have ca3:=hx1.a1.a1.box (g:=w.heap.size) (i:=3) rfl rfl;have cb0:=hx1.a1.box (g:=w.heap.size+1) (i:=0) Ac rfl;have cb1:=hx1.a1.box (g:=w.heap.size+1) (i:=1) Ac rfl;have cb2:=hx1.a1.box (g:=w.heap.size+1) (i:=2) Ac rfl;have cb3:=hx1.a1.box (g:=w.heap.size+1) (i:=3) Ac rfl;refine Ae 6 [47,48,49,50,51,52] [[],[],[1],[],[3],[1,2,3,4],[0,1,2,3,4,5],[0,1,2,3,4,5,6]] [5,2,3] [_,_,_] [(kv ?_),(kv ?_),(kv ?_),(kv ?_),(kv ?_),(fun γ=>γ 5)] (fun γ w'=>[True,True,True,True,True,AO w' (γ 5) (y*t)]) Bn Aj Aj Bo Aj Bl Br ?hstep8 ?_
   case hstep8 =>
    iterate 6 refine⟨?_,?_⟩
    trivial
    iterate 5 focus
     intro γ w' he hf;clear hf;refine⟨by trivial,?_⟩;intro R hR;have hc:=he.cells;have cq0:=he.cell ceb0;have cq1:=he.cell ceb1;have cq2:=he.cell ca0;have cq3:=he.cell ca1;have cq4:=he.cell ca2;have cq5:=he.cell ca3;have cq6:=he.cell cb0;have cq7:=he.cell cb1;have cq8:=he.cell cb2;have cq9:=he.cell cb3;go_simp;refine hR _ _ (Ext.refl _) ?_ trivial;rfl
    ·intro γ w' he hf;clear hf;refine⟨trivial,?_⟩;intro R hR
     go_simp;exact Bd (DF _ _ y t w' (HX.out.2.ext (hx1.trans he).a3) (HY.out.2.ext (hx1.trans he).a3)) hR
   intro γ w8 hx9 hF;have p5:AO w8 (γ 5) (y*t):=AA.get hF 5 Ab;clear hF;simp only[Bf,Nat.reduceAdd];generalize γ 5=g5 at *;clear γ
   go_wp2_with fail
   refine AL (JP _ _ (x*t+s*y) (y*t) _ ((p10.ext hx9).has Aa) (p5.has Aa)) ?_;rintro r w10 hr hx10;rw[←Hz.out]at hr;clear hc1 p5 ca0 ca1 ca2 ca3 cb0 cb1 cb2 cb3 ceb0 ceb1 feb;replace hx1:=(hx1.trans hx9).trans hx10;clear hx9 hx10;obtain⟨b5,A5,n5,c5,b6,A6,n6,c6,rfl⟩:=hr.cells;have hc1:=hx1.cells;have hf1:=hx1.frozens;have Hfin:=Ad (Cy hr hx1.a3 (AX.at_ hx1 (g:=w.heap.size+2) Ac (by simp[Ag])) Aa);clear hr
   go_wp2;refine bodyPost_ret (v := .agg #[.bool b5,.slice A5 n5 c5,.bool b6,.slice A6 n6 c6]) (by simp[results,Tryz.results123,go_sem,hc1]) rfl ?_;exact Hfin.out
  ·go_wp2_with fail
   refine AL (ML _ _ x s _ (HX.out.1.ext hx1.a3) (HY.out.1.ext hx1.a3)) ?_;rintro r w6 hn hx3;clear hc1 hf1;replace hx1:=hx1.trans hx3;clear hx3;have hc1:=hx1.cells;have hf1:=hx1.frozens
   go_wp2_with fail
   refine AL (Jv 1 _ Aa Aa) ?_;rintro r w7 h1' hx3;clear hc1 hf1;replace hx1:=hx1.trans hx3;replace hn:=hn.ext hx3;clear hx3;obtain⟨b5,A5,n5,c5,rfl⟩:=hn.cells;obtain⟨b6,A6,n6,c6,rfl⟩:=h1'.cells;have e9:Rat.divInt (x*t+s*y) (y*t)=((x+s:Int):Rat):=by rw[H1.out Ac,H2.out Ac,Int.mul_one,Int.mul_one,Int.mul_one];exact Xu _
   have hr:=BD.mk_ hn h1' (q:=p+q) (by rw[Hz.out,e9];rfl) (by rw[Hz.out,e9];rfl);clear hn h1';have E9:=Ad e9;clear e9;have hc1:=hx1.cells;have hf1:=hx1.frozens;have Hfin:=Ad (Cy hr hx1.a3 (AX.at_ hx1 (g:=w.heap.size+2) Ac (by simp[Ag])) Aa);clear hr;go_wp2;refine bodyPost_ret (v := .agg #[.bool b5,.slice A5 n5 c5,.bool b6,.slice A6 n6 c6]) (by simp[results,Tryz.results123,go_sem,hc1]) rfl ?_;exact Hfin.out
end Go.Proofs.YtmhgnigpmompmaaGreat
namespace Go.Hp
open Go.RowKit
def LZ(x y:Int):Int:=if y < 0 then -((Int.gcd x y:Nat):Int)else(Int.gcd x y:Nat)
theorem eP{x y:Int}(h:y≠0):LZ x y≠0:=by
 have:=Int.gcd_pos_of_ne_zero_right x h;unfold LZ;split<;>omega
theorem V9{x y:Int}(h:y≠0):(Rat.divInt x y).num=x / LZ x y∧((Rat.divInt x y).den:Int)=y / LZ x y:=by
 unfold LZ;by_cases hy:y < 0
 ·rw[if_pos hy]
  have h1:=CY (p:=-x) (q:=-y) Aa;rw[Rat.neg_divInt_neg,Int.gcd_neg,Int.neg_gcd]at h1;have hg:=Int.gcd_pos_of_ne_zero_right x h;rw[Int.ediv_neg,Int.ediv_neg,←Int.neg_ediv_of_dvd (Int.gcd_dvd_left ..),←Int.neg_ediv_of_dvd (Int.gcd_dvd_right ..)];exact h1
 ·rw[if_neg hy]
  exact CY Aa
theorem eH{x y:Int}{k:Nat}(h:y≠0)(hk:sz y.natAbs≤k):sz (LZ x y).natAbs≤k:=by
 refine Nat.le_trans (Bp ?_) hk;have e:(LZ x y).natAbs=Int.gcd x y:=by unfold LZ;split<;>simp
 rw[e];exact Nat.le_of_dvd Aa (Nat.gcd_dvd_right _ _)
theorem BQ.sizes{w:World}{v:Value}{q:Rat}(h:BQ w v q):sz q.num.natAbs≤274877906944∧sz ((q.den:Int)).natAbs≤274877906944:=by
 have:=h.qsz;unfold Hp.qsz at this;rw[Int.natAbs_natCast];omega
end Go.Hp
namespace Go.Proofs.YtmhgnigpmompmaaGreat
open Go.RowKit Go.Hp
theorem MI(n:Int)(w:World)(h1 : -9223372036854775808≤n)(h2:n < 9223372036854775808):Bh 75 #[.int .i64 n] w (fun r w'=>BD w' r (n:Rat)):=by
 go_enter Tryz.func75,Tryz.ntmps75
 go_wp2_with fail
 refine AL (Jy n _ h1 h2) ?_;rintro r w1 hn hx1
 go_wp2_with fail
 refine AL (Jy 1 _ Aa Aa) ?_;rintro r w2 h1' hx2;replace hn:=hn.ext hx2;replace hx1:=hx1.trans hx2;clear hx2;obtain⟨b5,A5,n5,c5,rfl⟩:=hn.cells;obtain⟨b6,A6,n6,c6,rfl⟩:=h1'.cells;have hr:=BD.mk_ hn h1' (q:=(n:Rat)) rfl rfl;clear hn h1';have hc1:=hx1.cells;have hf1:=hx1.frozens;have Hfin:=Ad (Cy hr hx1.a1 (AX.at_ hx1 (g:=w.heap.size+0) Ac (by simp[Ag])) Aa);clear hr;go_wp2;refine bodyPost_ret (v := .agg #[.bool b5,.slice A5 n5 c5,.bool b6,.slice A6 n6 c6]) (by simp[results,Tryz.results75,go_sem,hc1]) rfl ?_
 exact Hfin.out
theorem IB(v:Value)(x:Int)(w:World)(hv:Bu w v x):Bh 39 #[v] w (fun r w'=>BD w' r (x:Rat)):=by
 have HX:=Ad hv;obtain⟨neg,A,n,c,N,rfl,h1,h2,h3,hN,hx⟩:=hv.form;clear hN hx hv
 go_enter Tryz.func39,Tryz.ntmps39
 go_wp2_with fail
 refine AL (EN _ x _ (HX.out.ext (((Ext.refl w).alloc _).alloc _))) ?_;rintro r w1 hn hx1
 go_wp2_with fail
 refine AL (Jy 1 _ Aa Aa) ?_;rintro r w2 h1' hx2;replace hn:=hn.ext hx2;replace hx1:=hx1.trans hx2;clear hx2;obtain⟨b5,A5,n5,c5,rfl⟩:=hn.cells;obtain⟨b6,A6,n6,c6,rfl⟩:=h1'.cells;have hr:=BD.mk_ hn h1' (q:=(x:Rat)) rfl rfl;clear hn h1';have hc1:=hx1.cells;have hf1:=hx1.frozens;have Hfin:=Ad (Cy hr hx1.a2 (AX.at_ hx1 (g:=w.heap.size+1) Ac (by simp[Ag])) Aa);clear hr;go_wp2;refine bodyPost_ret (v := .agg #[.bool b5,.slice A5 n5 c5,.bool b6,.slice A6 n6 c6]) (by simp[results,Tryz.results39,go_sem,hc1]) rfl ?_
 exact Hfin.out
theorem Ib(v u:Value)(x y:Int)(w:World)(hv:Bu w v x)(hu:Bu w u y)(sx:sz x.natAbs≤549755813888)(sy:sz y.natAbs≤549755813888):Bh 59 #[v,u] w (fun r w'=>BD w' r (Rat.divInt x y)):=by
 have HX:=Ad hv;have HY:=Ad hu;obtain⟨neg,A,n,c,N,rfl,-,-,-,-,-⟩:=hv.form;obtain⟨neg',A',n',c',M,rfl,-,-,-,-,-⟩:=hu.form;clear hv hu;have HS:=Ad (Ak sx sy);clear sx sy
 go_enter Tryz.func59,Tryz.ntmps59
 go_wp2_with fail
 refine AL (IX _ y _ (HY.out.ext ((((Ext.refl w).alloc _).alloc _).alloc _))) ?_;rintro r w1 rfl hx1;by_cases hy0:y=0
 ·have hb:(y.sign==0)=true:=by rw[hy0];rfl
  have Hz:=Ad (show Rat.divInt x y=((0:Int):Rat) by rw[hy0,Rat.divInt_zero];rfl);clear hy0
  go_wp2_with fail
  refine AL (MI 0 _ Aa Aa) ?_;rintro r w2 hr hx2;replace hx1:=hx1.trans hx2;clear hx2;rw[←Hz.out]at hr;obtain⟨b5,A5,n5,c5,b6,A6,n6,c6,rfl⟩:=hr.cells;have hc1:=hx1.cells;have hf1:=hx1.frozens;have Hfin:=Ad (Cy hr hx1.a3 (AX.at_ hx1 (g:=w.heap.size+2) Ac (by simp[Ag])) Aa);clear hr;go_wp2;refine bodyPost_ret (v := .agg #[.bool b5,.slice A5 n5 c5,.bool b6,.slice A6 n6 c6]) (by simp[results,Tryz.results59,go_sem,hc1]) rfl ?_
  exact Hfin.out
 have hb:(y.sign==0)=false:=by simpa[Int.sign_eq_zero_iff_zero] using hy0
 have Hy:=Ad (Ak hy0 (Ak (eP (x:=x) hy0) (eH (x:=x) hy0 HS.out.2)));have HG:=Ad (V9 (x:=x) hy0);clear hy0;have ca0:=hx1.a1.a1.box (g:=w.heap.size) (i:=0) rfl rfl;have ca1:=hx1.a1.a1.box (g:=w.heap.size) (i:=1) rfl rfl;have cb0:=hx1.a1.box (g:=w.heap.size+1) (i:=0) Ac rfl;have cb1:=hx1.a1.box (g:=w.heap.size+1) (i:=1) Ac rfl
 go_wp2_with fail
 refine AL (Uc _ _ x y _ (HX.out.ext hx1.a3) (HY.out.ext hx1.a3) HS.out.1 HS.out.2) ?_;rintro r w2 hr hx2;replace hx1:=hx1.trans hx2;clear hx2 ca0 ca1 cb0 cb1;obtain⟨b5,A5,n5,c5,rfl⟩:=hr.cells;have ca0:=hx1.a1.a1.box (g:=w.heap.size) (i:=0) rfl rfl;have ca1:=hx1.a1.a1.box (g:=w.heap.size) (i:=1) rfl rfl;have cb0:=hx1.a1.box (g:=w.heap.size+1) (i:=0) Ac rfl;have cb1:=hx1.a1.box (g:=w.heap.size+1) (i:=1) Ac rfl
 go_upto_region 4 with(fail)
 have hgg:w.heap.size+1+1+1≤w2.heap.size:=by have:=hx1.size;simpa using this
 obtain⟨W5,eW5,e5,x5⟩:=Bj.made w2 26 #[.bool b5,.slice A5 n5 c5] (by simp[Ag]);rw[←eW5];clear eW5;replace hr:=hr.ext x5;replace hx1:=hx1.trans x5;clear x5;generalize w2.heap.size=gg at *;clear ca0 ca1 cb0 cb1;have ca0:=hx1.a1.a1.box (g:=w.heap.size) (i:=0) rfl rfl;have ca1:=hx1.a1.a1.box (g:=w.heap.size) (i:=1) rfl rfl;have cb0:=hx1.a1.box (g:=w.heap.size+1) (i:=0) Ac rfl;have cb1:=hx1.a1.box (g:=w.heap.size+1) (i:=1) Ac rfl
 obtain⟨ce50,ce51⟩:=e5.cells2;have fe5:=e5.frozen
 go_wp2_with fail
 refine AL (IX _ y _ (HY.out.ext hx1.a3)) ?_;rintro r w7 rfl hx2;replace hr:=hr.ext hx2;replace e5:=e5.ext hx2;replace hx1:=hx1.trans hx2;clear hx2;clear ca0 ca1 cb0 cb1 ce50 ce51 fe5;by_cases hyn:y < 0
 ·have hb:decide (y.sign < 0)=true:=by rw[Int.sign_eq_neg_one_of_neg hyn];rfl
  have hr':AO w7 (.agg #[.bool b5,.slice A5 n5 c5]) ((Int.gcd x y:Nat):Int):=hr;have Hg:=Ad (show -((Int.gcd x y:Nat):Int)=LZ x y by unfold LZ;rw[if_pos hyn]);have Hr:=Ad (hr.has (show sz (((Int.gcd x y:Nat):Int)).natAbs≤1099511627776 by
   have:=Hy.out.2.2;rw[←Hg.out,Int.natAbs_neg]at this;omega));clear hr hr'
  have ca0:=hx1.a1.a1.box (g:=w.heap.size) (i:=0) rfl rfl;have ca1:=hx1.a1.a1.box (g:=w.heap.size) (i:=1) rfl rfl;have cb0:=hx1.a1.box (g:=w.heap.size+1) (i:=0) Ac rfl;have cb1:=hx1.a1.box (g:=w.heap.size+1) (i:=1) Ac rfl;obtain⟨ce50,ce51⟩:=e5.cells2;have fe5:=e5.frozen
  go_wp2_with fail
  refine AL (Uj _ _ _ Hr.out) ?_;rintro r w8 hr2 hx2;rw[Hg.out]at hr2;replace e5:=e5.ext hx2;replace hx1:=hx1.trans hx2;clear hx2;obtain⟨b3,A3,n3,c3,rfl⟩:=hr2.cells;clear ca0 ca1 cb0 cb1 ce50 ce51 fe5 Hr hyn hb;have ca0:=hx1.a1.a1.box (g:=w.heap.size) (i:=0) rfl rfl;have ca1:=hx1.a1.a1.box (g:=w.heap.size) (i:=1) rfl rfl;have cb0:=hx1.a1.box (g:=w.heap.size+1) (i:=0) Ac rfl;have cb1:=hx1.a1.box (g:=w.heap.size+1) (i:=1) Ac rfl
  obtain⟨ce50,ce51⟩:=e5.cells2;have fe5:=e5.frozen
  go_upto_region 6 with(fail)
  obtain⟨W9,eW,e5',U⟩:=e5.put2 (.bool b3) (.slice A3 n3 c3) rfl rfl;rw[←eW];clear eW e5;replace hr2:=hr2.kd U.kd;replace hx1:=U.from_ hx1 Ai;have e5:=e5';clear U e5';have hr:=hr2;clear hr2 ca0 ca1 cb0 cb1 ce50 ce51 fe5;have ca0:=hx1.a1.a1.box (g:=w.heap.size) (i:=0) rfl rfl;have ca1:=hx1.a1.a1.box (g:=w.heap.size) (i:=1) rfl rfl;have cb0:=hx1.a1.box (g:=w.heap.size+1) (i:=0) Ac rfl;have cb1:=hx1.a1.box (g:=w.heap.size+1) (i:=1) Ac rfl
  obtain⟨ce50,ce51⟩:=e5.cells2;have fe5:=e5.frozen
  go_wp2_with fail
  refine Ae 2 [18,19] [[],[],[0,1]] [5] [_] [(kv ?_),(fun γ=>γ 1)] (fun γ w'=>[True,AO w' (γ 1) 1]) Bn Aj Aj Bo Aj Bl Br ?hstep1 ?_
  case hstep1 =>
   iterate 2 refine⟨?_,?_⟩
   trivial
   iterate 1 focus
    intro γ w' he hf;clear hf;refine⟨by trivial,?_⟩;intro R hR;have hc:=he.cells;have cq0:=he.cell ce50;have cq1:=he.cell ce51;go_simp;refine hR _ _ (Ext.refl _) ?_ trivial;rfl
   ·intro γ w' he hf;clear hf;refine⟨trivial,?_⟩;intro R hR
    go_simp;exact Bd (Jy 1 w' Aa Aa) hR
  intro γ w7 hx7 hF;have p1:AO w7 (γ 1) 1:=AA.get hF 1 Ab;clear hF;simp only[Bf,Nat.reduceAdd];generalize γ 1=g1 at *;clear γ
  go_wp2_with fail
  refine AL (P8 _ _ _ 1 _ (hr.ext hx7) p1) ?_;rintro r w8 rfl hx8;replace hx8:=hx7.trans hx8;replace hr:=hr.ext hx8;replace e5:=e5.ext hx8;replace hx1:=hx1.trans hx8;clear hx8;clear ca0 ca1 cb0 cb1 ce50 ce51 fe5 p1 hx7;have ca0:=hx1.a1.a1.box (g:=w.heap.size) (i:=0) rfl rfl;have ca1:=hx1.a1.a1.box (g:=w.heap.size) (i:=1) rfl rfl;have cb0:=hx1.a1.box (g:=w.heap.size+1) (i:=0) Ac rfl;have cb1:=hx1.a1.box (g:=w.heap.size+1) (i:=1) Ac rfl
  obtain⟨ce50,ce51⟩:=e5.cells2;have fe5:=e5.frozen;by_cases h1:LZ x y=1
  ·have hb:decide (LZ x y=1)=true:=decide_eq_true h1
   have H1:=Ad h1;clear h1
   go_wp2_with fail
   refine Ae 3 [21,22,23] [[],[0],[],[0,1,2],[0,1,2,3],[0,1,2,3,4]] [2,3] [_,_] [(kv ?_),(fun γ=>γ 1),(kv ?_)] (fun γ w'=>[True,AO w' (γ 1) x,True]) Bn Aj Aj Bo Aj Bl Br ?hstep2 ?_
   case hstep2 =>
    iterate 3 refine⟨?_,?_⟩
    trivial
    iterate 1 focus
     intro γ w' he hf;clear hf;refine⟨by trivial,?_⟩;intro R hR;have hc:=he.cells;have cq0:=he.cell ca0;have cq1:=he.cell ca1;have cq2:=he.cell cb0;have cq3:=he.cell cb1;go_simp;refine hR _ _ (Ext.refl _) ?_ trivial;rfl
    ·intro γ w' he hf;clear hf;refine⟨trivial,?_⟩;intro R hR
     go_simp;exact Bd (EN _ x w' (HX.out.ext (hx1.trans he).a3)) hR
    iterate 1 focus
     intro γ w' he hf;clear hf;refine⟨by trivial,?_⟩;intro R hR;have hc:=he.cells;have cq0:=he.cell ca0;have cq1:=he.cell ca1;have cq2:=he.cell cb0;have cq3:=he.cell cb1;go_simp;refine hR _ _ (Ext.refl _) ?_ trivial;rfl
   intro γ w9 hx9 hF;have p1:AO w9 (γ 1) x:=AA.get hF 1 Ab;clear hF;simp only[Bf,Nat.reduceAdd];generalize γ 1=g1 at *;clear γ;clear ca0 ca1 cb0 cb1 ce50 ce51 fe5;replace hx1:=hx1.trans hx9;have ca0:=hx1.a1.a1.box (g:=w.heap.size) (i:=0) rfl rfl;have ca1:=hx1.a1.a1.box (g:=w.heap.size) (i:=1) rfl rfl;have cb0:=hx1.a1.box (g:=w.heap.size+1) (i:=0) Ac rfl;have cb1:=hx1.a1.box (g:=w.heap.size+1) (i:=1) Ac rfl
   go_wp2_with fail
   refine AL (EN _ y _ (HY.out.ext hx1.a3)) ?_;rintro r w10 h1' hx10;replace p1:=p1.ext hx10;replace hx1:=hx1.trans hx10;clear ca0 ca1 cb0 cb1 hx10 hx9;obtain⟨b5,A5,n5,c5,rfl⟩:=p1.cells;obtain⟨b6,A6,n6,c6,rfl⟩:=h1'.cells;have hr:=BD.mk_ p1 h1' (q:=Rat.divInt x y) (by rw[HG.out.1,H1.out,Int.ediv_one]) (by rw[HG.out.2,H1.out,Int.ediv_one]);clear p1 h1';have hc1:=hx1.cells;have hf1:=hx1.frozens;have Hfin:=Ad (Cy hr hx1.a3 (AX.at_ hx1 (g:=w.heap.size+2) Ac (by simp[Ag])) Aa)
   clear hr;go_wp2;refine bodyPost_ret (v := .agg #[.bool b5,.slice A5 n5 c5,.bool b6,.slice A6 n6 c6]) (by simp[results,Tryz.results59,go_sem,hc1]) rfl ?_;exact Hfin.out
  ·have hb:decide (LZ x y=1)=false:=decide_eq_false h1
   have Hr:=Ad (hr.has (show sz (LZ x y).natAbs≤1099511627776 by have:=Hy.out.2.2;omega));clear h1 hr
   go_wp2_with fail
   refine Ae 5 [26,27,28,29,30] [[],[],[0,1],[],[],[0,1,2,3,4],[0,1,2,3,4,5],[0,1,2,3,4,5,6]] [2,5,3] [_,_,_] [(kv ?_),(kv ?_),(fun γ=>γ 2),(kv ?_),(kv ?_)] (fun γ w'=>[True,True,AO w' (γ 2) (x / LZ x y),True,True]) Bn Aj Aj Bo Aj Bl Br ?hstep3 ?_
   case hstep3 =>
    iterate 5 refine⟨?_,?_⟩
    trivial
    iterate 2 focus
     intro γ w' he hf;clear hf;refine⟨by trivial,?_⟩;intro R hR;have hc:=he.cells;have cq0:=he.cell ca0;have cq1:=he.cell ca1;have cq2:=he.cell cb0;have cq3:=he.cell cb1;have cq4:=he.cell ce50;have cq5:=he.cell ce51;go_simp;refine hR _ _ (Ext.refl _) ?_ trivial;rfl
    ·intro γ w' he hf;clear hf;refine⟨trivial,?_⟩;intro R hR
     go_simp;exact Bd (Io _ _ x _ w' (HX.out.ext (hx1.trans he).a3) (Hr.out.ext he) Hy.out.2.1 HS.out.1 Hy.out.2.2) hR
    iterate 2 focus
     intro γ w' he hf;clear hf;refine⟨by trivial,?_⟩;intro R hR;have hc:=he.cells;have cq0:=he.cell ca0;have cq1:=he.cell ca1;have cq2:=he.cell cb0;have cq3:=he.cell cb1;have cq4:=he.cell ce50;have cq5:=he.cell ce51;go_simp;refine hR _ _ (Ext.refl _) ?_ trivial;rfl
   intro γ w9 hx9 hF;have p2:AO w9 (γ 2) (x / LZ x y):=AA.get hF 2 Ab;clear hF;simp only[Bf,Nat.reduceAdd];generalize γ 2=g2 at *;clear γ;clear ca0 ca1 cb0 cb1 ce50 ce51 fe5;replace hx1:=hx1.trans hx9;have ca0:=hx1.a1.a1.box (g:=w.heap.size) (i:=0) rfl rfl;have ca1:=hx1.a1.a1.box (g:=w.heap.size) (i:=1) rfl rfl;have cb0:=hx1.a1.box (g:=w.heap.size+1) (i:=0) Ac rfl;have cb1:=hx1.a1.box (g:=w.heap.size+1) (i:=1) Ac rfl
   go_wp2_with fail
   refine AL (Io _ _ y _ _ (HY.out.ext hx1.a3) (Hr.out.ext hx9) Hy.out.2.1 HS.out.2 Hy.out.2.2) ?_;rintro r w10 h1' hx10;replace p2:=p2.ext hx10;replace hx1:=hx1.trans hx10;clear ca0 ca1 cb0 cb1 hx10 hx9 Hr;obtain⟨b5,A5,n5,c5,rfl⟩:=p2.cells;obtain⟨b6,A6,n6,c6,rfl⟩:=h1'.cells;have hr:=BD.mk_ p2 h1' (q:=Rat.divInt x y) HG.out.1.symm HG.out.2.symm;clear p2 h1';have hc1:=hx1.cells;have hf1:=hx1.frozens
   have Hfin:=Ad (Cy hr hx1.a3 (AX.at_ hx1 (g:=w.heap.size+2) Ac (by simp[Ag])) Aa);clear hr;go_wp2;refine bodyPost_ret (v := .agg #[.bool b5,.slice A5 n5 c5,.bool b6,.slice A6 n6 c6]) (by simp[results,Tryz.results59,go_sem,hc1]) rfl ?_;exact Hfin.out
 ·have hb:decide (y.sign < 0)=false:=by
   have:=Hy.out.1;rw[Int.sign_eq_one_of_pos Aa];rfl
  obtain⟨b3,hb3⟩:∃ b3,b3=b5:=⟨_,rfl⟩
  subst hb3;obtain⟨A3,hA3⟩:∃ A3,A3=A5:=⟨_,rfl⟩
  subst hA3;obtain⟨n3,hn3⟩:∃ n3,n3=n5:=⟨_,rfl⟩
  subst hn3;obtain⟨c3,hc3⟩:∃ c3,c3=c5:=⟨_,rfl⟩
  subst hc3;replace hr:AO w7 (.agg #[.bool b3,.slice A3 n3 c3]) (LZ x y):=by unfold LZ;rw[if_neg hyn];exact hr
  have ca0:=hx1.a1.a1.box (g:=w.heap.size) (i:=0) rfl rfl;have ca1:=hx1.a1.a1.box (g:=w.heap.size) (i:=1) rfl rfl;have cb0:=hx1.a1.box (g:=w.heap.size+1) (i:=0) Ac rfl;have cb1:=hx1.a1.box (g:=w.heap.size+1) (i:=1) Ac rfl;obtain⟨ce50,ce51⟩:=e5.cells2;have fe5:=e5.frozen
  go_wp2_with fail
  refine Ae 2 [18,19] [[],[],[0,1]] [5] [_] [(kv ?_),(fun γ=>γ 1)] (fun γ w'=>[True,AO w' (γ 1) 1]) Bn Aj Aj Bo Aj Bl Br ?hstep4 ?_
  case hstep4 =>
   iterate 2 refine⟨?_,?_⟩
   trivial
   iterate 1 focus
    intro γ w' he hf;clear hf;refine⟨by trivial,?_⟩;intro R hR;have hc:=he.cells;have cq0:=he.cell ce50;have cq1:=he.cell ce51;go_simp;refine hR _ _ (Ext.refl _) ?_ trivial;rfl
   ·intro γ w' he hf;clear hf;refine⟨trivial,?_⟩;intro R hR
    go_simp;exact Bd (Jy 1 w' Aa Aa) hR
  intro γ w7 hx7 hF;have p1:AO w7 (γ 1) 1:=AA.get hF 1 Ab;clear hF;simp only[Bf,Nat.reduceAdd];generalize γ 1=g1 at *;clear γ
  go_wp2_with fail
  refine AL (P8 _ _ _ 1 _ (hr.ext hx7) p1) ?_;rintro r w8 rfl hx8;replace hx8:=hx7.trans hx8;replace hr:=hr.ext hx8;replace e5:=e5.ext hx8;replace hx1:=hx1.trans hx8;clear hx8;clear ca0 ca1 cb0 cb1 ce50 ce51 fe5 p1 hx7;have ca0:=hx1.a1.a1.box (g:=w.heap.size) (i:=0) rfl rfl;have ca1:=hx1.a1.a1.box (g:=w.heap.size) (i:=1) rfl rfl;have cb0:=hx1.a1.box (g:=w.heap.size+1) (i:=0) Ac rfl;have cb1:=hx1.a1.box (g:=w.heap.size+1) (i:=1) Ac rfl
  obtain⟨ce50,ce51⟩:=e5.cells2;have fe5:=e5.frozen;by_cases h1:LZ x y=1
  ·have hb:decide (LZ x y=1)=true:=decide_eq_true h1
   have H1:=Ad h1;clear h1
   go_wp2_with fail
   refine Ae 3 [21,22,23] [[],[0],[],[0,1,2],[0,1,2,3],[0,1,2,3,4]] [2,3] [_,_] [(kv ?_),(fun γ=>γ 1),(kv ?_)] (fun γ w'=>[True,AO w' (γ 1) x,True]) Bn Aj Aj Bo Aj Bl Br ?hstep5 ?_
   case hstep5 =>
    iterate 3 refine⟨?_,?_⟩
    trivial
    iterate 1 focus
     intro γ w' he hf;clear hf;refine⟨by trivial,?_⟩;intro R hR;have hc:=he.cells;have cq0:=he.cell ca0;have cq1:=he.cell ca1;have cq2:=he.cell cb0;have cq3:=he.cell cb1;go_simp;refine hR _ _ (Ext.refl _) ?_ trivial;rfl
    ·intro γ w' he hf;clear hf;refine⟨trivial,?_⟩;intro R hR
     go_simp;exact Bd (EN _ x w' (HX.out.ext (hx1.trans he).a3)) hR
    iterate 1 focus
     intro γ w' he hf;clear hf;refine⟨by trivial,?_⟩;intro R hR;have hc:=he.cells;have cq0:=he.cell ca0;have cq1:=he.cell ca1;have cq2:=he.cell cb0;have cq3:=he.cell cb1;go_simp;refine hR _ _ (Ext.refl _) ?_ trivial;rfl
   intro γ w9 hx9 hF;have p1:AO w9 (γ 1) x:=AA.get hF 1 Ab;clear hF;simp only[Bf,Nat.reduceAdd];generalize γ 1=g1 at *;clear γ;clear ca0 ca1 cb0 cb1 ce50 ce51 fe5;replace hx1:=hx1.trans hx9;have ca0:=hx1.a1.a1.box (g:=w.heap.size) (i:=0) rfl rfl;have ca1:=hx1.a1.a1.box (g:=w.heap.size) (i:=1) rfl rfl;have cb0:=hx1.a1.box (g:=w.heap.size+1) (i:=0) Ac rfl;have cb1:=hx1.a1.box (g:=w.heap.size+1) (i:=1) Ac rfl
   go_wp2_with fail
   refine AL (EN _ y _ (HY.out.ext hx1.a3)) ?_;rintro r w10 h1' hx10;replace p1:=p1.ext hx10;replace hx1:=hx1.trans hx10;clear ca0 ca1 cb0 cb1 hx10 hx9;obtain⟨b5,A5,n5,c5,rfl⟩:=p1.cells;obtain⟨b6,A6,n6,c6,rfl⟩:=h1'.cells;have hr:=BD.mk_ p1 h1' (q:=Rat.divInt x y) (by rw[HG.out.1,H1.out,Int.ediv_one]) (by rw[HG.out.2,H1.out,Int.ediv_one]);clear p1 h1';have hc1:=hx1.cells;have hf1:=hx1.frozens;have Hfin:=Ad (Cy hr hx1.a3 (AX.at_ hx1 (g:=w.heap.size+2) Ac (by simp[Ag])) Aa)
   clear hr;go_wp2;refine bodyPost_ret (v := .agg #[.bool b5,.slice A5 n5 c5,.bool b6,.slice A6 n6 c6]) (by simp[results,Tryz.results59,go_sem,hc1]) rfl ?_;exact Hfin.out
  ·have hb:decide (LZ x y=1)=false:=decide_eq_false h1
   have Hr:=Ad (hr.has (show sz (LZ x y).natAbs≤1099511627776 by have:=Hy.out.2.2;omega));clear h1 hr
   go_wp2_with fail
   refine Ae 5 [26,27,28,29,30] [[],[],[0,1],[],[],[0,1,2,3,4],[0,1,2,3,4,5],[0,1,2,3,4,5,6]] [2,5,3] [_,_,_] [(kv ?_),(kv ?_),(fun γ=>γ 2),(kv ?_),(kv ?_)] (fun γ w'=>[True,True,AO w' (γ 2) (x / LZ x y),True,True]) Bn Aj Aj Bo Aj Bl Br ?hstep6 ?_
   case hstep6 =>
    iterate 5 refine⟨?_,?_⟩
    trivial
    iterate 2 focus
     intro γ w' he hf;clear hf;refine⟨by trivial,?_⟩;intro R hR;have hc:=he.cells;have cq0:=he.cell ca0;have cq1:=he.cell ca1;have cq2:=he.cell cb0;have cq3:=he.cell cb1;have cq4:=he.cell ce50;have cq5:=he.cell ce51;go_simp;refine hR _ _ (Ext.refl _) ?_ trivial;rfl
    ·intro γ w' he hf;clear hf;refine⟨trivial,?_⟩;intro R hR
     go_simp;exact Bd (Io _ _ x _ w' (HX.out.ext (hx1.trans he).a3) (Hr.out.ext he) Hy.out.2.1 HS.out.1 Hy.out.2.2) hR
    iterate 2 focus
     intro γ w' he hf;clear hf;refine⟨by trivial,?_⟩;intro R hR;have hc:=he.cells;have cq0:=he.cell ca0;have cq1:=he.cell ca1;have cq2:=he.cell cb0;have cq3:=he.cell cb1;have cq4:=he.cell ce50;have cq5:=he.cell ce51;go_simp;refine hR _ _ (Ext.refl _) ?_ trivial;rfl
   intro γ w9 hx9 hF;have p2:AO w9 (γ 2) (x / LZ x y):=AA.get hF 2 Ab;clear hF;simp only[Bf,Nat.reduceAdd];generalize γ 2=g2 at *;clear γ;clear ca0 ca1 cb0 cb1 ce50 ce51 fe5;replace hx1:=hx1.trans hx9;have ca0:=hx1.a1.a1.box (g:=w.heap.size) (i:=0) rfl rfl;have ca1:=hx1.a1.a1.box (g:=w.heap.size) (i:=1) rfl rfl;have cb0:=hx1.a1.box (g:=w.heap.size+1) (i:=0) Ac rfl;have cb1:=hx1.a1.box (g:=w.heap.size+1) (i:=1) Ac rfl
   go_wp2_with fail
   refine AL (Io _ _ y _ _ (HY.out.ext hx1.a3) (Hr.out.ext hx9) Hy.out.2.1 HS.out.2 Hy.out.2.2) ?_;rintro r w10 h1' hx10;replace p2:=p2.ext hx10;replace hx1:=hx1.trans hx10;clear ca0 ca1 cb0 cb1 hx10 hx9 Hr;obtain⟨b5,A5,n5,c5,rfl⟩:=p2.cells;obtain⟨b6,A6,n6,c6,rfl⟩:=h1'.cells;have hr:=BD.mk_ p2 h1' (q:=Rat.divInt x y) HG.out.1.symm HG.out.2.symm;clear p2 h1';have hc1:=hx1.cells;have hf1:=hx1.frozens
   have Hfin:=Ad (Cy hr hx1.a3 (AX.at_ hx1 (g:=w.heap.size+2) Ac (by simp[Ag])) Aa);clear hr;go_wp2;refine bodyPost_ret (v := .agg #[.bool b5,.slice A5 n5 c5,.bool b6,.slice A6 n6 c6]) (by simp[results,Tryz.results59,go_sem,hc1]) rfl ?_;exact Hfin.out
end Go.Proofs.YtmhgnigpmompmaaGreat
