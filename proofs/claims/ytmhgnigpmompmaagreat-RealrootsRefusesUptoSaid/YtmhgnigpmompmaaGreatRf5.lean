/- The statement RealrootsRefuses holds for arguments of bulk at most 1048576 (its '..Upto' form): for every such polynomial the law returns true, and the argument reads afterwards as before. -/
import Derived.Test.YtmhgnigpmompmaaGreatRf1
import Derived.Test.YtmhgnigpmompmaaGreatRf2
import Derived.Test.YtmhgnigpmompmaaGreatRf3
import Derived.Test.YtmhgnigpmompmaaGreatRf4
set_option linter.unusedVariables false
set_option linter.unusedSimpArgs false
set_option maxHeartbeats 16000000
namespace Go.Hp
open Go.RowKit
theorem GG.upd{base:Nat}{G:List Nat}{t:TypeId}{w w':World}{v:Value}{W:Nat→Rat}(h:GG base t w v W)(U:Cj G w w')(hG:∀ g∈G,g < base):GG base t w' v W:=by
 obtain⟨c,us,K,h1,h2,h3,h4⟩:=h;refine⟨c,us,K,h1,h2,h3,?_⟩;have hb:=BD.blk_ge h4.out;have hne:∀ g'∈blk c,g'∉G:=fun g' hg' hm=>by
  have:=hb g' hg';have:=hG g' hm;omega
 refine⟨BD.upd h4.out U hne fun _ _ q=>q,h4.len,fun g' hg' i c hc=>?_,fun i a b=>(h4.el i a b).upd U hG⟩;obtain⟨o,ho⟩:∃ o,w.heap[g']? = some o:=⟨_,Array.getElem?_eq_getElem (hb g' hg').2⟩
 have hk:=U.1 g' o (hne g' hg') ho;rw[World.cell?_of_block (hk.trans ho.symm)]at hc;exact h4.nb g' hg' i c hc
def GI(w:World)(g:Nat)(t:TypeId)(p q:Rat):Prop:=∃ b1 A1 n1 c1 b2 A2 n2 c2 b3 A3 n3 c3 b4 A4 n4 c4,AU w g t #[.bool b1,.slice A1 n1 c1,.bool b2,.slice A2 n2 c2,.bool b3,.slice A3 n3 c3,.bool b4,.slice A4 n4 c4]∧BG w (.agg #[.bool b1,.slice A1 n1 c1,.bool b2,.slice A2 n2 c2]) p∧BG w (.agg #[.bool b3,.slice A3 n3 c3,.bool b4,.slice A4 n4 c4]) q
theorem KW{R:Rat→Rat→Int}{p q:Rat}{t:Nat}(hp:qsz p≤t)(hq:qsz q≤t)(k:Nat):qsz (CK R p q k).1≤3*t+k+4∧qsz (CK R p q k).2≤3*t+k+4∧qsz (((CK R p q k).1+(CK R p q k).2) / 2)≤3*t+k+5:=by
 have h:=(DU R p q k).qsz hp hq;have h2:=(DU R p q k).half.1.qsz hp hq;exact⟨h.1,h.2,Aa⟩
def XL(F:Nat→Rat)(p q:Rat)(n:Int)(r:Value)(w:World):Prop:=∃ z E,r = .tuple #[z,.int .i64 E]∧(E=0→Jb w z (CK (rc (AZ F)) p q n.toNat).1 (CK (rc (AZ F)) p q n.toNat).2) ∧
 (E≠0→z = .agg #[.bool false,.slice none 0 0,.bool false,.slice none 0 0,.bool false,.slice none 0 0,.bool false,.slice none 0 0])∧E=if Bf F≠0 then Bf F else if n < 0∨1000 < n then 2 else if p < q∧rc (AZ F) p q=1 then 0 else 12
end Go.Hp
namespace Go.Proofs.YtmhgnigpmompmaaGreat
open Go.RowKit Go.Hp
theorem Jc(v u:Value)(F:Nat→Rat)(p q:Rat)(D M t k base:Nat)(w:World)(hR:Pg F D M)(hD:D≤20)(hp:qsz p≤t)(hq:qsz q≤t)(ht:3*t+k≤4500000000)(hv:GG base 23 w v (AZ F))(hu:JS w u (CK (rc (AZ F)) p q k).1 (CK (rc (AZ F)) p q k).2) :
  Bi 81 #[v,u] w (fun r w'=>JS w' r (CK (rc (AZ F)) p q (k+1)).1 (CK (rc (AZ F)) p q (k+1)).2):=by
 obtain⟨S,hC⟩:=hR.chn;have hM:=hR.lim.1;obtain⟨z1,z2,z3⟩:=KW (R:=rc (AZ F)) hp hq k;have hm:D*(M+(3*t+k+5)+1)≤20*(M+(3*t+k+5)+1):=Nat.mul_le_mul_right _ hD;refine Ah.imp (Zf v u (AZ F) _ _ base S D M (3*t+k+5) (kn (AZ F)) w hv hu hC hR.k Aa Aa z3 Aa) fun r w' h=>?_;rw[FI hR.k]at h;show JS w' r (hfp _ _).1 (hfp _ _).2;unfold hfp
 split at h
 ·rename_i h1;rw[if_pos h1];exact h
 ·rename_i h1;rw[if_neg h1];exact h
theorem Ow(v u:Value)(F:Nat→Rat)(p q:Rat)(D M t base:Nat)(w:World)(hR:Pg F D M)(hD:D≤20)(hp:qsz p≤t)(hq:qsz q≤t)(ht:t≤4500000000)(hv:GG base 23 w v (AZ F))(hu:JS w u p q) :
  Bi 80 #[v,u] w (fun r _=>r = .bool (decide (p < q∧rc (AZ F) p q=1))):=by
 obtain⟨S,hC⟩:=hR.chn;have hM:=hR.lim.1;have hm:D*(M+t+1)≤20*(M+t+1):=Nat.mul_le_mul_right _ hD;refine Ah.imp (aG v u (AZ F) p q base S D M t (kn (AZ F)) w hv hu hC hR.k hp hq Aa) fun r w' h=>?_;rw[h,FI hR.k];congr 1;by_cases h1:p < q<;>by_cases h2:rc (AZ F) p q=1<;>simp[h1,h2]
set_option maxRecDepth 20000 in
theorem TE(v u0:Value)(l:List Int)(p q:Rat)(n:Int)(D M t:Nat)(w:World)(hv:EO 0 w v l)(hu0:JS w u0 p q)(hn:l.length≤1000000)(hR:Bf (cz l)=0→Pg (cz l) D M)(hD:D≤20)(hp:qsz p≤t)(hq:qsz q≤t)(ht:t≤1000000000) :
  Bi 34 #[v,u0,.int .i64 n] w (fun r w'=>XL (cz l) p q n r w'):=by
 have HV:=Ad (Au hv (Au hR (Au hp hq)));obtain⟨A,c,rfl⟩:=hv.len;obtain⟨b1,B1,m1,k1,b2,B2,m2,k2,b3,B3,m3,k3,b4,B4,m4,k4,rfl,hi1,hi2⟩:=hu0;have HI:=Ad (Au hi1 hi2);clear hv hR hi1 hi2 hp hq
 go_enter Tryz.func34,Tryz.ntmps34
 obtain⟨W1,eW1,eb,y1⟩:=AU.made w 30 #[.bool b1,.slice B1 m1 k1,.bool b2,.slice B2 m2 k2,.bool b3,.slice B3 m3 k3,.bool b4,.slice B4 m4 k4] (by simp[Aj]);obtain⟨W2,eW2,ez,y2⟩:=AU.made W1 30 #[.bool false,.slice none 0 0,.bool false,.slice none 0 0,.bool false,.slice none 0 0,.bool false,.slice none 0 0] (by simp[Aj]);have hs1:W1.heap.size=w.heap.size+1:=by rw[eW1];simp
 rw[hs1]at ez;replace eb:=eb.ext y2;have hx:=y1.trans y2
 go_upto_region 1 with(fail)
 rw[←eW1,←eW2];clear y1 y2 eW1 eW2 hs1
 go_wp2_with fail
 refine AO (Gj _ l _ (HV.out.1.ext hx) hn) ?_;rintro r2 w2 ⟨u,rfl,hu1,hu2⟩ hx2;replace eb:=eb.ext hx2;replace ez:=ez.ext hx2;replace hx:=hx.trans hx2;clear hx2;have hgb:=eb.lt;have hgz:=ez.lt;obtain⟨E,hE⟩:∃ E,E=Bf (cz l):=⟨_,rfl⟩
 have hc:=Cf (cz l);rw[←hE]at hu1 hu2 hc ⊢;have HE:=Ad hE;clear hE;rcases hc with⟨-,hc⟩ | ⟨-,hc⟩ | ⟨h0,hpl,-,hc⟩
 ·subst hc
  clear hu1 hu2;obtain⟨cez0,cez1,cez2,cez3,cez4,cez5,cez6,cez7⟩:=ez.cells8;have fez:=ez.frozen;go_wp2;obtain⟨W9,eW,ez',U⟩:=ez.put8 (.bool false) (.slice none 0 0) (.bool false) (.slice none 0 0) (.bool false) (.slice none 0 0) (.bool false) (.slice none 0 0) rfl rfl rfl rfl rfl rfl rfl rfl;rw[←eW];clear eW ez;replace hx:=U.from_ hx Af;have ez:=ez';clear U ez';clear cez0 cez1 cez2 cez3 cez4 cez5 cez6 cez7 fez
  obtain⟨cez0,cez1,cez2,cez3,cez4,cez5,cez6,cez7⟩:=ez.cells8;have fez:=ez.frozen;refine bodyPost_ret (v := .tuple #[.agg #[.bool false,.slice none 0 0,.bool false,.slice none 0 0,.bool false,.slice none 0 0,.bool false,.slice none 0 0],.int .i64 5]) (by simp[results,Tryz.results34,go_sem,cez0,cez1,cez2,cez3,cez4,cez5,cez6,cez7]) rfl ?_;exact Ah.mk ⟨_,5,rfl,fun e=>absurd e Ab,fun _=>rfl,by rw[←HE.out];rw[if_pos Ab]⟩ hx
 ·subst hc
  clear hu1 hu2;obtain⟨cez0,cez1,cez2,cez3,cez4,cez5,cez6,cez7⟩:=ez.cells8;have fez:=ez.frozen;go_wp2;obtain⟨W9,eW,ez',U⟩:=ez.put8 (.bool false) (.slice none 0 0) (.bool false) (.slice none 0 0) (.bool false) (.slice none 0 0) (.bool false) (.slice none 0 0) rfl rfl rfl rfl rfl rfl rfl rfl;rw[←eW];clear eW ez;replace hx:=U.from_ hx Af;have ez:=ez';clear U ez';clear cez0 cez1 cez2 cez3 cez4 cez5 cez6 cez7 fez
  obtain⟨cez0,cez1,cez2,cez3,cez4,cez5,cez6,cez7⟩:=ez.cells8;have fez:=ez.frozen;refine bodyPost_ret (v := .tuple #[.agg #[.bool false,.slice none 0 0,.bool false,.slice none 0 0,.bool false,.slice none 0 0,.bool false,.slice none 0 0],.int .i64 7]) (by simp[results,Tryz.results34,go_sem,cez0,cez1,cez2,cez3,cez4,cez5,cez6,cez7]) rfl ?_;exact Ah.mk ⟨_,7,rfl,fun e=>absurd e Ab,fun _=>rfl,by rw[←HE.out];rw[if_pos Ab]⟩ hx
 subst hc;have hR:=HV.out.2.1 HE.out.symm;have hu:=hu1 rfl;obtain⟨A1,c1,rfl,-⟩:=hu.shape;have HU:=Ad (Au hu hR);clear hu1 hu2 hR h0 hu;by_cases hn0:n < 0
 ·skip
  obtain⟨cez0,cez1,cez2,cez3,cez4,cez5,cez6,cez7⟩:=ez.cells8;have fez:=ez.frozen;go_wp2;obtain⟨W9,eW,ez',U⟩:=ez.put8 (.bool false) (.slice none 0 0) (.bool false) (.slice none 0 0) (.bool false) (.slice none 0 0) (.bool false) (.slice none 0 0) rfl rfl rfl rfl rfl rfl rfl rfl;rw[←eW];clear eW ez;replace hx:=U.from_ hx Af;have ez:=ez';clear U ez';clear cez0 cez1 cez2 cez3 cez4 cez5 cez6 cez7 fez;obtain⟨cez0,cez1,cez2,cez3,cez4,cez5,cez6,cez7⟩:=ez.cells8
  have fez:=ez.frozen;refine bodyPost_ret (v := .tuple #[.agg #[.bool false,.slice none 0 0,.bool false,.slice none 0 0,.bool false,.slice none 0 0,.bool false,.slice none 0 0],.int .i64 2]) (by simp[results,Tryz.results34,go_sem,cez0,cez1,cez2,cez3,cez4,cez5,cez6,cez7]) rfl ?_;exact Ah.mk ⟨_,2,rfl,fun e=>absurd e Ab,fun _=>rfl,by rw[←HE.out];rw[if_neg Ab,if_pos (.inl hn0)]⟩ hx
 by_cases hn1:1000 < n
 ·skip
  obtain⟨cez0,cez1,cez2,cez3,cez4,cez5,cez6,cez7⟩:=ez.cells8;have fez:=ez.frozen;go_wp2;obtain⟨W9,eW,ez',U⟩:=ez.put8 (.bool false) (.slice none 0 0) (.bool false) (.slice none 0 0) (.bool false) (.slice none 0 0) (.bool false) (.slice none 0 0) rfl rfl rfl rfl rfl rfl rfl rfl;rw[←eW];clear eW ez;replace hx:=U.from_ hx Af;have ez:=ez';clear U ez';clear cez0 cez1 cez2 cez3 cez4 cez5 cez6 cez7 fez;obtain⟨cez0,cez1,cez2,cez3,cez4,cez5,cez6,cez7⟩:=ez.cells8
  have fez:=ez.frozen;refine bodyPost_ret (v := .tuple #[.agg #[.bool false,.slice none 0 0,.bool false,.slice none 0 0,.bool false,.slice none 0 0,.bool false,.slice none 0 0],.int .i64 2]) (by simp[results,Tryz.results34,go_sem,cez0,cez1,cez2,cez3,cez4,cez5,cez6,cez7]) rfl ?_;exact Ah.mk ⟨_,2,rfl,fun e=>absurd e Ab,fun _=>rfl,by rw[←HE.out];rw[if_neg Ab,if_pos (.inr hn1)]⟩ hx
 obtain⟨N,rfl⟩:∃ N:Nat,n=N:=⟨n.toNat,Aa⟩
 have hN:N≤1000:=by omega
 have HNN:=Ad (show ¬ ((N:Int) < 0∨1000 < (N:Int))from Aa)
 go_wp2_with fail
 refine AO (Dp _ (cz l) D M _ HU.out.1 HU.out.2) ?_;rintro r3 w3 hr3 hx3;obtain⟨cA,cn,cc,rfl⟩:=hr3.cell;obtain⟨W4,eW4,ec,y4⟩:=AU.made w3 92 #[.slice cA cn cc] (by simp[Aj]);have hcn:=hr3.ext y4;have hx34:=hx3.trans y4;have hgc:w2.heap.size≤w3.heap.size:=hx3.size;replace eb:=eb.ext hx34;replace ez:=ez.ext hx34;replace hx:=hx.trans hx34;clear hx34;clear hr3 hx3 y4
 go_upto_region 7 with(fail)
 rw[←eW4];clear eW4;generalize w3.heap.size=gc at *;obtain⟨ceb0,ceb1,ceb2,ceb3,ceb4,ceb5,ceb6,ceb7⟩:=eb.cells8;have feb:=eb.frozen;have cec0:=ec.cells1;have HC:=Ad hcn;clear hcn
 go_wp2_with fail
 refine AO (Ow _ _ (cz l) p q D M t _ _ HU.out.2 hD HV.out.2.2.1 HV.out.2.2.2 Aa HC.out ⟨_,_,_,_,_,_,_,_,_,_,_,_,_,_,_,_,rfl,HI.out.1.ext hx,HI.out.2.ext hx⟩) ?_;rintro r5 w5 rfl hx5;have hcn:=HC.out.ext hx5;clear ceb0 ceb1 ceb2 ceb3 ceb4 ceb5 ceb6 ceb7 feb cec0 HC;replace eb:=eb.ext hx5;replace ez:=ez.ext hx5;replace ec:=ec.ext hx5;replace hx:=hx.trans hx5;clear hx5;by_cases hone:p < q∧rc (AZ (cz l)) p q=1
 case neg =>
  rw[decide_eq_false hone];clear hcn;obtain⟨cez0,cez1,cez2,cez3,cez4,cez5,cez6,cez7⟩:=ez.cells8;have fez:=ez.frozen;go_wp2;obtain⟨W9,eW,ez',U⟩:=ez.put8 (.bool false) (.slice none 0 0) (.bool false) (.slice none 0 0) (.bool false) (.slice none 0 0) (.bool false) (.slice none 0 0) rfl rfl rfl rfl rfl rfl rfl rfl;rw[←eW];clear eW ez;replace hx:=U.from_ hx Af;have ez:=ez';clear U ez';clear cez0 cez1 cez2 cez3 cez4 cez5 cez6 cez7 fez
  obtain⟨cez0,cez1,cez2,cez3,cez4,cez5,cez6,cez7⟩:=ez.cells8;have fez:=ez.frozen;refine bodyPost_ret (v := .tuple #[.agg #[.bool false,.slice none 0 0,.bool false,.slice none 0 0,.bool false,.slice none 0 0,.bool false,.slice none 0 0],.int .i64 12]) (by simp[results,Tryz.results34,go_sem,cez0,cez1,cez2,cez3,cez4,cez5,cez6,cez7]) rfl ?_;exact Ah.mk ⟨_,12,rfl,fun e=>absurd e Ab,fun _=>rfl,by rw[←HE.out];rw[if_neg Ab,if_neg HNN.out,if_neg hone]⟩ hx
 rw[decide_eq_true hone];have HO:=Ad hone;clear hone;have hbx:GI w5 w.heap.size 30 (CK (rc (AZ (cz l))) p q 0).1 (CK (rc (AZ (cz l))) p q 0).2:=⟨_,_,_,_,_,_,_,_,_,_,_,_,_,_,_,_,eb,HI.out.1.ext hx,HI.out.2.ext hx⟩
 clear eb HI;go_wp2
 go_loopw [34] (fun iv wr=>∃ k:Nat,k≤N∧iv = .int .i64 (k:Nat)∧GI wr w.heap.size 30 (CK (rc (AZ (cz l))) p q k).1 (CK (rc (AZ (cz l))) p q k).2∧AU wr (w.heap.size+1) 30 #[.bool false,.slice none 0 0,.bool false,.slice none 0 0,.bool false,.slice none 0 0,.bool false,.slice none 0 0]∧AU wr gc 92 #[.slice cA cn cc]∧GG w2.heap.size 23 wr (.agg #[.slice cA cn cc]) (AZ (cz l))∧Ext w wr) (fun iv _=>N - (intOf iv).toNat)
 case atStart=>exact⟨0,Aa,rfl,hbx,ez,ec,hcn,hx⟩
 case round =>
  clear hbx ez ec hcn hx;obtain⟨k,hk,rfl,⟨d1,D1,e1,f1,d2,D2,e2,f2,d3,D3,e3,f3,d4,D4,e4,f4,eb,j1,j2⟩,ez,ec,hcn,hx⟩:=hrel;by_cases hkN:k < N
  ·have HC:=Ad (Au hcn (Au j1 j2));clear hcn j1 j2
   obtain⟨ceb0,ceb1,ceb2,ceb3,ceb4,ceb5,ceb6,ceb7⟩:=eb.cells8;have feb:=eb.frozen;have cec0:=ec.cells1
   go_wp2_with fail
   refine AO (Jc _ _ (cz l) p q D M t k _ _ HU.out.2 hD HV.out.2.2.1 HV.out.2.2.2 Aa HC.out.1 ⟨_,_,_,_,_,_,_,_,_,_,_,_,_,_,_,_,rfl,HC.out.2.1,HC.out.2.2⟩) ?_;rintro r6 w6 ⟨g1,G1,e5,f5,g2,G2,e6,f6,g3,G3,e7,f7,g4,G4,e8,f8,rfl,j1,j2⟩ hx6;have hcn:=HC.out.1.ext hx6;clear ceb0 ceb1 ceb2 ceb3 ceb4 ceb5 ceb6 ceb7 feb cec0 HC;replace eb:=eb.ext hx6;replace ez:=ez.ext hx6;replace ec:=ec.ext hx6;replace hx:=hx.trans hx6
   clear hx6;obtain⟨ceb0,ceb1,ceb2,ceb3,ceb4,ceb5,ceb6,ceb7⟩:=eb.cells8;have feb:=eb.frozen;go_wp2;obtain⟨W9,eW,eb',U⟩:=eb.put8 (.bool g1) (.slice G1 e5 f5) (.bool g2) (.slice G2 e6 f6) (.bool g3) (.slice G3 e7 f7) (.bool g4) (.slice G4 e8 f8) rfl rfl rfl rfl rfl rfl rfl rfl;rw[←eW];clear eW eb;replace j1:=j1.kd U.kd;replace j2:=j2.kd U.kd;replace ez:=ez.upd U Af;replace ec:=ec.upd U Af;replace hcn:=hcn.upd U Af
   replace hx:=U.from_ hx Af;have eb:=eb';clear U eb';clear ceb0 ceb1 ceb2 ceb3 ceb4 ceb5 ceb6 ceb7 feb
   go_roundw
   case rel=>exact⟨k+1,Aa,by go_num,⟨_,_,_,_,_,_,_,_,_,_,_,_,_,_,_,_,eb,j1,j2⟩,ez,ec,hcn,hx⟩
   case measure=>simp[intOf];omega
  ·obtain rfl:k=N:=by omega
   clear hcn;have HC:=Ad (Au j1 j2);clear j1 j2;obtain⟨ceb0,ceb1,ceb2,ceb3,ceb4,ceb5,ceb6,ceb7⟩:=eb.cells8;have feb:=eb.frozen
   go_wp2_with fail
   refine AO (PV _ _ _ _ _ HC.out.1 HC.out.2) ?_;rintro r6 w6 ⟨g1,G1,e5,f5,g2,G2,e6,f6,g3,G3,e7,f7,g4,G4,e8,f8,rfl,j1,j2⟩ hx6;clear ceb0 ceb1 ceb2 ceb3 ceb4 ceb5 ceb6 ceb7 feb eb ec;replace ez:=ez.ext hx6;replace hx:=hx.trans hx6;clear hx6;obtain⟨cez0,cez1,cez2,cez3,cez4,cez5,cez6,cez7⟩:=ez.cells8;have fez:=ez.frozen;go_wp2;obtain⟨W9,eW,ez',U⟩:=ez.put8 (.bool g1) (.slice G1 e5 f5) (.bool g2) (.slice G2 e6 f6) (.bool g3) (.slice G3 e7 f7) (.bool g4) (.slice G4 e8 f8) rfl rfl rfl rfl rfl rfl rfl rfl
   rw[←eW];clear eW ez;replace j1:=j1.kd U.kd;replace j2:=j2.kd U.kd;replace hx:=U.from_ hx Af;have ez:=ez';clear U ez';clear cez0 cez1 cez2 cez3 cez4 cez5 cez6 cez7 fez;obtain⟨cez0,cez1,cez2,cez3,cez4,cez5,cez6,cez7⟩:=ez.cells8;have fez:=ez.frozen;refine bodyPost_ret (v := .tuple #[.agg #[.bool g1,.slice G1 e5 f5,.bool g2,.slice G2 e6 f6,.bool g3,.slice G3 e7 f7,.bool g4,.slice G4 e8 f8],.int .i64 0]) (by simp[results,Tryz.results34,go_sem,cez0,cez1,cez2,cez3,cez4,cez5,cez6,cez7]) rfl ?_
   exact Ah.mk ⟨_,0,rfl,fun _=>⟨_,_,_,_,_,_,_,_,_,_,_,_,_,_,_,_,rfl,j1,j2⟩,fun e=>absurd rfl e,by rw[←HE.out,if_neg Ab,if_neg HNN.out,if_pos HO.out]⟩ hx
end Go.Proofs.YtmhgnigpmompmaaGreat
namespace Go.Hp
open Go.RowKit
theorem Bp.inj{w:World}{v:Value}{x y:Int}(h:Bp w v x)(k:Bp w v y):x=y:=by
 obtain⟨n,ds,⟨s,rfl,hd⟩,rfl,-⟩:=h;obtain⟨m,es,⟨t,e,he⟩,rfl,-⟩:=k;cases e;rw[hd.uniq he]
theorem BG.inj{w:World}{v:Value}{p q:Rat}(h:BG w v p)(k:BG w v q):p=q:=by
 obtain⟨b,A,n,c,b',A',n',c',x,y,rfl,h1,h2,-,-,rfl⟩:=h;obtain⟨d,B,m,e,d',B',m',e',x',y',k0,k1,k2,-,-,rfl⟩:=k;cases k0;rw[h1.inj k1,h2.inj k2]
theorem GI.inj{w:World}{g:Nat}{t:TypeId}{p q p' q':Rat}(h:GI w g t p q)(k:GI w g t p' q'):p=p'∧q=q':=by
 obtain⟨b1,A1,n1,c1,b2,A2,n2,c2,b3,A3,n3,c3,b4,A4,n4,c4,h1,h2,h3⟩:=h;obtain⟨d1,B1,m1,e1,d2,B2,m2,e2,d3,B3,m3,e3,d4,B4,m4,e4,k1,k2,k3⟩:=k;have e:=h1.1.symm.trans k1.1;cases e;exact⟨h2.inj k2,h3.inj k3⟩
theorem Xl{R:Rat→Rat→Int}{p q:Rat}(hpq:p < q){j k:Nat}(h1:(CK R p q j).1=(CK R p q k).1)(h2:(CK R p q j).2=(CK R p q k).2):j=k:=by
 have a:=(DU R p q j).width;have b:=(DU R p q k).width;have c:=((DU R p q k).within hpq).2.1;rw[h1,h2]at a;have e:(2:Rat)^j=2^k:=by
  have hne:(CK R p q k).2 - (CK R p q k).1≠0:=by grind
  have:((CK R p q k).2 - (CK R p q k).1)*(2^j - 2^k)=0:=by grind
  rcases Rat.mul_eq_zero.1 this with z | z
  ·exact absurd z hne
  ·grind
 have key:∀ {m n:Nat},m < n→(2:Rat)^m≠2^n:=fun {m n} h e=>by
  have h1:=JR (show m+1≤n from h);rw[Rat.pow_succ]at h1;have:=BX m;grind
 rcases Nat.lt_trichotomy j k with z | z | z
 ·exact absurd e (key z)
 ·exact z
 ·exact absurd e.symm (key z)
noncomputable def XP(w:World)(g:Nat)(t:TypeId)(R:Rat→Rat→Int)(p q:Rat):Nat:=open Classical in if h:∃ k,GI w g t (CK R p q k).1 (CK R p q k).2 then Classical.choose h else 0
theorem KY{w:World}{g:Nat}{t:TypeId}{R:Rat→Rat→Int}{p q:Rat}(hpq:p < q){k:Nat}(h:GI w g t (CK R p q k).1 (CK R p q k).2):XP w g t R p q=k:=by
 have hx:∃ k,GI w g t (CK R p q k).1 (CK R p q k).2:=⟨k,h⟩
 unfold XP;rw[dif_pos hx];have:=(Classical.choose_spec hx).inj h;exact Xl hpq this.1 this.2
def PH(F G:Nat→Rat)(p q:Rat)(s:Int):Prop:=(G=pz∧s=0)∨(G≠pz∧rc (AZ (D8 F G)) p q=1∧s=0) ∨
 (G≠pz∧rc (AZ (D8 F G)) p q≠1∧∃ K,rc (AZ G) (CK (rc (AZ F)) p q K).1 (CK (rc (AZ F)) p q K).2=0∧(∀ j,j < K→rc (AZ G) (CK (rc (AZ F)) p q j).1 (CK (rc (AZ F)) p q j).2≠0)∧s=FM (ev G (CK (rc (AZ F)) p q K).2))
theorem PH.uniq{F G:Nat→Rat}{p q:Rat}{s s':Int}(h:PH F G p q s)(k:PH F G p q s'):s=s':=by
 rcases h with⟨a,b⟩ | ⟨a,b,c⟩ | ⟨a,b,K,c,d,e⟩<;>rcases k with⟨a',b'⟩ | ⟨a',b',c'⟩ | ⟨a',b',K',c',d',e'⟩
 ·rw[b,b']
 ·exact absurd a a'
 ·exact absurd a a'
 ·exact absurd a' a
 ·rw[c,c']
 ·exact absurd b b'
 ·exact absurd a' a
 ·exact absurd b' b
 ·rcases Nat.lt_trichotomy K K' with z | z | z
  ·exact absurd c (d' K z)
  ·subst z;rw[e,e']
  ·exact absurd c' (d K' z)
def bG(F G:Nat→Rat)(p q:Rat)(r:Value):Prop:=∃ s E,r = .tuple #[.int .i64 s,.int .i64 E]∧(E≠0→s=0)∧(E=0→PH F G p q s)∧E=if Bf F≠0 then Bf F else if Bf G=7 then 7 else if p < q∧rc (AZ F) p q=1 then 0 else 12
def Rm(F:Nat→Rat):Prop:=∃ D M,Pg F D M∧D≤20
theorem Rp{F:Nat→Rat}(h:Bf F=0)(z:ZI F):F≠pz∧pl F≤33∧∀ i,qsz (F i)≤129:=by
 rcases Cf F with⟨_,e⟩ | ⟨_,e⟩ | ⟨a,b,c,_⟩
 ·omega
 ·omega
 ·exact⟨a,b,WG z c⟩
end Go.Hp
namespace Go.Proofs.YtmhgnigpmompmaaGreat
open Go.RowKit Go.Hp
theorem UG(v a b:Value)(F:Nat→Rat)(p q:Rat)(D M t base:Nat)(w:World)(hR:Pg F D M)(hD:D≤20)(hp:qsz p≤t)(hq:qsz q≤t)(ht:t≤4500000000)(hv:GG base 23 w v (AZ F))(ha:BG w a p)(hb:BG w b q) :
  Bi 51 #[v,a,b] w (fun r _=>r = .int .i64 (rc (AZ F) p q)):=by
 obtain⟨S,hC⟩:=hR.chn;have hM:=hR.lim.1;have hm:D*(M+t+1)≤20*(M+t+1):=Nat.mul_le_mul_right _ hD;have:=TZ v a b (AZ F) p q base S D M t (kn (AZ F)) w hv ha hb hC hR.k hp hq Aa;rw[show((V (EL (AZ F) (pd (AZ F)) (kn (AZ F))) p:Nat):Int) - (V (EL (AZ F) (pd (AZ F)) (kn (AZ F))) q:Nat)=rc (AZ F) p q from FI hR.k p q]at this;exact this
set_option maxRecDepth 20000 in
theorem TP(v u i0:Value)(m l:List Int)(p q:Rat)(t:Nat)(w:World)(hv:EO 0 w v m)(hu:EO 0 w u l)(hi:JS w i0 p q)(hm:m.length≤1000000)(hl:l.length≤1000000)
  (hF:Bf (cz l)=0→Rm (cz l)) (hG:Bf (cz m)=0→Rm (cz m)) (hC:Bf (cz l)=0→Bf (cz m)=0→Rm (D8 (cz l) (cz m)))
  (hgcd:Bf (cz l)=0→Bf (cz m)=0→∀ X a b,AL 0 X a (cz l)→AL 0 X b (cz m)→Bi 42 #[a,b] X (fun r w'=>AL 0 w' r (D8 (cz l) (cz m))))
  (hK:Bf (cz l)=0→Bf (cz m)=0→p < q→rc (AZ (cz l)) p q=1→rc (AZ (D8 (cz l) (cz m))) p q≠1→∃ K,K≤1000001000∧rc (AZ (cz m)) (CK (rc (AZ (cz l))) p q K).1 (CK (rc (AZ (cz l))) p q K).2=0∧∀ j,j < K→rc (AZ (cz m)) (CK (rc (AZ (cz l))) p q j).1 (CK (rc (AZ (cz l))) p q j).2≠0)
  (hp:qsz p≤t) (hq:qsz q≤t) (ht:t≤1000000000) :
  Bi 40 #[v,u,i0] w (fun r _=>bG (cz l) (cz m) p q r):=by
 have HV:=Ad (Au hv hu);have HH:=Ad (Au hF (Au hG (Au hC (Au hgcd hK))));have HP:=Ad (Au hp hq);obtain⟨A,c,rfl⟩:=hv.len;obtain⟨A',c',rfl⟩:=hu.len;obtain⟨b1,B1,m1,k1,b2,B2,m2,k2,b3,B3,m3,k3,b4,B4,m4,k4,rfl,hi1,hi2⟩:=hi;have HI:=Ad (Au hi1 hi2);clear hv hu hF hG hC hgcd hK hi1 hi2 hp hq
 go_enter Tryz.func40,Tryz.ntmps40
 obtain⟨W1,eW1,eb,y1⟩:=AU.made w 30 #[.bool b1,.slice B1 m1 k1,.bool b2,.slice B2 m2 k2,.bool b3,.slice B3 m3 k3,.bool b4,.slice B4 m4 k4] (by simp[Aj]);have hx:=y1
 go_upto_region 1 with(fail)
 rw[←eW1];clear y1 eW1
 go_wp2_with fail
 refine AO (Gj _ l _ (HV.out.2.ext hx) hl) ?_;rintro r2 w2 ⟨u,rfl,hu1,hu2⟩ hx2;replace eb:=eb.ext hx2;replace hx:=hx.trans hx2;clear hx2;have hgb:=eb.lt;obtain⟨E,hE⟩:∃ E,E=Bf (cz l):=⟨_,rfl⟩
 have hc:=Cf (cz l);rw[←hE]at hu1 hu2 hc ⊢;have HE:=Ad hE;clear hE;rcases hc with⟨-,hc⟩ | ⟨-,hc⟩ | ⟨h0,hpl,-,hc⟩
 ·subst hc
  clear hu1 hu2;go_wp2;refine bodyPost_ret (v := .tuple #[.int .i64 0,.int .i64 5]) (by simp[results,Tryz.results40,go_sem]) rfl ?_;exact Ah.mk ⟨0,5,rfl,fun _=>rfl,fun e=>absurd e Ab,by rw[←HE.out];rw[if_pos Ab]⟩ hx
 ·subst hc
  clear hu1 hu2;go_wp2;refine bodyPost_ret (v := .tuple #[.int .i64 0,.int .i64 7]) (by simp[results,Tryz.results40,go_sem]) rfl ?_;exact Ah.mk ⟨0,7,rfl,fun _=>rfl,fun e=>absurd e Ab,by rw[←HE.out];rw[if_pos Ab]⟩ hx
 subst hc;have hu:=hu1 rfl;obtain⟨A1,c1,rfl,-⟩:=hu.shape;have HU:=Ad hu;clear hu1 hu2 h0 hu hpl
 go_wp2_with fail
 refine AO (Su _ m _ (HV.out.1.ext hx) hm) ?_;rintro r3 w3 ⟨z,rfl,hz1,hz2⟩ hx3;have HU3:=Ad (HU.out.ext hx3);clear HU;have hs23:w2.heap.size≤w3.heap.size:=hx3.size;replace eb:=eb.ext hx3;replace hx:=hx.trans hx3;clear hx3;obtain⟨E2,hE2⟩:∃ E,E=Bf (cz m):=⟨_,rfl⟩
 have hc:=Cf (cz m);rw[←hE2]at hz1 hz2 hc ⊢;have HE2:=Ad hE2;clear hE2;by_cases h7:E2=7
 ·subst h7
  clear hz1 hz2 hc;go_wp2;refine bodyPost_ret (v := .tuple #[.int .i64 0,.int .i64 7]) (by simp[results,Tryz.results40,go_sem]) rfl ?_;exact Ah.mk ⟨0,7,rfl,fun _=>rfl,fun e=>absurd e Ab,by rw[←HE.out];rw[if_neg Ab,if_pos HE2.out.symm]⟩ hx
 have hzz:AL w2.heap.size w3 z (cz m)∧(cz m≠pz→E2=0):=by
  rcases hc with⟨a,e⟩ | ⟨a,e⟩ | ⟨a,-,-,e⟩
  ·rw[hz2 Aa,a]
   exact⟨AL.nil _ _,fun h=>absurd rfl h⟩
  ·exact absurd e h7
  ·exact⟨hz1 e,fun _=>e⟩
 have hb7:(E2==7)=false:=beq_eq_false_iff_ne.2 h7;obtain⟨A2,c2,rfl,-⟩:=hzz.1.shape;have HZ:=Ad (Au hzz (show Bf (cz m)≠7 from fun e=>h7 (HE2.out.trans e)));clear hz1 hz2 hc hzz h7;obtain⟨D1,M1,hR1,hD1⟩:=HH.out.1 HE.out.symm;have H1:=Ad hR1;clear hR1
 go_wp2_with fail
 refine AO (Dp _ (cz l) D1 M1 _ HU3.out H1.out) ?_;rintro r4 w4 hr4 hx4;obtain⟨cA,cn,cc,rfl⟩:=hr4.cell;obtain⟨W5,eW5,ec,y5⟩:=AU.made w4 92 #[.slice cA cn cc] (by simp[Aj]);have hcn:=hr4.ext y5;have hx45:=hx4.trans y5;have hgc:w3.heap.size≤w4.heap.size:=hx4.size;have HUZ:=Ad (Au (HU3.out.ext hx45) (HZ.out.1.1.ext hx45));clear HU3;replace eb:=eb.ext hx45;replace hx:=hx.trans hx45;clear hx45;clear hr4 hx4 y5
 go_upto_region 8 with(fail)
 rw[←eW5];clear eW5;generalize w4.heap.size=gc at *;obtain⟨ceb0,ceb1,ceb2,ceb3,ceb4,ceb5,ceb6,ceb7⟩:=eb.cells8;have feb:=eb.frozen;have cec0:=ec.cells1;have HC:=Ad hcn;clear hcn
 go_wp2_with fail
 refine AO (Ow _ _ (cz l) p q D1 M1 t _ _ H1.out hD1 HP.out.1 HP.out.2 Aa HC.out ⟨_,_,_,_,_,_,_,_,_,_,_,_,_,_,_,_,rfl,HI.out.1.ext hx,HI.out.2.ext hx⟩) ?_;rintro r6 w6 rfl hx6;have hcn:=HC.out.ext hx6;have HUZ6:=Ad (Au (HUZ.out.1.ext hx6) (HUZ.out.2.ext hx6));clear HUZ;clear ceb0 ceb1 ceb2 ceb3 ceb4 ceb5 ceb6 ceb7 feb cec0 HC;replace eb:=eb.ext hx6;replace ec:=ec.ext hx6;replace hx:=hx.trans hx6;clear hx6
 by_cases hone:p < q∧rc (AZ (cz l)) p q=1
 case neg =>
  rw[decide_eq_false hone];clear hcn;go_wp2;refine bodyPost_ret (v := .tuple #[.int .i64 0,.int .i64 12]) (by simp[results,Tryz.results40,go_sem]) rfl ?_;exact Ah.mk ⟨0,12,rfl,fun _=>rfl,fun e=>absurd e Ab,by rw[←HE.out];rw[if_neg Ab,if_neg HZ.out.2,if_neg hone]⟩ hx
 rw[decide_eq_true hone];have HO:=Ad hone;clear hone;have HE0:=Ad (show(0:Int)=if Bf (cz l)≠0 then Bf (cz l)else if Bf (cz m)=7 then 7 else if p < q∧rc (AZ (cz l)) p q=1 then 0 else 12 from by rw[←HE.out,if_neg Ab,if_neg HZ.out.2,if_pos HO.out]);by_cases hp0:pl (cz m)=0
 ·have hmz:cz m=pz:=(Bw (Ae.cz m)).1 hp0
  have HM:=Ad hmz;clear hmz;rw[hp0];clear hcn;go_wp2;refine bodyPost_ret (v := .tuple #[.int .i64 0,.int .i64 0]) (by simp[results,Tryz.results40,go_sem]) rfl ?_;exact Ah.mk ⟨0,0,rfl,fun _=>rfl,fun _ => .inl ⟨HM.out,rfl⟩,HE0.out⟩ hx
 have hmz:cz m≠pz:=fun e=>hp0 (by rw[e,C8]);have e2:=HZ.out.1.2 hmz;have HM:=Ad (Au hmz (HE2.out.symm.trans e2));clear hmz;have hb0:(((pl (cz m):Nat):Int)==0)=false:=beq_eq_false_iff_ne.2 Aa;obtain⟨C,hCe⟩:∃ C,C=D8 (cz l) (cz m):=⟨_,rfl⟩
 have HCe:=Ad hCe;clear hCe;have hgc0:=HH.out.2.2.2.1 HE.out.symm HM.out.2;rw[←HCe.out]at hgc0;have HG:=Ad hgc0;clear hgc0;have HCN:=Ad hcn;clear hcn
 go_wp2_with fail
 refine AO (HG.out _ _ _ HUZ6.out.1 (HUZ6.out.2.base_le (Nat.zero_le _))) ?_;rintro r7 w7 hr7 hx7;obtain⟨A3,c3,rfl,-⟩:=hr7.shape;have HU7:=Ad (Au hr7 (Au (HUZ6.out.2.ext hx7) (HCN.out.ext hx7)));clear HUZ6 HCN hr7;replace eb:=eb.ext hx7;replace ec:=ec.ext hx7;replace hx:=hx.trans hx7;clear hx7;obtain⟨N3,hN3⟩:∃ N,N=pl C:=⟨_,rfl⟩
 rw[←hN3];have HN3:=Ad hN3;clear hN3;obtain⟨D3,M3,hR3,hD3⟩:=HH.out.2.2.1 HE.out.symm HM.out.2;rw[←HCe.out]at hR3;have H3:=Ad hR3;clear hR3;obtain⟨X,hX⟩:∃ X,X=rc (AZ C) p q:=⟨_,rfl⟩
 have HX:=Ad hX;clear hX
 go_upto_region 13 with(fail)
 obtain⟨ceb0,ceb1,ceb2,ceb3,ceb4,ceb5,ceb6,ceb7⟩:=eb.cells8;have feb:=eb.frozen
 go_cut [52] (fun bv wx=>bv = .bool (decide (X=1))∧Ext w7 wx)
 case first =>
  rename_i hJ hM';by_cases hp1:N3≤1
  ·have hX0:X=0:=by
    rw[HX.out];exact VB H3.out.z H3.out.f H3.out.n0 (by rw[←HN3.out];exact hp1) (Std.le_of_lt HO.out.1)
   have HD:=Ad (show decide (X=1)=false from decide_eq_false Aa);clear hX0;rcases(show N3=0∨N3=1 by omega)with rfl | rfl
   all_goals
    clear hp1
    go_region
    refine hM' _ _ (Met.intro (hJ _ _ ?_))
    (repeat apply Exists.intro)
    refine⟨?rel,rfl⟩
    case rel=>exact⟨by rw[HD.out],(Ext.refl _).drew⟩
  ·have HN:=Ad (show decide (1 < (N3:Int))=true from decide_eq_true Aa);clear hp1
   have HU8:=Ad (Au (show AL 0 w7 (.slice A3 N3 c3) C from by rw[HN3.out];exact HU7.out.1) (Au (HI.out.1.ext hx) (HI.out.2.ext hx)));refine Ai 10 [40,41,42,43,44,45,46,47,48,49] [[],[0],[0,1],[0,1,2],[0,1,2,3],[0,1,2,3,4],[0,1,2,3],[0,1,2,3,6],[0,1,2,3],[0,1,2,3,8],[0,1,2,3,4,5,6,7,8,9],[0,1,2,3,4,5,6,7,8,9,10],[0,1,2,3,4,5,6,7,8,9,10,11]] [10,5] [_,_] [(kv ?_),(kv ?_),(kv (.bool true)),(kv (.bool true)),(kv ?_),(fun γ=>γ 5),(kv ?_),(kv ?_),(kv ?_),(kv ?_)] (fun γ w'=>[True,True,True,True,True,GG 0 23 w' (γ 5) (AZ C),True,True,True,True]) BQ Av Av BS Av BU C9 ?hstep1 ?_
   case hstep1 =>
    iterate 10 refine⟨?_,?_⟩
    trivial
    iterate 2 focus
     intro γ w' he hf;clear hf;refine⟨by trivial,?_⟩;intro R hR;have hc:=he.cells;go_simp;(try go_ints);(try(rw[if_neg Aa]));(try(rw[if_pos Aa]));(try go_simp);(try go_ints)
     refine hR _ _ (Ext.refl _) ?_ trivial;rfl
    ·intro γ w' he hf;clear hf;refine⟨trivial,?_⟩;intro R hR
     have hc:=he.cells;go_simp
     (try go_ints);(try(rw[if_neg Aa]));(try(rw[if_pos Aa]));(try go_simp);(try go_ints)
     refine hR _ _ (Ext.refl _) ?_ trivial;rw[HN.out];rfl
    ·intro γ w' he hf;clear hf;refine⟨trivial,?_⟩;intro R hR
     have hc:=he.cells;go_simp
     (try go_ints);(try(rw[if_neg Aa]));(try(rw[if_pos Aa]));(try go_simp);(try go_ints)
     refine hR _ _ (Ext.refl _) ?_ trivial;rfl
    iterate 1 focus
     intro γ w' he hf;clear hf;refine⟨by trivial,?_⟩;intro R hR;have hc:=he.cells;go_simp;refine hR _ _ (Ext.refl _) ?_ trivial;rfl
    ·intro γ w' he hf;clear hf;refine⟨rfl,?_⟩;intro R hR
     go_simp;exact BB (F:=fun r w''=>GG 0 23 w'' (r) (AZ C)) (Ah.imp (Dp _ C D3 M3 w' (HU8.out.1.ext he) H3.out) fun _ _ h=>h.lower (Nat.zero_le _)) hR
    iterate 4 focus
     intro γ w' he hf;clear hf;refine⟨by trivial,?_⟩;intro R hR;have hc:=he.cells;have cq0:=he.cell ceb0;have cq1:=he.cell ceb1;have cq2:=he.cell ceb2;have cq3:=he.cell ceb3;have cq4:=he.cell ceb4;have cq5:=he.cell ceb5;have cq6:=he.cell ceb6;have cq7:=he.cell ceb7;go_simp;refine hR _ _ (Ext.refl _) ?_ trivial;rfl
   intro γ w8 hx8 hF;have p5:GG 0 23 w8 (γ 5) (AZ C):=AJ.get hF 5 Ab;clear hF;simp only[Br,Nat.reduceAdd];generalize γ 5=g5 at *;clear γ;obtain⟨dA,dn,dc,rfl⟩:=p5.cell;have hin:=UG _ _ _ C p q D3 M3 t _ _ H3.out hD3 HP.out.1 HP.out.2 Aa p5 (HU8.out.2.1.ext hx8) (HU8.out.2.2.ext hx8);rw[←HX.out]at hin;have HIN:=Ad hin;clear hin p5
   go_wp2_with fail
   refine AO HIN.out ?_;rintro r9 w9 rfl hx9;have hx10:=hx8.trans hx9;clear ceb0 ceb1 ceb2 ceb3 ceb4 ceb5 ceb6 ceb7 feb HIN HU8;by_cases hX1:X=1
   ·subst hX1
    go_wp2
    go_meet
    case rel=>exact⟨rfl,hx10⟩
   ·have hbX:(X==1)=false:=beq_eq_false_iff_ne.2 hX1
    have HD:=Ad (decide_eq_false hX1);clear hX1;go_wp2
    go_meet
    case rel=>exact⟨by rw[HD.out],hx10⟩
 case rest =>
  clear ceb0 ceb1 ceb2 ceb3 ceb4 ceb5 ceb6 ceb7 feb;obtain⟨rfl,hx8⟩:=hcut;have HU8:=Ad (Au (HU7.out.2.1.ext hx8) (HU7.out.2.2.ext hx8));clear HU7;replace eb:=eb.ext hx8;replace ec:=ec.ext hx8;replace hx:=hx.trans hx8;clear hx8;by_cases hX1:X=1
  ·rw[decide_eq_true hX1]
   have HX1:=Ad hX1;clear hX1;go_wp2;refine bodyPost_ret (v := .tuple #[.int .i64 0,.int .i64 0]) (by simp[results,Tryz.results40,go_sem]) rfl ?_;exact Ah.mk ⟨0,0,rfl,fun _=>rfl,fun _ => .inr (.inl ⟨HM.out.1,by rw[←HCe.out,←HX.out,HX1.out],rfl⟩),HE0.out⟩ hx
  rw[decide_eq_false hX1];have HX1:=Ad (show rc (AZ (D8 (cz l) (cz m))) p q≠1 by rw[←HCe.out,←HX.out];exact hX1);clear hX1;obtain⟨K,hK9,hK0,hKn⟩:=HH.out.2.2.2.2 HE.out.symm HM.out.2 HO.out.1 HO.out.2 HX1.out;have HKK:=Ad (Au hK0 hKn);clear hK0 hKn;obtain⟨D2,M2,hR2,hD2⟩:=HH.out.2.1 HM.out.2;have H2:=Ad hR2;clear hR2;have HSM:=Ad (Rp HM.out.2 (ZI.cz m))
  go_wp2_with fail
  refine AO (Dp _ (cz m) D2 M2 _ (HU8.out.1.base_le (Nat.zero_le _)) H2.out) ?_;rintro r9 w9 hr9 hx9;obtain⟨dA,dn,dc,rfl⟩:=hr9.cell;obtain⟨W10,eW10,ed,y10⟩:=AU.made w9 92 #[.slice dA dn dc] (by simp[Aj]);have hx910:=hx9.trans y10;have hb9:w.heap.size < wc.heap.size:=eb.lt;have hgd:wc.heap.size≤w9.heap.size:=hx9.size;have hc1:=HU8.out.2.ext hx910;have hc2:=hr9.ext y10;have hg0:=HU8.out.1.ext hx910;replace eb:=eb.ext hx910
  replace ec:=ec.ext hx910;replace hx:=hx.trans hx910;clear hx910;clear hr9 hx9 y10 HU8;have hbx:GI W10 w.heap.size 30 (CK (rc (AZ (cz l))) p q 0).1 (CK (rc (AZ (cz l))) p q 0).2:=⟨_,_,_,_,_,_,_,_,_,_,_,_,_,_,_,_,eb,HI.out.1.ext hx,HI.out.2.ext hx⟩
  clear eb HI;go_wp2;rw[←eW10];clear eW10;generalize w9.heap.size=gd at *
  go_loopw [] (fun wr=>∃ k:Nat,k≤K∧GI wr w.heap.size 30 (CK (rc (AZ (cz l))) p q k).1 (CK (rc (AZ (cz l))) p q k).2∧AU wr gc 92 #[.slice cA cn cc]∧AU wr gd 92 #[.slice dA dn dc]∧GG w3.heap.size 23 wr (.agg #[.slice cA cn cc]) (AZ (cz l))∧GG wc.heap.size 23 wr (.agg #[.slice dA dn dc]) (AZ (cz m))∧AL w2.heap.size wr (.slice A2 (pl (cz m)) c2) (cz m)∧Ext w wr) (fun wr=>K - XP wr w.heap.size 30 (rc (AZ (cz l))) p q)
  case atStart=>exact⟨0,Aa,hbx,ec,ed,hc1,hc2,hg0,hx⟩
  case round =>
   clear hbx ec ed hc1 hc2 hg0 hx;obtain⟨k,hk,hbi,ec,ed,hc1,hc2,hg0,hx⟩:=hrel;have HPN:=Ad (KY HO.out.1 hbi);have z1:=KW (R:=rc (AZ (cz l))) HP.out.1 HP.out.2 k;obtain⟨P,hPe⟩:∃ P,P=CK (rc (AZ (cz l))) p q k:=⟨_,rfl⟩
   rw[←hPe]at hbi z1;obtain⟨b1,B1,m1,k1,b2,B2,m2,k2,b3,B3,m3,k3,b4,B4,m4,k4,eb,i1,i2⟩:=hbi;have HC:=Ad (Au hc1 (Au hc2 (Au i1 i2)));clear hc1 hc2 i1 i2;have HG0:=Ad hg0;clear hg0;have HS:=Ad (Au z1 hPe);clear z1 hPe;have hin:=UG _ _ _ (cz m) P.1 P.2 D2 M2 _ _ wr H2.out hD2 HS.out.1.1 HS.out.1.2.1 Aa HC.out.2.1 HC.out.2.2.1 HC.out.2.2.2;have hnn:=H2.out.sf.nonneg (p:=P.1) (q:=P.2) (by rw[HS.out.2];exact Std.le_of_lt ((DU (rc (AZ (cz l))) p q k).within HO.out.1).2.1)
   obtain⟨Y,hY⟩:∃ Y,Y=rc (AZ (cz m)) P.1 P.2:=⟨_,rfl⟩
   rw[←hY]at hin hnn;have HIN:=Ad hin;clear hin;have HY:=Ad hY;clear hY;obtain⟨ceb0,ceb1,ceb2,ceb3,ceb4,ceb5,ceb6,ceb7⟩:=eb.cells8;have feb:=eb.frozen;have cec0:=ec.cells1;have ced0:=ed.cells1
   go_wp2_with fail
   refine AO HIN.out ?_;rintro r11 w11 rfl hx11;have HC2:=Ad (Au (HC.out.1.ext hx11) (Au (HC.out.2.1.ext hx11) (Au (HC.out.2.2.1.ext hx11) (HC.out.2.2.2.ext hx11))));clear HC HIN;have HG1:=Ad (HG0.out.ext hx11);clear HG0;clear ceb0 ceb1 ceb2 ceb3 ceb4 ceb5 ceb6 ceb7 feb cec0 ced0;replace eb:=eb.ext hx11;replace ec:=ec.ext hx11;replace ed:=ed.ext hx11;replace hx:=hx.trans hx11;clear hx11;by_cases hY0:0 < Y
   ·have hkK:k < K:=by
     rcases Nat.lt_or_ge k K with h | h
     ·exact h
     ·obtain rfl:k=K:=by omega
      have h1:=HKK.out.1;rw[←HS.out.2,←HY.out]at h1;omega
    have hI:=HC2.out.2.2;rw[HS.out.2]at hI;have HI2:=Ad hI;clear hI;obtain⟨ceb0,ceb1,ceb2,ceb3,ceb4,ceb5,ceb6,ceb7⟩:=eb.cells8;have feb:=eb.frozen;have cec0:=ec.cells1
    go_wp2_with fail
    refine AO (Jc _ _ (cz l) p q D1 M1 t k _ _ H1.out hD1 HP.out.1 HP.out.2 Aa HC2.out.1 ⟨_,_,_,_,_,_,_,_,_,_,_,_,_,_,_,_,rfl,HI2.out.1,HI2.out.2⟩) ?_;rintro r12 w12 ⟨g1,G1,e5,f5,g2,G2,e6,f6,g3,G3,e7,f7,g4,G4,e8,f8,rfl,j1,j2⟩ hx12;have hc1:=HC2.out.1.ext hx12;have hc2:=HC2.out.2.1.ext hx12;have hg0:=HG1.out.ext hx12;clear ceb0 ceb1 ceb2 ceb3 ceb4 ceb5 ceb6 ceb7 feb cec0 HC2 HI2;replace eb:=eb.ext hx12
    replace ec:=ec.ext hx12;replace ed:=ed.ext hx12;replace hx:=hx.trans hx12;clear hx12;obtain⟨ceb0,ceb1,ceb2,ceb3,ceb4,ceb5,ceb6,ceb7⟩:=eb.cells8;have feb:=eb.frozen;go_wp2;obtain⟨W13,eW,eb',U⟩:=eb.put8 (.bool g1) (.slice G1 e5 f5) (.bool g2) (.slice G2 e6 f6) (.bool g3) (.slice G3 e7 f7) (.bool g4) (.slice G4 e8 f8) rfl rfl rfl rfl rfl rfl rfl rfl;rw[←eW];clear eW eb;replace j1:=j1.kd U.kd;replace j2:=j2.kd U.kd
    replace ec:=ec.upd U Af;replace ed:=ed.upd U Af;replace hc1:=hc1.upd U Af;replace hc2:=hc2.upd U Af;replace hg0:=hg0.upd U Af;replace hx:=U.from_ hx Af;have eb:=eb';clear U eb';clear ceb0 ceb1 ceb2 ceb3 ceb4 ceb5 ceb6 ceb7 feb;have hbx:GI W13 w.heap.size 30 (CK (rc (AZ (cz l))) p q (k+1)).1 (CK (rc (AZ (cz l))) p q (k+1)).2:=⟨_,_,_,_,_,_,_,_,_,_,_,_,_,_,_,_,eb,j1,j2⟩
    have HPN2:=Ad (KY HO.out.1 hbx)
    go_roundw
    case rel=>exact⟨k+1,Aa,hbx,ec,ed,hc1,hc2,hg0,hx⟩
    case measure=>rw[HPN.out,HPN2.out];omega
   ·have hkK:k=K:=by
     rcases Nat.lt_or_ge k K with h | h
     ·have h1:=HKK.out.2 k h
      rw[←HS.out.2,←HY.out]at h1;omega
     ·omega
    subst hkK;have hev:∀ X v u,AL 0 X v (cz m)→BG X u P.2→Bi 90 #[v,u] X (fun r w'=>Cb w' r (ev (cz m) P.2)):=fun X v u hv hu=>by
     have h9:33*(129+(3*t+k+4)+1)≤33*(129+4000001100+1):=by omega
     exact Q5 v u (cz m) P.2 129 (3*t+k+4) 33 X hv hu HSM.out.2.2 HS.out.1.2.1 HSM.out.2.1 Aa Aa
    have hqe:qsz (ev (cz m) P.2)≤274877906944:=by
     have h1:=Oh ((AC (Ae.cz m)).mono HSM.out.2.1) HSM.out.2.2 HS.out.1.2.1;omega
    have HV2:=Ad (Au hev hqe);clear hev hqe;have HF:=Ad (show PH (cz l) (cz m) p q (FM (ev (cz m) P.2))from .inr (.inr ⟨HM.out.1,HX1.out,k,HKK.out.1,HKK.out.2,by rw[←HS.out.2]⟩));obtain⟨ceb0,ceb1,ceb2,ceb3,ceb4,ceb5,ceb6,ceb7⟩:=eb.cells8;have feb:=eb.frozen
    go_wp2_with fail
    refine AO (HV2.out.1 _ _ _ (HG1.out.base_le (Nat.zero_le _)) HC2.out.2.2.2) ?_;rintro r12 w12 hr12 hx12;have HR:=Ad (hr12.has HV2.out.2);clear hr12
    go_wp2_with fail
    refine AO (Ki _ _ _ HR.out) ?_;rintro r13 w13 rfl hx13;have hx14:=(hx.trans hx12).trans hx13;generalize FM (ev (cz m) P.2)=sg at *;clear hx12 hx13;go_wp2;refine bodyPost_ret (v := .tuple #[.int .i64 sg,.int .i64 0]) (by simp[results,Tryz.results40,go_sem]) rfl ?_;exact Ah.mk ⟨sg,0,rfl,fun e=>absurd rfl e,fun _=>HF.out,HE0.out⟩ hx14
end Go.Proofs.YtmhgnigpmompmaaGreat
namespace Go.Hp
open Go.RowKit
def Ux(x y:Rat):Rat:=if x < y then y else x
def VW(x y:Rat):Rat:=if y < x then y else x
def Stp(C:Nat→Rat)(a b:Rat×Rat)(s:Int):Prop:=(a.2≤b.1∧s = -1)∨(¬ a.2≤b.1∧b.2≤a.1∧s=1)∨(¬ a.2≤b.1∧¬ b.2≤a.1∧rc (AZ C) (Ux a.1 b.1) (VW a.2 b.2)=1∧s=0)
def bC(F G:Nat→Rat)(p q p' q':Rat)(s:Int):Prop:=∃ K,Stp (D8 F G) (CK (rc (AZ F)) p q K) (CK (rc (AZ G)) p' q' K) s∧∀ j,j < K→∀ s',¬ Stp (D8 F G) (CK (rc (AZ F)) p q j) (CK (rc (AZ G)) p' q' j) s'
def bK(F G:Nat→Rat)(p q p' q':Rat)(r:Value):Prop:=∃ s E,r = .tuple #[.int .i64 s,.int .i64 E]∧(E≠0→s=0)∧(E=0→bC F G p q p' q' s) ∧
 E=if Bf F≠0 then Bf F else if ¬ (p < q∧rc (AZ F) p q=1)then 12 else if Bf G≠0 then Bf G else if p' < q'∧rc (AZ G) p' q'=1 then 0 else 12
structure ZO(w:World)(v:Value)(P:Rat×Rat):Prop where
 out:JS w v P.1 P.2
theorem ZO.ext{w w':World}{v:Value}{P:Rat×Rat}(h:ZO w v P)(e:Ext w w'):ZO w' v P:=⟨h.out.ext e⟩
def aJ(w:World)(g:Nat)(t:TypeId)(q:Rat):Prop:=∃ b A n c b' A' n' c',AU w g t #[.bool b,.slice A n c,.bool b',.slice A' n' c']∧BG w (.agg #[.bool b,.slice A n c,.bool b',.slice A' n' c']) q
theorem Gh{p q:Rat}:FM (p - q)≤0↔p≤q:=by
 have h:=Ep (p:=p) (q:=q);by_cases hq:q < p
 ·rw[decide_eq_true hq]at h
  have:=of_decide_eq_true h;exact⟨fun _=>Aa,fun _=>Ag⟩
 ·rw[decide_eq_false hq]at h
  have:=of_decide_eq_false h;exact⟨fun _=>Ag,fun _=>Aa⟩
theorem M7{p q:Rat}:FM (p - q) > 0↔q < p:=by
 have h:=Ep (p:=p) (q:=q);exact⟨fun h1=>of_decide_eq_true (h▸decide_eq_true h1),fun h1=>of_decide_eq_true (h▸decide_eq_true h1)⟩
theorem Me{p q:Rat}:FM (p - q) < 0↔p < q:=by
 have h:=Kt (p:=p) (q:=q);exact⟨fun h1=>of_decide_eq_true (h▸decide_eq_true h1),fun h1=>of_decide_eq_true (h▸decide_eq_true h1)⟩
end Go.Hp
namespace Go.Proofs.YtmhgnigpmompmaaGreat
open Go.RowKit Go.Hp
set_option maxRecDepth 20000 in
theorem Lx(v i0 u j0:Value)(l m:List Int)(p q p' q':Rat)(t:Nat)(w:World)(hv:EO 0 w v l)(hi:JS w i0 p q)(hu:EO 0 w u m)(hj:JS w j0 p' q')(hl:l.length≤1000000)(hm:m.length≤1000000)
  (hF:Bf (cz l)=0→Rm (cz l)) (hG:Bf (cz m)=0→Rm (cz m)) (hC:Bf (cz l)=0→Bf (cz m)=0→Rm (D8 (cz l) (cz m)))
  (hgcd:Bf (cz l)=0→Bf (cz m)=0→∀ X a b,AL 0 X a (cz l)→AL 0 X b (cz m)→Bi 42 #[a,b] X (fun r w'=>AL 0 w' r (D8 (cz l) (cz m))))
  (hK:Bf (cz l)=0→Bf (cz m)=0→p < q→rc (AZ (cz l)) p q=1→p' < q'→rc (AZ (cz m)) p' q'=1→∃ K,K≤1000001000∧(∃ s,Stp (D8 (cz l) (cz m)) (CK (rc (AZ (cz l))) p q K) (CK (rc (AZ (cz m))) p' q' K) s)∧∀ j,j < K→∀ s,¬ Stp (D8 (cz l) (cz m)) (CK (rc (AZ (cz l))) p q j) (CK (rc (AZ (cz m))) p' q' j) s)
  (hp:qsz p≤t) (hq:qsz q≤t) (hp':qsz p'≤t) (hq':qsz q'≤t) (ht:t≤1000000000) :
  Bi 43 #[v,i0,u,j0] w (fun r _=>bK (cz l) (cz m) p q p' q' r):=by
 have HV:=Ad (Au hv hu);have HH:=Ad (Au hF (Au hG (Au hC (Au hgcd hK))));have HP:=Ad (Au hp (Au hq (Au hp' hq')));obtain⟨A,c,rfl⟩:=hv.len;obtain⟨A',c',rfl⟩:=hu.len;obtain⟨b1,B1,m1,k1,b2,B2,m2,k2,b3,B3,m3,k3,b4,B4,m4,k4,rfl,hi1,hi2⟩:=hi;obtain⟨d1,D1,n1,l1,d2,D2,n2,l2,d3,D3,n3,l3,d4,D4,n4,l4,rfl,hj1,hj2⟩:=hj;have HI:=Ad (Au hi1 (Au hi2 (Au hj1 hj2)));clear hv hu hF hG hC hgcd hK hi1 hi2 hj1 hj2 hp hq hp' hq'
 go_enter Tryz.func43,Tryz.ntmps43
 obtain⟨W1,eW1,eb,y1⟩:=AU.made w 30 #[.bool b1,.slice B1 m1 k1,.bool b2,.slice B2 m2 k2,.bool b3,.slice B3 m3 k3,.bool b4,.slice B4 m4 k4] (by simp[Aj]);obtain⟨W2,eW2,ej,y2⟩:=AU.made W1 30 #[.bool d1,.slice D1 n1 l1,.bool d2,.slice D2 n2 l2,.bool d3,.slice D3 n3 l3,.bool d4,.slice D4 n4 l4] (by simp[Aj]);have hs1:W1.heap.size=w.heap.size+1:=by rw[eW1];simp
 rw[hs1]at ej;replace eb:=eb.ext y2;have hx:=y1.trans y2
 go_upto_region 1 with(fail)
 rw[←eW1,←eW2];clear y1 y2 eW1 eW2 hs1
 go_wp2_with fail
 refine AO (Gj _ l _ (HV.out.1.ext hx) hl) ?_;rintro r2 w2 ⟨u,rfl,hu1,hu2⟩ hx2;replace eb:=eb.ext hx2;replace ej:=ej.ext hx2;replace hx:=hx.trans hx2;clear hx2;have hgb:=eb.lt;have hgj:=ej.lt;have h22:=Ext.refl w2;obtain⟨E,hE⟩:∃ E,E=Bf (cz l):=⟨_,rfl⟩
 have hc:=Cf (cz l);rw[←hE]at hu1 hu2 hc ⊢;have HE:=Ad hE;clear hE;rcases hc with⟨-,hc⟩ | ⟨-,hc⟩ | ⟨h0,hpl,-,hc⟩
 ·subst hc
  clear hu1 hu2;go_wp2;refine bodyPost_ret (v := .tuple #[.int .i64 0,.int .i64 5]) (by simp[results,Tryz.results43,go_sem]) rfl ?_;exact Ah.mk ⟨0,5,rfl,fun _=>rfl,fun e=>absurd e Ab,by rw[←HE.out];rw[if_pos Ab]⟩ hx
 ·subst hc
  clear hu1 hu2;go_wp2;refine bodyPost_ret (v := .tuple #[.int .i64 0,.int .i64 7]) (by simp[results,Tryz.results43,go_sem]) rfl ?_;exact Ah.mk ⟨0,7,rfl,fun _=>rfl,fun e=>absurd e Ab,by rw[←HE.out];rw[if_pos Ab]⟩ hx
 subst hc;have hu:=hu1 rfl;obtain⟨A1,c1,rfl,-⟩:=hu.shape;have HU:=Ad hu;clear hu1 hu2 h0 hu hpl;obtain⟨D1',M1,hR1,hD1⟩:=HH.out.1 HE.out.symm;have H1:=Ad hR1;clear hR1
 go_wp2_with fail
 refine AO (Dp _ (cz l) D1' M1 _ HU.out H1.out) ?_;rintro r4 w4 hr4 hx4;obtain⟨cA,cn,cc,rfl⟩:=hr4.cell;obtain⟨W5,eW5,ec,y5⟩:=AU.made w4 92 #[.slice cA cn cc] (by simp[Aj]);have hcn:=hr4.ext y5;have hx45:=hx4.trans y5;have hgc:w2.heap.size≤w4.heap.size:=hx4.size;have HUZ:=Ad (HU.out.ext hx45);clear HU;replace eb:=eb.ext hx45;replace ej:=ej.ext hx45;replace hx:=hx.trans hx45;replace h22:=h22.trans hx45
 clear hx45;clear hr4 hx4 y5
 go_upto_region 5 with(fail)
 rw[←eW5];clear eW5;have hgc1:=ec.lt;generalize w4.heap.size=gc at *;obtain⟨ceb0,ceb1,ceb2,ceb3,ceb4,ceb5,ceb6,ceb7⟩:=eb.cells8;have feb:=eb.frozen;have cec0:=ec.cells1;have HC:=Ad hcn;clear hcn
 go_wp2_with fail
 refine AO (Ow _ _ (cz l) p q D1' M1 t _ _ H1.out hD1 HP.out.1 HP.out.2.1 Aa HC.out ⟨_,_,_,_,_,_,_,_,_,_,_,_,_,_,_,_,rfl,HI.out.1.ext hx,HI.out.2.1.ext hx⟩) ?_;rintro r6 w6 rfl hx6;have HC6:=Ad (Au (HC.out.ext hx6) (HUZ.out.ext hx6));clear HC HUZ;clear ceb0 ceb1 ceb2 ceb3 ceb4 ceb5 ceb6 ceb7 feb cec0;replace eb:=eb.ext hx6;replace ej:=ej.ext hx6;replace ec:=ec.ext hx6;replace hx:=hx.trans hx6;replace h22:=h22.trans hx6
 clear hx6;by_cases hone:p < q∧rc (AZ (cz l)) p q=1
 case neg =>
  rw[decide_eq_false hone];go_wp2;refine bodyPost_ret (v := .tuple #[.int .i64 0,.int .i64 12]) (by simp[results,Tryz.results43,go_sem]) rfl ?_;exact Ah.mk ⟨0,12,rfl,fun _=>rfl,fun e=>absurd e Ab,by rw[←HE.out];rw[if_neg Ab,if_pos hone]⟩ hx
 rw[decide_eq_true hone];have HO:=Ad hone;clear hone
 go_wp2_with fail
 refine AO (Gj _ m _ (HV.out.2.ext hx) hm) ?_;rintro r7 w7 ⟨z,rfl,hz1,hz2⟩ hx7;have HC7:=Ad (Au (HC6.out.1.ext hx7) (HC6.out.2.ext hx7));clear HC6;replace eb:=eb.ext hx7;replace ej:=ej.ext hx7;replace ec:=ec.ext hx7;replace hx:=hx.trans hx7;replace h22:=h22.trans hx7;clear hx7;obtain⟨E2,hE2⟩:∃ E,E=Bf (cz m):=⟨_,rfl⟩
 have hc:=Cf (cz m);rw[←hE2]at hz1 hz2 hc ⊢;have HE2:=Ad hE2;clear hE2;rcases hc with⟨-,hc⟩ | ⟨-,hc⟩ | ⟨h0,hpl,-,hc⟩
 ·subst hc
  clear hz1 hz2;go_wp2;refine bodyPost_ret (v := .tuple #[.int .i64 0,.int .i64 5]) (by simp[results,Tryz.results43,go_sem]) rfl ?_;exact Ah.mk ⟨0,5,rfl,fun _=>rfl,fun e=>absurd e Ab,by rw[←HE.out];rw[if_neg Ab,if_neg (fun h=>h HO.out),←HE2.out,if_pos Ab]⟩ hx
 ·subst hc
  clear hz1 hz2;go_wp2;refine bodyPost_ret (v := .tuple #[.int .i64 0,.int .i64 7]) (by simp[results,Tryz.results43,go_sem]) rfl ?_;exact Ah.mk ⟨0,7,rfl,fun _=>rfl,fun e=>absurd e Ab,by rw[←HE.out];rw[if_neg Ab,if_neg (fun h=>h HO.out),←HE2.out,if_pos Ab]⟩ hx
 subst hc;have hz:=hz1 rfl;obtain⟨A2,c2,rfl,-⟩:=hz.shape;have HZ:=Ad hz;clear hz1 hz2 h0 hz hpl;obtain⟨D2',M2,hR2,hD2⟩:=HH.out.2.1 HE2.out.symm;have H2:=Ad hR2;clear hR2
 go_wp2_with fail
 refine AO (Dp _ (cz m) D2' M2 _ HZ.out H2.out) ?_;rintro r8 w8 hr8 hx8;obtain⟨fA,fn,fc,rfl⟩:=hr8.cell;obtain⟨W9,eW9,ed,y9⟩:=AU.made w8 92 #[.slice fA fn fc] (by simp[Aj]);have hcn:=(hr8.lower h22.size).ext y9;have hx89:=hx8.trans y9;have hgd:w2.heap.size≤w8.heap.size:=Nat.le_trans h22.size hx8.size;have HC9:=Ad (Au (HC7.out.1.ext hx89) (Au (HC7.out.2.ext hx89) (HZ.out.ext hx89)));clear HC7 HZ;replace eb:=eb.ext hx89
 replace ej:=ej.ext hx89;replace ec:=ec.ext hx89;replace hx:=hx.trans hx89;replace h22:=h22.trans hx89;clear hx89;clear hr8 hx8 y9
 go_upto_region 11 with(fail)
 rw[←eW9];clear eW9;have hgd1:=ed.lt;generalize w8.heap.size=gd at *;obtain⟨cej0,cej1,cej2,cej3,cej4,cej5,cej6,cej7⟩:=ej.cells8;have fej:=ej.frozen;have ced0:=ed.cells1;have HD:=Ad hcn;clear hcn
 go_wp2_with fail
 refine AO (Ow _ _ (cz m) p' q' D2' M2 t _ _ H2.out hD2 HP.out.2.2.1 HP.out.2.2.2 Aa HD.out ⟨_,_,_,_,_,_,_,_,_,_,_,_,_,_,_,_,rfl,HI.out.2.2.1.ext hx,HI.out.2.2.2.ext hx⟩) ?_;rintro r10 w10 rfl hx10;have HC10:=Ad (Au (HC9.out.1.ext hx10) (Au (HD.out.ext hx10) (Au (HC9.out.2.1.ext hx10) (HC9.out.2.2.ext hx10))));clear HC9 HD;clear cej0 cej1 cej2 cej3 cej4 cej5 cej6 cej7 fej ced0;replace eb:=eb.ext hx10
 replace ej:=ej.ext hx10;replace ec:=ec.ext hx10;replace ed:=ed.ext hx10;replace hx:=hx.trans hx10;replace h22:=h22.trans hx10;clear hx10;by_cases hone:p' < q'∧rc (AZ (cz m)) p' q'=1
 case neg =>
  rw[decide_eq_false hone];go_wp2;refine bodyPost_ret (v := .tuple #[.int .i64 0,.int .i64 12]) (by simp[results,Tryz.results43,go_sem]) rfl ?_;exact Ah.mk ⟨0,12,rfl,fun _=>rfl,fun e=>absurd e Ab,by rw[←HE.out];rw[if_neg Ab,if_neg (fun h=>h HO.out),←HE2.out,if_neg Ab,if_neg hone]⟩ hx
 rw[decide_eq_true hone];have HO2:=Ad hone;clear hone;have HE0:=Ad (show(0:Int)=if Bf (cz l)≠0 then Bf (cz l)else if ¬ (p < q∧rc (AZ (cz l)) p q=1)then 12 else if Bf (cz m)≠0 then Bf (cz m)else if p' < q'∧rc (AZ (cz m)) p' q'=1 then 0 else 12 from by
  rw[←HE.out,if_neg Ab,if_neg (fun h=>h HO.out),←HE2.out,if_neg Ab,if_pos HO2.out])
 obtain⟨C,hCe⟩:∃ C,C=D8 (cz l) (cz m):=⟨_,rfl⟩
 have HCe:=Ad hCe;clear hCe;have hgc0:=HH.out.2.2.2.1 HE.out.symm HE2.out.symm;have hR3:=HH.out.2.2.1 HE.out.symm HE2.out.symm;rw[←HCe.out]at hgc0 hR3;obtain⟨D3',M3,hR3,hD3⟩:=hR3;have H3:=Ad (Au hgc0 hR3);clear hgc0 hR3;obtain⟨K,hK9,⟨sK,hsK⟩,hKn⟩:=HH.out.2.2.2.2 HE.out.symm HE2.out.symm HO.out.1 HO.out.2 HO2.out.1 HO2.out.2;rw[←HCe.out]at hsK hKn;have HKK:=Ad (Au hsK hKn);clear hsK hKn
 go_wp2_with fail
 refine AO (H3.out.1 _ _ _ HC10.out.2.2.1 HC10.out.2.2.2) ?_;rintro r11 w11 hr11 hx11;obtain⟨A3,c3,rfl,-⟩:=hr11.shape;have HC11:=Ad (Au (HC10.out.1.ext hx11) (Au (HC10.out.2.1.ext hx11) hr11));clear HC10 hr11;replace eb:=eb.ext hx11;replace ej:=ej.ext hx11;replace ec:=ec.ext hx11;replace ed:=ed.ext hx11;replace hx:=hx.trans hx11;replace h22:=h22.trans hx11;clear hx11
 go_wp2_with fail
 refine AO (Dp _ C D3' M3 _ HC11.out.2.2 H3.out.2) ?_;rintro r12 w12 hr12 hx12;obtain⟨hA,hn,hc,rfl⟩:=hr12.cell;obtain⟨W13,eW13,ek,y13⟩:=AU.made w12 92 #[.slice hA hn hc] (by simp[Aj]);have hx123:=hx12.trans y13;have hgk:w2.heap.size≤w12.heap.size:=Nat.le_trans h22.size hx12.size;have hc1:=HC11.out.1.ext hx123;have hc2:=HC11.out.2.1.ext hx123;have hc3:=(hr12.lower h22.size).ext y13;replace eb:=eb.ext hx123
 replace ej:=ej.ext hx123;replace ec:=ec.ext hx123;replace ed:=ed.ext hx123;replace hx:=hx.trans hx123;clear hx123;clear hr12 hx12 y13 HC11;have hbx:GI W13 w.heap.size 30 (CK (rc (AZ (cz l))) p q 0).1 (CK (rc (AZ (cz l))) p q 0).2:=⟨_,_,_,_,_,_,_,_,_,_,_,_,_,_,_,_,eb,HI.out.1.ext hx,HI.out.2.1.ext hx⟩
 have hjx:GI W13 (w.heap.size+1) 30 (CK (rc (AZ (cz m))) p' q' 0).1 (CK (rc (AZ (cz m))) p' q' 0).2:=⟨_,_,_,_,_,_,_,_,_,_,_,_,_,_,_,_,ej,HI.out.2.2.1.ext hx,HI.out.2.2.2.ext hx⟩
 clear eb ej HI h22;go_wp2;rw[←eW13];clear eW13;generalize w12.heap.size=gk at *
 go_loopw [] (fun wr=>∃ k:Nat,k≤K∧GI wr w.heap.size 30 (CK (rc (AZ (cz l))) p q k).1 (CK (rc (AZ (cz l))) p q k).2∧GI wr (w.heap.size+1) 30 (CK (rc (AZ (cz m))) p' q' k).1 (CK (rc (AZ (cz m))) p' q' k).2∧AU wr gc 92 #[.slice cA cn cc]∧AU wr gd 92 #[.slice fA fn fc]∧AU wr gk 92 #[.slice hA hn hc]∧GG w2.heap.size 23 wr (.agg #[.slice cA cn cc]) (AZ (cz l))∧GG w2.heap.size 23 wr (.agg #[.slice fA fn fc]) (AZ (cz m))∧GG w2.heap.size 23 wr (.agg #[.slice hA hn hc]) (AZ C)∧Ext w wr) (fun wr=>K - XP wr w.heap.size 30 (rc (AZ (cz l))) p q)
 case atStart=>exact⟨0,Aa,hbx,hjx,ec,ed,ek,hc1,hc2,hc3,hx⟩
 case round =>
  clear hbx hjx ec ed ek hc1 hc2 hc3 hx;obtain⟨k,hk,hbi,hji,ec,ed,ek,hc1,hc2,hc3,hx⟩:=hrel;have HPN:=Ad (KY HO.out.1 hbi);have z1:=KW (R:=rc (AZ (cz l))) HP.out.1 HP.out.2.1 k;have z2:=KW (R:=rc (AZ (cz m))) HP.out.2.2.1 HP.out.2.2.2 k;obtain⟨P,hPe⟩:∃ P,P=CK (rc (AZ (cz l))) p q k:=⟨_,rfl⟩
  obtain⟨Q,hQe⟩:∃ P,P=CK (rc (AZ (cz m))) p' q' k:=⟨_,rfl⟩
  rw[←hPe]at hbi z1;rw[←hQe]at hji z2;obtain⟨b1,B1,m1,k1,b2,B2,m2,k2,b3,B3,m3,k3,b4,B4,m4,k4,eb,i1,i2⟩:=hbi;obtain⟨d1,D1,n1,l1,d2,D2,n2,l2,d3,D3,n3,l3,d4,D4,n4,l4,ej,i3,i4⟩:=hji;have HN:=Ad (show ∀ j,j < k→∀ s',¬ Stp C (CK (rc (AZ (cz l))) p q j) (CK (rc (AZ (cz m))) p' q' j) s' from fun j hj=>HKK.out.2 j Aa);have HE3:=Ad (Au hPe hQe);clear hPe hQe;have HI:=Ad (Au i1 (Au i2 (Au i3 i4)));clear i1 i2 i3 i4
  have HC:=Ad (Au hc1 (Au hc2 hc3));clear hc1 hc2 hc3;have HB:=Ad (Au eb (Au ej (Au ec (Au ed ek))));clear ec ed ek;have HS:=Ad (Au z1 z2);clear z1 z2;have h0r:=Ext.refl wr;obtain⟨ceb0,ceb1,ceb2,ceb3,ceb4,ceb5,ceb6,ceb7⟩:=eb.cells8;have feb:=eb.frozen;obtain⟨cej0,cej1,cej2,cej3,cej4,cej5,cej6,cej7⟩:=ej.cells8;have fej:=ej.frozen
  go_wp2_with fail
  refine AO (Kq _ _ P.2 Q.1 _ HI.out.2.1 HI.out.2.2.1 (by have:=HS.out;omega)) ?_;rintro r14 w14 rfl hx14;clear ceb0 ceb1 ceb2 ceb3 ceb4 ceb5 ceb6 ceb7 feb cej0 cej1 cej2 cej3 cej4 cej5 cej6 cej7 fej;replace eb:=eb.ext hx14;replace ej:=ej.ext hx14;replace h0r:=h0r.trans hx14;clear hx14;by_cases hs1:P.2≤Q.1
  ·have hsg:=Gh.2 hs1
   have HS1:=Ad hs1;clear hs1;generalize FM (P.2 - Q.1)=sg at *;have hx:=hx.trans h0r;go_wp2;refine bodyPost_ret (v := .tuple #[.int .i64 (-1),.int .i64 0]) (by simp[results,Tryz.results43,go_sem]) rfl ?_;exact Ah.mk ⟨-1,0,rfl,fun e=>absurd rfl e,fun _=>⟨k,by rw[←HCe.out];exact by rw[←HE3.out.1,←HE3.out.2];exact .inl ⟨HS1.out,rfl⟩,fun j hj s'=>by rw[←HCe.out];exact HN.out j hj s'⟩,HE0.out⟩ hx
  have hsg:¬ FM (P.2 - Q.1)≤0:=fun h=>hs1 (Gh.1 h);have HS1:=Ad hs1;clear hs1;generalize FM (P.2 - Q.1)=sg at *;obtain⟨ceb0,ceb1,ceb2,ceb3,ceb4,ceb5,ceb6,ceb7⟩:=eb.cells8;have feb:=eb.frozen;obtain⟨cej0,cej1,cej2,cej3,cej4,cej5,cej6,cej7⟩:=ej.cells8;have fej:=ej.frozen
  go_wp2_with fail
  refine AO (Kq _ _ Q.2 P.1 _ (HI.out.2.2.2.ext h0r) (HI.out.1.ext h0r) (by have:=HS.out;omega)) ?_;rintro r15 w15 rfl hx15;clear ceb0 ceb1 ceb2 ceb3 ceb4 ceb5 ceb6 ceb7 feb cej0 cej1 cej2 cej3 cej4 cej5 cej6 cej7 fej;replace eb:=eb.ext hx15;replace ej:=ej.ext hx15;replace h0r:=h0r.trans hx15;clear hx15;by_cases hs2:Q.2≤P.1
  ·have hsg2:=Gh.2 hs2
   have HS2:=Ad hs2;clear hs2;generalize FM (Q.2 - P.1)=sg2 at *;have hx:=hx.trans h0r;go_wp2;refine bodyPost_ret (v := .tuple #[.int .i64 (1),.int .i64 0]) (by simp[results,Tryz.results43,go_sem]) rfl ?_;exact Ah.mk ⟨1,0,rfl,fun e=>absurd rfl e,fun _=>⟨k,by rw[←HCe.out];exact by rw[←HE3.out.1,←HE3.out.2];exact .inr (.inl ⟨HS1.out,HS2.out,rfl⟩),fun j hj s'=>by rw[←HCe.out];exact HN.out j hj s'⟩,HE0.out⟩ hx
  have hsg2:¬ FM (Q.2 - P.1)≤0:=fun h=>hs2 (Gh.1 h);have HS2:=Ad hs2;clear hs2;generalize FM (Q.2 - P.1)=sg2 at *
  go_upto_region 18 with(fail)
  clear hsg hsg2 ej;obtain⟨ceb0,ceb1,ceb2,ceb3,ceb4,ceb5,ceb6,ceb7⟩:=eb.cells8;have feb:=eb.frozen;have hw15:wr.heap.size≤w15.heap.size:=h0r.size
  go_cut [14,15] (fun pv qv wx=>∃ g4 g5,pv = .pointer (some ⟨g4,0,none⟩)∧qv = .pointer (some ⟨g5,0,none⟩)∧AU wx g4 28 #[.bool b1,.slice B1 m1 k1,.bool b2,.slice B2 m2 k2]∧AU wx g5 28 #[.bool b3,.slice B3 m3 k3,.bool b4,.slice B4 m4 k4]∧g4≠g5∧w15.heap.size≤g4∧w15.heap.size≤g5∧Ext w15 wx)
  case first =>
   rename_i hJ hM';have hne:w.heap.size < w15.heap.size:=by have:=hx.size;have:=eb.lt;omega
   have hne1:¬ w.heap.size=w15.heap.size:=by omega
   have hne2:¬ w.heap.size=w15.heap.size+1:=by omega
   have hne3:¬ w15.heap.size=w.heap.size:=by omega
   have hne4:¬ w15.heap.size+1=w.heap.size:=by omega
   have ka0:=fun o=>((Ext.refl w15).alloc o).cell ceb0;have kb0:=fun o o'=>(((Ext.refl w15).alloc o).alloc o').cell ceb0;have ka1:=fun o=>((Ext.refl w15).alloc o).cell ceb1;have kb1:=fun o o'=>(((Ext.refl w15).alloc o).alloc o').cell ceb1;have ka2:=fun o=>((Ext.refl w15).alloc o).cell ceb2;have kb2:=fun o o'=>(((Ext.refl w15).alloc o).alloc o').cell ceb2;have ka3:=fun o=>((Ext.refl w15).alloc o).cell ceb3
   have kb3:=fun o o'=>(((Ext.refl w15).alloc o).alloc o').cell ceb3;have ka4:=fun o=>((Ext.refl w15).alloc o).cell ceb4;have kb4:=fun o o'=>(((Ext.refl w15).alloc o).alloc o').cell ceb4;have ka5:=fun o=>((Ext.refl w15).alloc o).cell ceb5;have kb5:=fun o o'=>(((Ext.refl w15).alloc o).alloc o').cell ceb5;have ka6:=fun o=>((Ext.refl w15).alloc o).cell ceb6;have kb6:=fun o o'=>(((Ext.refl w15).alloc o).alloc o').cell ceb6
   have ka7:=fun o=>((Ext.refl w15).alloc o).cell ceb7;have kb7:=fun o o'=>(((Ext.refl w15).alloc o).alloc o').cell ceb7
   go_region
   ·obtain⟨Wa,eWa,e4,ya⟩:=AU.made w15 28 #[.bool b1,.slice B1 m1 k1,.bool b2,.slice B2 m2 k2] (by simp[Aj])
    obtain⟨Wb,eWb,e5,yb⟩:=AU.made Wa 28 #[.bool b3,.slice B3 m3 k3,.bool b4,.slice B4 m4 k4] (by simp[Aj]);have hsa:Wa.heap.size=w15.heap.size+1:=by rw[eWa,World.size_alloc]
    rw[←eWa,←eWb];rw[hsa]at e5;refine hM' _ _ (Met.intro (hJ _ _ ?_))
    (repeat apply Exists.intro)
    refine⟨?rel,rfl⟩
    case rel=>exact⟨w15.heap.size,w15.heap.size+1,rfl,rfl,e4.ext yb.drew,e5.ext (Ext.refl _).drew,Aa,Aa,Aa,(ya.trans yb).drew⟩
   ·obtain⟨Wa,eWa,e5,ya⟩:=AU.made w15 28 #[.bool b3,.slice B3 m3 k3,.bool b4,.slice B4 m4 k4] (by simp[Aj])
    obtain⟨Wb,eWb,e4,yb⟩:=AU.made Wa 28 #[.bool b1,.slice B1 m1 k1,.bool b2,.slice B2 m2 k2] (by simp[Aj]);have hsa:Wa.heap.size=w15.heap.size+1:=by rw[eWa,World.size_alloc]
    rw[←eWa,←eWb];rw[hsa]at e4;refine hM' _ _ (Met.intro (hJ _ _ ?_))
    (repeat apply Exists.intro)
    refine⟨?rel,rfl⟩
    case rel=>exact⟨w15.heap.size+1,w15.heap.size,rfl,rfl,e4.ext (Ext.refl _).drew,e5.ext yb.drew,Aa,Aa,Aa,(ya.trans yb).drew⟩
  case rest =>
   clear ceb0 ceb1 ceb2 ceb3 ceb4 ceb5 ceb6 ceb7 feb eb;obtain⟨g4,g5,rfl,rfl,e4,e5,h45,hg4,hg5,hx18⟩:=hcut;replace h0r:=h0r.trans hx18;clear hx18;have ej:=HB.out.2.1.ext h0r;obtain⟨cej0,cej1,cej2,cej3,cej4,cej5,cej6,cej7⟩:=ej.cells8;have fej:=ej.frozen;obtain⟨ce40,ce41,ce42,ce43⟩:=e4.cells4;have fe4:=e4.frozen
   go_wp2_with fail
   refine AO (Kq _ _ Q.1 P.1 _ (HI.out.2.2.1.ext h0r) (HI.out.1.ext h0r) (by have:=HS.out;omega)) ?_;rintro r19 w19 rfl hx19;clear cej0 cej1 cej2 cej3 cej4 cej5 cej6 cej7 fej ce40 ce41 ce42 ce43 fe4;replace ej:=ej.ext hx19;replace e4:=e4.ext hx19;replace e5:=e5.ext hx19;replace h0r:=h0r.trans hx19;clear hx19
   go_upto_if 68 with(fail)
   go_cut [] (fun wx=>aJ wx g4 28 (Ux P.1 Q.1)∧AU wx g5 28 #[.bool b3,.slice B3 m3 k3,.bool b4,.slice B4 m4 k4]∧Ext wr wx)
   case first =>
    by_cases hs3:P.1 < Q.1
    ·have hsg3:=M7.2 hs3
     have HM:=Ad (show Ux P.1 Q.1=Q.1 by unfold Ux;rw[if_pos hs3]);clear hs3;generalize FM (Q.1 - P.1)=sg3 at *;obtain⟨cej0,cej1,cej2,cej3,cej4,cej5,cej6,cej7⟩:=ej.cells8;have fej:=ej.frozen;obtain⟨ce40,ce41,ce42,ce43⟩:=e4.cells4;have fe4:=e4.frozen;go_wp2;obtain⟨W20,eW,e4',U⟩:=e4.put4 (.bool d1) (.slice D1 n1 l1) (.bool d2) (.slice D2 n2 l2) rfl rfl rfl rfl;rw[←eW];clear eW e4;replace e5:=e5.upd U Af
     replace h0r:=U.from_ h0r Af;have e4:=e4';clear U e4'
     go_meet
     case rel=>exact⟨⟨_,_,_,_,_,_,_,_,e4,by rw[HM.out];exact HI.out.2.2.1.ext h0r⟩,e5,h0r⟩
    ·have hsg3:¬ FM (Q.1 - P.1) > 0:=fun h=>hs3 (M7.1 h)
     have HM:=Ad (show Ux P.1 Q.1=P.1 by unfold Ux;rw[if_neg hs3]);clear hs3;generalize FM (Q.1 - P.1)=sg3 at *;go_wp2
     go_meet
     case rel=>exact⟨⟨_,_,_,_,_,_,_,_,e4,by rw[HM.out];exact HI.out.1.ext h0r⟩,e5,h0r⟩
   case rest =>
    clear ej e4 e5 h0r;obtain⟨⟨f1,F1,o1,q1,f2,F2,o2,q2,e4,i5⟩,e5,h0r⟩:=hcut;have H5:=Ad (Au i5 (Ext.refl wc));clear i5;have ej:=HB.out.2.1.ext h0r;obtain⟨cej0,cej1,cej2,cej3,cej4,cej5,cej6,cej7⟩:=ej.cells8;have fej:=ej.frozen;obtain⟨ce50,ce51,ce52,ce53⟩:=e5.cells4;have fe5:=e5.frozen
    go_wp2_with fail
    refine AO (Kq _ _ Q.2 P.2 _ (HI.out.2.2.2.ext h0r) (HI.out.2.1.ext h0r) (by have:=HS.out;omega)) ?_;rintro r21 w21 rfl hx21;have H6:=Ad (H5.out.1.ext hx21);clear H5;clear cej0 cej1 cej2 cej3 cej4 cej5 cej6 cej7 fej ce50 ce51 ce52 ce53 fe5;replace ej:=ej.ext hx21;replace e4:=e4.ext hx21;replace e5:=e5.ext hx21;replace h0r:=h0r.trans hx21;clear hx21
    go_upto_if 75 with(fail)
    go_cut [] (fun wx=>AU wx g4 28 #[.bool f1,.slice F1 o1 q1,.bool f2,.slice F2 o2 q2]∧BG wx (.agg #[.bool f1,.slice F1 o1 q1,.bool f2,.slice F2 o2 q2]) (Ux P.1 Q.1)∧aJ wx g5 28 (VW P.2 Q.2)∧Ext wr wx)
    case first =>
     by_cases hs3:Q.2 < P.2
     ·have hsg3:=Me.2 hs3
      have HM:=Ad (show VW P.2 Q.2=Q.2 by unfold VW;rw[if_pos hs3]);clear hs3;generalize FM (Q.2 - P.2)=sg3 at *;have H7:=H6.out;obtain⟨cej0,cej1,cej2,cej3,cej4,cej5,cej6,cej7⟩:=ej.cells8;have fej:=ej.frozen;obtain⟨ce50,ce51,ce52,ce53⟩:=e5.cells4;have fe5:=e5.frozen;go_wp2;obtain⟨W22,eW,e5',U⟩:=e5.put4 (.bool d3) (.slice D3 n3 l3) (.bool d4) (.slice D4 n4 l4) rfl rfl rfl rfl;rw[←eW];clear eW e5;replace H7:=H7.kd U.kd
      replace e4:=e4.upd U Af;replace h0r:=U.from_ h0r Af;have e5:=e5';clear U e5'
      go_meet
      case rel=>exact⟨e4,H7,⟨_,_,_,_,_,_,_,_,e5,by rw[HM.out];exact HI.out.2.2.2.ext h0r⟩,h0r⟩
     ·have hsg3:¬ FM (Q.2 - P.2) < 0:=fun h=>hs3 (Me.1 h)
      have HM:=Ad (show VW P.2 Q.2=P.2 by unfold VW;rw[if_neg hs3]);clear hs3;generalize FM (Q.2 - P.2)=sg3 at *;go_wp2
      go_meet
      case rel=>exact⟨e4,H6.out,⟨_,_,_,_,_,_,_,_,e5,by rw[HM.out];exact HI.out.2.1.ext h0r⟩,h0r⟩
    case rest =>
     clear ej e4 e5 h0r H6;obtain⟨e4,i5,⟨s1,S1,t1,v1,s2,S2,t2,v2,e5,i6⟩,h0r⟩:=hcut;have zz:qsz (Ux P.1 Q.1)≤3*t+k+4∧qsz (VW P.2 Q.2)≤3*t+k+4:=by
      have:=HS.out;unfold Ux VW;exact⟨by split<;>omega,by split<;>omega⟩
     have ek:=HB.out.2.2.2.2.ext h0r;have hin:=UG _ _ _ C (Ux P.1 Q.1) (VW P.2 Q.2) D3' M3 _ _ _ H3.out.2 hD3 zz.1 zz.2 Aa (HC.out.2.2.ext h0r) i5 i6;have HIN:=Ad hin;clear hin zz i5 i6;obtain⟨ce40,ce41,ce42,ce43⟩:=e4.cells4;have fe4:=e4.frozen;obtain⟨ce50,ce51,ce52,ce53⟩:=e5.cells4;have fe5:=e5.frozen;have cek0:=ek.cells1
     go_wp2_with fail
     refine AO HIN.out ?_;rintro r23 w23 rfl hx23;clear ce40 ce41 ce42 ce43 fe4 ce50 ce51 ce52 ce53 fe5 cek0 ek e4 e5 HIN;replace h0r:=h0r.trans hx23;clear hx23;by_cases hs3:rc (AZ C) (Ux P.1 Q.1) (VW P.2 Q.2)=1
     ·rw[hs3]
      have HS3:=Ad hs3;clear hs3;have hx:=hx.trans h0r;go_wp2;refine bodyPost_ret (v := .tuple #[.int .i64 (0),.int .i64 0]) (by simp[results,Tryz.results43,go_sem]) rfl ?_;exact Ah.mk ⟨0,0,rfl,fun e=>absurd rfl e,fun _=>⟨k,by rw[←HCe.out];exact by rw[←HE3.out.1,←HE3.out.2];exact .inr (.inr ⟨HS1.out,HS2.out,HS3.out,rfl⟩),fun j hj s'=>by rw[←HCe.out];exact HN.out j hj s'⟩,HE0.out⟩ hx
     have hkK:k < K:=by
      rcases Nat.lt_or_ge k K with h | h
      ·exact h
      ·obtain rfl:k=K:=by omega
       have:=HKK.out.1;rw[←HE3.out.1,←HE3.out.2]at this;rcases this with⟨h,_⟩ | ⟨_,h,_⟩ | ⟨_,_,h,_⟩
       ·exact absurd h HS1.out
       ·exact absurd h HS2.out
       ·exact absurd h hs3
     obtain⟨N,hN⟩:∃ N,N=rc (AZ C) (Ux P.1 Q.1) (VW P.2 Q.2):=⟨_,rfl⟩
     rw[←hN]at hs3 ⊢;have hbN:(N==1)=false:=beq_eq_false_iff_ne.2 hs3;clear hN hs3;have eb:=HB.out.1.ext h0r;have ej:=HB.out.2.1.ext h0r;have ec:=HB.out.2.2.1.ext h0r;have ed:=HB.out.2.2.2.1.ext h0r;have ek:=HB.out.2.2.2.2.ext h0r;have hI:=HI.out;rw[HE3.out.1,HE3.out.2]at hI;have HI2:=Ad hI;clear hI;obtain⟨P2,hP2⟩:∃ P,P=CK (rc (AZ (cz l))) p q (k+1):=⟨_,rfl⟩
     obtain⟨Q2,hQ2⟩:∃ P,P=CK (rc (AZ (cz m))) p' q' (k+1):=⟨_,rfl⟩
     have hA:∀ X,Ext w23 X→Bi 81 #[.agg #[.slice cA cn cc],.agg #[.bool b1,.slice B1 m1 k1,.bool b2,.slice B2 m2 k2,.bool b3,.slice B3 m3 k3,.bool b4,.slice B4 m4 k4]] X (fun r w'=>ZO w' r P2):=fun X x=>by
      rw[hP2];refine Ah.imp ?_ fun _ _ h=>⟨h⟩
      exact Jc _ _ (cz l) p q D1' M1 t k _ X H1.out hD1 HP.out.1 HP.out.2.1 Aa (HC.out.1.ext (h0r.trans x)) ⟨_,_,_,_,_,_,_,_,_,_,_,_,_,_,_,_,rfl,HI2.out.1.ext (h0r.trans x),HI2.out.2.1.ext (h0r.trans x)⟩
     have hB:∀ X,Ext w23 X→Bi 81 #[.agg #[.slice fA fn fc],.agg #[.bool d1,.slice D1 n1 l1,.bool d2,.slice D2 n2 l2,.bool d3,.slice D3 n3 l3,.bool d4,.slice D4 n4 l4]] X (fun r w'=>JS w' r Q2.1 Q2.2):=fun X x=>by
      rw[hQ2];exact Jc _ _ (cz m) p' q' D2' M2 t k _ X H2.out hD2 HP.out.2.2.1 HP.out.2.2.2 Aa (HC.out.2.1.ext (h0r.trans x)) ⟨_,_,_,_,_,_,_,_,_,_,_,_,_,_,_,_,rfl,HI2.out.2.2.1.ext (h0r.trans x),HI2.out.2.2.2.ext (h0r.trans x)⟩
     have HPQ2:=Ad (Au hP2 hQ2);clear hP2 hQ2;have HH2:=Ad (Au hA hB);clear hA hB;obtain⟨ceb0,ceb1,ceb2,ceb3,ceb4,ceb5,ceb6,ceb7⟩:=eb.cells8;have feb:=eb.frozen;obtain⟨cej0,cej1,cej2,cej3,cej4,cej5,cej6,cej7⟩:=ej.cells8;have fej:=ej.frozen;have cec0:=ec.cells1;have ced0:=ed.cells1
     go_upto_region 25 with(fail)
     refine Ai 5 [83,84,85,86,87] [[],[],[0,1],[],[],[0,1,2,3,4],[0,1,2,3,4,5],[0,1,2,3,4,5,6]] [11,5,12,7] [_,_,_,_] [(kv ?_),(kv ?_),(fun γ=>γ 2),(kv ?_),(kv ?_)] (fun γ w'=>[True,True,ZO w' (γ 2) P2,True,True]) BQ Av Av BS Av BU C9 ?hstep1 ?_
     case hstep1 =>
      iterate 5 refine⟨?_,?_⟩
      trivial
      iterate 2 focus
       intro γ w' he hf;clear hf;refine⟨by trivial,?_⟩;intro R hR;have hc:=he.cells;have cq0:=he.cell ceb0;have cq1:=he.cell ceb1;have cq2:=he.cell ceb2;have cq3:=he.cell ceb3;have cq4:=he.cell ceb4;have cq5:=he.cell ceb5;have cq6:=he.cell ceb6;have cq7:=he.cell ceb7;have cq8:=he.cell cej0;have cq9:=he.cell cej1;have cq10:=he.cell cej2;have cq11:=he.cell cej3;have cq12:=he.cell cej4;have cq13:=he.cell cej5
       have cq14:=he.cell cej6;have cq15:=he.cell cej7;have cq16:=he.cell cec0;have cq17:=he.cell ced0;go_simp;refine hR _ _ (Ext.refl _) ?_ trivial;rfl
      ·intro γ w' he hf;clear hf;refine⟨trivial,?_⟩;intro R hR
       have h9:=HH2.out.1 w' he;go_simp;refine AO h9 ?_;rintro v w2 hv hx;exact⟨v,rfl,hR v w2 hx rfl hv⟩
      iterate 2 focus
       intro γ w' he hf;clear hf;refine⟨by trivial,?_⟩;intro R hR;have hc:=he.cells;have cq0:=he.cell ceb0;have cq1:=he.cell ceb1;have cq2:=he.cell ceb2;have cq3:=he.cell ceb3;have cq4:=he.cell ceb4;have cq5:=he.cell ceb5;have cq6:=he.cell ceb6;have cq7:=he.cell ceb7;have cq8:=he.cell cej0;have cq9:=he.cell cej1;have cq10:=he.cell cej2;have cq11:=he.cell cej3;have cq12:=he.cell cej4;have cq13:=he.cell cej5
       have cq14:=he.cell cej6;have cq15:=he.cell cej7;have cq16:=he.cell cec0;have cq17:=he.cell ced0;go_simp;refine hR _ _ (Ext.refl _) ?_ trivial;rfl
     intro γ w25 hx25 hF;have p2:ZO w25 (γ 2) P2:=AJ.get hF 2 Ab;clear hF;simp only[Br,Nat.reduceAdd];generalize γ 2=g2 at *;clear γ;obtain⟨f1,F1,o1,q1,f2,F2,o2,q2,f3,F3,o3,q3,f4,F4,o4,q4,rfl,j1,j2⟩:=p2.out;have HJ:=Ad (Au j1 j2);clear j1 j2
     go_wp2_with fail
     refine AO (HH2.out.2 _ hx25) ?_;rintro r26 w26 ⟨s1,S1,t1,v1,s2,S2,t2,v2,s3,S3,t3,v3,s4,S4,t4,v4,rfl,j3,j4⟩ hx26;have j1:=HJ.out.1.ext hx26;have j2:=HJ.out.2.ext hx26;clear ceb0 ceb1 ceb2 ceb3 ceb4 ceb5 ceb6 ceb7 feb cej0 cej1 cej2 cej3 cej4 cej5 cej6 cej7 fej cec0 ced0 HJ;have hx256:=hx25.trans hx26;clear hx25 hx26;replace eb:=eb.ext hx256;replace ej:=ej.ext hx256;replace ec:=ec.ext hx256;replace ed:=ed.ext hx256
     replace ek:=ek.ext hx256;replace h0r:=h0r.trans hx256;clear hx256;have hc1:=HC.out.1.ext h0r;have hc2:=HC.out.2.1.ext h0r;have hc3:=HC.out.2.2.ext h0r;replace hx:=hx.trans h0r;clear h0r;obtain⟨ceb0,ceb1,ceb2,ceb3,ceb4,ceb5,ceb6,ceb7⟩:=eb.cells8;have feb:=eb.frozen;obtain⟨cej0,cej1,cej2,cej3,cej4,cej5,cej6,cej7⟩:=ej.cells8;have fej:=ej.frozen;go_wp2;obtain⟨W26,eW,eb',U⟩:=eb.put8 (.bool f1) (.slice F1 o1 q1) (.bool f2) (.slice F2 o2 q2) (.bool f3) (.slice F3 o3 q3) (.bool f4) (.slice F4 o4 q4) rfl rfl rfl rfl rfl rfl rfl rfl
     rw[←eW];clear eW eb;replace j1:=j1.kd U.kd;replace j2:=j2.kd U.kd;replace j3:=j3.kd U.kd;replace j4:=j4.kd U.kd;replace ej:=ej.upd U Af;replace ec:=ec.upd U Af;replace ed:=ed.upd U Af;replace ek:=ek.upd U Af;replace hc1:=hc1.upd U Af;replace hc2:=hc2.upd U Af;replace hc3:=hc3.upd U Af;replace hx:=U.from_ hx Af;have eb:=eb';clear U eb';obtain⟨W27,eW,ej',U⟩:=ej.put8 (.bool s1) (.slice S1 t1 v1) (.bool s2) (.slice S2 t2 v2) (.bool s3) (.slice S3 t3 v3) (.bool s4) (.slice S4 t4 v4) rfl rfl rfl rfl rfl rfl rfl rfl
     rw[←eW];clear eW ej;replace j1:=j1.kd U.kd;replace j2:=j2.kd U.kd;replace j3:=j3.kd U.kd;replace j4:=j4.kd U.kd;replace eb:=eb.upd U Af;replace ec:=ec.upd U Af;replace ed:=ed.upd U Af;replace ek:=ek.upd U Af;replace hc1:=hc1.upd U Af;replace hc2:=hc2.upd U Af;replace hc3:=hc3.upd U Af;replace hx:=U.from_ hx Af;have ej:=ej';clear U ej';clear ceb0 ceb1 ceb2 ceb3 ceb4 ceb5 ceb6 ceb7 feb cej0 cej1 cej2 cej3 cej4 cej5 cej6 cej7 fej
     have hbx:GI W27 w.heap.size 30 (CK (rc (AZ (cz l))) p q (k+1)).1 (CK (rc (AZ (cz l))) p q (k+1)).2:=by rw[←HPQ2.out.1];exact⟨_,_,_,_,_,_,_,_,_,_,_,_,_,_,_,_,eb,j1,j2⟩
     have hjx:GI W27 (w.heap.size+1) 30 (CK (rc (AZ (cz m))) p' q' (k+1)).1 (CK (rc (AZ (cz m))) p' q' (k+1)).2:=by rw[←HPQ2.out.2];exact⟨_,_,_,_,_,_,_,_,_,_,_,_,_,_,_,_,ej,j3,j4⟩
     have HPN2:=Ad (KY HO.out.1 hbx)
     go_roundw
     case rel=>exact⟨k+1,Aa,hbx,hjx,ec,ed,ek,hc1,hc2,hc3,hx⟩
     case measure=>rw[HPN.out,HPN2.out];omega
end Go.Proofs.YtmhgnigpmompmaaGreat
namespace Go.Hp
theorem Sc:pl (cz [-1,2])=2:=JP (Cw [-1,2]) (fun _=>by decide +kernel)
theorem YB:cz [-1,2]≠pz:=fun e=>by have:=Sc;rw[e,C8]at this;omega
theorem FZ:Fg (cz [-1,2]):=by
 refine⟨ZI.cz _,Ae.cz _,YB,by rw[Sc];decide,fun i=>?_⟩
 match i with
 | 0=>decide +kernel
 | 1=>decide +kernel
 | i+2=>rw[Gs Ac];decide
theorem YI(x:Rat):ev (cz [-1,2]) x = -1+x*2:=by
 rw[Es (Cw [-1,2]) x];show cz [-1,2] 0+x*(cz [-1,2] 1+x*0)=_;have h0:cz [-1,2] 0 = -1:=by decide +kernel
 have h1:cz [-1,2] 1=2:=by decide +kernel
 rw[h0,h1];grind
theorem aQ:ld (cz [-1,2])=2:=by unfold ld;rw[Sc];decide +kernel
theorem Yy:SF (cz [-1,2]):=by
 refine⟨⟨ZI.cz _,Ae.cz _,YB,by rw[aQ];decide,?_⟩,?_⟩
 ·have h1:cn (cz [-1,2])∣1:=by
   have h2:=GH (F:=cz [-1,2]) (Ae.cz _) 0;have h3:(cz [-1,2] 0).num = -1:=by decide +kernel
   rw[h3]at h2;exact Int.natCast_dvd_natCast.1 (Int.dvd_neg.1 h2)
  exact Nat.dvd_one.1 h1
 ·have e':pd (cz [-1,2])=cs 2 pz:=funext fun i=>by
   match i with
   | 0=>decide +kernel
   | i+1 =>
    show((i+1+1:Nat):Rat)*cz [-1,2] (i+2)=pz i;rw[Gs Ac,Rat.mul_zero];rfl
  have f':cz [-1,2]=cs (-1) (cs 2 pz):=funext fun i=>by
   match i with
   | 0=>decide +kernel
   | 1=>decide +kernel
   | i+2=>rw[Gs Ac];rfl
  refine⟨pz,cs (1 / 2) pz,Ae.pz,Ae.pz.cs _,?_⟩;rw[e',f'];simp only[Jo,Ct]
  funext i
  match i with
  | 0=>simp only[pad,psc,cs,pz,pone];grind
  | 1=>simp only[pad,psc,cs,pz,pone];grind
  | i+2=>simp only[pad,psc,cs,pz,pone];grind
theorem aU:rc (AZ (cz [-1,2])) 0 1=1:=by
 rw[Sd Yy];have hs:=Yy;have e0:ev (cz [-1,2]) 0 = -1:=by rw[YI];decide +kernel
 have e1:ev (cz [-1,2]) 1=1:=by rw[YI];decide +kernel
 have h1:1≤rc (cz [-1,2]) 0 1:=hs.st.change_counts (by decide +kernel) (by rw[e0];decide +kernel) (by rw[e0,e1];decide +kernel);have h5:rc (cz [-1,2]) 0 1≤1:=by
  rw[←FI hs.st.k];unfold rts;have h6:V (EL (cz [-1,2]) (pd (cz [-1,2])) (kn (cz [-1,2]))) 0≤kn (cz [-1,2]) - 1:=by
   have:=KZ ((EL (cz [-1,2]) (pd (cz [-1,2])) (kn (cz [-1,2]))).map fun F=>Bl (ev F 0));rw[List.length_map,Dw]at this;exact this
  obtain⟨S,hS⟩:=Cz hs.p.f;obtain⟨T,hT⟩:=Cz (BJ hs.p.f);obtain⟨K,q1,q2⟩:=F6 hs.p.f (BJ hs.p.f) hs.p.z (Ee hs.p.z) (S:=max S T) (fun i=>Nat.le_trans (hS i) (Nat.le_max_left _ _)) (fun i=>Nat.le_trans (hT i) (Nat.le_max_right _ _));rw[Kv hs.p.f,Sc]at q2;rw[q1.kn]at h6 ⊢;omega
 omega
end Go.Hp
namespace Go.Proofs.YtmhgnigpmompmaaGreat
open Go.RowKit Go.Hp
set_option maxRecDepth 20000 in
theorem P8(v0:Value)(l0:List J5)(w:World)(h0:DI w v0 l0)(hB:QS l0) :
  Bi 11 #[v0] w (fun r _=>r = .bool true):=by
 have H0:=Ad h0;have PB:=Ad (h0.has hB.2).1;have hlB:(l0.map Xy).length≤1048576:=by simpa using hB.1
 obtain⟨A0,c0,rfl,k1,k2⟩:=h0.len;clear h0 hB;have hll0:(l0.map Xy).length=l0.length:=by simp
 obtain⟨m0,hm0⟩:∃ m0,m0=l0.map Xy:=⟨_,rfl⟩
 rw[←hm0]at PB hlB hll0;rw[←hll0]at k1 PB ⊢;clear hm0 hll0 H0;have hp0:=BR (Cw m0);clear hp0
 go_enter Tryz.func11,Tryz.ntmps11
 go_wp2_with fail
 refine AO (Wz _) ?_;rintro r w1 rfl hx;by_cases h300:m0.length < 300
 case neg =>
  have h3:¬ ((m0.length:Nat):Int) < 300:=by omega
  go_wp2
  go_ret
  exact Ah.mk rfl hx
 have h3:((m0.length:Nat):Int) < 300:=by omega
 go_wp2_with fail
 refine AO (V8 _ m0 _ (PB.out.ext hx) Aa) ?_;rintro r2 w2 rfl hx2;replace hx:=hx.trans hx2;clear hx2;obtain⟨E,hE⟩:∃ E,E=Bf (cz m0):=⟨_,rfl⟩
 rw[←hE];have HE:=Ad hE;clear hE;by_cases hE0:E=0
 ·subst hE0
  go_wp2
  go_ret
  exact Ah.mk rfl hx
 have hbE:(E==0)=false:=beq_eq_false_iff_ne.2 hE0;have HN:=Ad (show Bf (cz m0)≠0 from by rw[←HE.out];exact hE0);clear hE0;clear h3;have K1:=Ad (show ∀ x∈([-1,2]:List Int),sz x.natAbs≤1 by decide +kernel)
 go_wp2_with fail
 refine AO (O7 0 1 _ Aa Aa) ?_;rintro r3 w3 hr3 hx3;obtain⟨b1,B1,m1,k1,b2,B2,m2,k2,b3,B3,m3,k3,b4,B4,m4,k4,rfl,i1,i2⟩:=show JS w3 r3 0 1 from hr3.has (by decide +kernel) (by decide +kernel);clear hr3;replace hx:=hx.trans hx3;clear hx3;obtain⟨W4,eW4,eb,y4⟩:=AU.made w3 30 #[.bool b1,.slice B1 m1 k1,.bool b2,.slice B2 m2 k2,.bool b3,.slice B3 m3 k3,.bool b4,.slice B4 m4 k4] (by simp[Aj]);have HI:=Ad (Au (i1.ext y4) (i2.ext y4));clear i1 i2
 replace hx:=hx.trans y4;clear y4
 go_upto_region 9 with(fail)
 rw[←eW4];clear eW4;generalize w3.heap.size=gi at *
 go_wp2_with fail
 refine AO (aM _ [-1,2] _ (PP.new W4 _ [-1,2] Ab) Ab Ab) ?_;rintro r5 w5 h1 hx5;have hh1:=h1.has (fun x hx=>by have:=K1.out x hx;omega);obtain⟨A5,c5,rfl⟩:=hh1.len;have hx5:=hx5.a1;have H1:=Ad (Au hh1 (Au (HI.out.1.ext hx5) (HI.out.2.ext hx5)));clear h1 hh1 HI;replace eb:=eb.ext hx5;replace hx:=hx.trans hx5;clear hx5;have h0r:=Ext.refl w5;have hiv:∀ X,Ext w5 X→JS X (.agg #[.bool b1,.slice B1 m1 k1,.bool b2,.slice B2 m2 k2,.bool b3,.slice B3 m3 k3,.bool b4,.slice B4 m4 k4]) 0 1:=fun X x=>⟨_,_,_,_,_,_,_,_,_,_,_,_,_,_,_,_,rfl,H1.out.2.1.ext x,H1.out.2.2.ext x⟩
 have HV:=Ad hiv;clear hiv;have HX:=Ad hx;clear hx;have q0:qsz (0:Rat)≤10:=by decide +kernel
 have q1:qsz (1:Rat)≤10:=by decide +kernel
 have HQ:=Ad (Au q0 q1);clear q0 q1
 go_wp2_with fail
 refine AO (VU _ m0 0 0 0 _ (PB.out.ext (HX.out.trans h0r)) Aa (fun e=>absurd e HN.out)) ?_;rintro r6 w6 ⟨z6,us6,e6,-,hc6⟩ hx6;rw[hc6 HN.out,←HE.out]at e6;subst e6;clear hc6;replace eb:=eb.ext hx6;replace h0r:=h0r.trans hx6;clear hx6;obtain⟨ceb0,ceb1,ceb2,ceb3,ceb4,ceb5,ceb6,ceb7⟩:=eb.cells8;have feb:=eb.frozen
 go_wp2_with fail
 refine AO (Q4 _ _ m0 0 1 0 0 10 _ (PB.out.ext (HX.out.trans h0r)) (HV.out _ h0r) Aa (fun e=>absurd e HN.out) HQ.out.1 HQ.out.2 Aa) ?_;rintro r7 w7 e7 hx7;unfold GZ at e7;rw[if_neg (fun h=>HN.out h.1),if_neg HN.out,←HE.out]at e7;subst e7;clear ceb0 ceb1 ceb2 ceb3 ceb4 ceb5 ceb6 ceb7 feb;replace eb:=eb.ext hx7;replace h0r:=h0r.trans hx7;clear hx7
 go_wp2_with fail
 refine AO (VX _ m0 0 0 _ (PB.out.ext (HX.out.trans h0r)) Aa (fun e=>absurd e HN.out)) ?_;rintro r8 w8 e8 hx8;unfold TQ at e8;rw[if_neg HN.out,←HE.out]at e8;subst e8;replace eb:=eb.ext hx8;replace h0r:=h0r.trans hx8;clear hx8
 go_wp2_with fail
 refine AO (V3 _ m0 0 0 _ (PB.out.ext (HX.out.trans h0r)) Aa (fun e=>absurd e HN.out)) ?_;rintro r9 w9 ⟨z9,e9,-,hc9⟩ hx9;rw[hc9 HN.out,←HE.out]at e9;subst e9;clear hc9;replace eb:=eb.ext hx9;replace h0r:=h0r.trans hx9;clear hx9;obtain⟨W10,eW10,ez,y10⟩:=AU.made w9 26 #[.bool false,.slice none 0 0] (by simp[Aj]);replace eb:=eb.ext y10;replace h0r:=h0r.trans y10;clear y10
 go_upto_region 14 with(fail)
 rw[←eW10];clear eW10;generalize w9.heap.size=gz at *
 go_wp2_with fail
 refine AO (L8 _ m0 0 0 0 _ (PB.out.ext (HX.out.trans h0r)) Aa (fun e=>absurd e HN.out) (fun e=>absurd e HN.out) Aa Aa) ?_;rintro r11 w11 ⟨z11,e11,-,hc11⟩ hx11;rw[hc11 HN.out,←HE.out]at e11;subst e11;clear hc11;replace eb:=eb.ext hx11;replace ez:=ez.ext hx11;replace h0r:=h0r.trans hx11;clear hx11;obtain⟨ceb0,ceb1,ceb2,ceb3,ceb4,ceb5,ceb6,ceb7⟩:=eb.cells8;have feb:=eb.frozen
 go_wp2_with fail
 refine AO (TE _ _ m0 0 1 0 0 0 10 _ (PB.out.ext (HX.out.trans h0r)) (HV.out _ h0r) Aa (fun e=>absurd e HN.out) Aa HQ.out.1 HQ.out.2 Aa) ?_;rintro r12 w12 ⟨z12,E12,e12,-,hc12,hE12⟩ hx12;rw[if_pos HN.out,←HE.out]at hE12;subst hE12;rw[hc12 (by rw[HE.out];exact HN.out)]at e12;subst e12;clear hc12 ceb0 ceb1 ceb2 ceb3 ceb4 ceb5 ceb6 ceb7 feb;replace eb:=eb.ext hx12;replace ez:=ez.ext hx12;replace h0r:=h0r.trans hx12
 clear hx12;obtain⟨W13,eW13,er,y13⟩:=AU.made w12 30 #[.bool false,.slice none 0 0,.bool false,.slice none 0 0,.bool false,.slice none 0 0,.bool false,.slice none 0 0] (by simp[Aj]);replace eb:=eb.ext y13;replace ez:=ez.ext y13;replace h0r:=h0r.trans y13;clear y13
 go_upto_region 16 with(fail)
 rw[←eW13];clear eW13;generalize w12.heap.size=gr at *;obtain⟨ceb0,ceb1,ceb2,ceb3,ceb4,ceb5,ceb6,ceb7⟩:=eb.cells8;have feb:=eb.frozen
 go_wp2_with fail
 refine AO (TP _ _ _ [-1,2] m0 0 1 10 _ (H1.out.1.ext h0r) (PB.out.ext (HX.out.trans h0r)) (HV.out _ h0r) Ab Aa (fun e=>absurd e HN.out) (fun _=>⟨_,_,FZ.pg,by have:=FZ.chn.2;omega⟩) (fun e=>absurd e HN.out) (fun e=>absurd e HN.out) (fun e=>absurd e HN.out) HQ.out.1 HQ.out.2 Aa) ?_;rintro r14 w14 ⟨s14,E14,e14,hs14,-,hE14⟩ hx14;rw[if_pos HN.out,←HE.out]at hE14;subst hE14;obtain rfl:=hs14 (by rw[HE.out];exact HN.out)
 subst e14;clear hs14 ceb0 ceb1 ceb2 ceb3 ceb4 ceb5 ceb6 ceb7 feb;replace eb:=eb.ext hx14;replace ez:=ez.ext hx14;replace h0r:=h0r.trans hx14;clear hx14;obtain⟨ceb0,ceb1,ceb2,ceb3,ceb4,ceb5,ceb6,ceb7⟩:=eb.cells8;have feb:=eb.frozen
 go_wp2_with fail
 refine AO (Lx _ _ _ _ m0 [-1,2] 0 1 0 1 10 _ (PB.out.ext (HX.out.trans h0r)) (HV.out _ h0r) (H1.out.1.ext h0r) (HV.out _ h0r) Aa Ab (fun e=>absurd e HN.out) (fun _=>⟨_,_,FZ.pg,by have:=FZ.chn.2;omega⟩) (fun e=>absurd e HN.out) (fun e=>absurd e HN.out) (fun e=>absurd e HN.out) HQ.out.1 HQ.out.2 HQ.out.1 HQ.out.2 Aa) ?_;rintro r15 w15 ⟨s15,E15,e15,hs15,-,hE15⟩ hx15;rw[if_pos HN.out,←HE.out]at hE15;subst hE15
 obtain rfl:=hs15 (by rw[HE.out];exact HN.out);subst e15;clear hs15 ceb0 ceb1 ceb2 ceb3 ceb4 ceb5 ceb6 ceb7 feb;replace eb:=eb.ext hx15;replace ez:=ez.ext hx15;replace h0r:=h0r.trans hx15;clear hx15;obtain⟨ceb0,ceb1,ceb2,ceb3,ceb4,ceb5,ceb6,ceb7⟩:=eb.cells8;have feb:=eb.frozen
 go_wp2_with fail
 refine AO (Lx _ _ _ _ [-1,2] m0 0 1 0 1 10 _ (H1.out.1.ext h0r) (HV.out _ h0r) (PB.out.ext (HX.out.trans h0r)) (HV.out _ h0r) Ab Aa (fun _=>⟨_,_,FZ.pg,by have:=FZ.chn.2;omega⟩) (fun e=>absurd e HN.out) (fun _ e=>absurd e HN.out) (fun _ e=>absurd e HN.out) (fun _ e=>absurd e HN.out) HQ.out.1 HQ.out.2 HQ.out.1 HQ.out.2 Aa) ?_;rintro r16 w16 ⟨s16,E16,e16,hs16,-,hE16⟩ hx16;have h01:(0:Rat) < 1∧rc (AZ (cz [-1,2])) 0 1=1:=⟨by decide +kernel,aU⟩
 rw[FZ.err,if_neg (fun h=>h rfl),if_neg (fun h=>h h01),if_pos HN.out,←HE.out]at hE16;subst hE16;obtain rfl:=hs16 (by rw[HE.out];exact HN.out);subst e16;clear hs16 ceb0 ceb1 ceb2 ceb3 ceb4 ceb5 ceb6 ceb7 feb h01;replace eb:=eb.ext hx16;replace ez:=ez.ext hx16;replace h0r:=h0r.trans hx16;clear hx16;obtain⟨cez0,cez1⟩:=ez.cells2;have fez:=ez.frozen
 go_wp2_with fail
 refine AO (Vz _ 0 _ (Bp.zero _)) ?_;rintro r17 w17 rfl hx17;have hx18:=(HX.out.trans h0r).trans hx17;go_wp2
 go_ret
 exact Ah.mk rfl hx18
open Go.ChangeShapes Go.WideShapes Go.ChangeAt
open Go.ChangeMaps (open_string shut_string)
theorem own_:ownKnob Tryz.prog.godebug=none:=by kernel_rfl
theorem laidOut_:laidOutB Tryz.prog=true:=by kernel_rfl
set_option maxRecDepth 100000 in
theorem realrootsRefuses_lifted(os:Os)(started:os.Started)(H:Type)(enc:TypeId×Value→H)(F:Stop.Interp) :
  ReturnsInHanded {} Tryz.checked os 11 .any ((Rows.OpenSpec.upto Rows.realrootsRefusesSpec).pre6 enc Tryz.prog Tryz.f11 Rows.realrootsRefusesUptoRow.domain false) (((Rows.OpenSpec.upto Rows.realrootsRefusesSpec).at F).post enc Tryz.prog Tryz.f11 false true false false):=by
 refine returnsInHanded_of_cond (C:=Tryz.checked) (s:=Rows.OpenSpec.upto Rows.realrootsRefusesSpec) (k:=Rows.uptoSmall) rfl own_ started ES Tryz.func11
  (OpenSpec.witness (enc:=enc) (C:=Tryz.checked) (s:=Rows.OpenSpec.upto Rows.realrootsRefusesSpec) (k:=Rows.uptoSmall) rfl false ⟨#[],#[.slice none 0 0],[]⟩ 8 ES ES ES
   (x:=([.nil],[],[])) ES rfl ES) ?_
 intro W base args ds gs before hval hW _ hk _;have hW':=hW;obtain⟨p,q,hA0,hV,rfl,hfz,hnd⟩:=hW;have hA:DataW.TrodAll enc Tryz.prog W 0 (fun _=>true) true Tryz.f11.params.toList args.toList ds p:=hA0;rw[Tryz.params11]at hA hval;obtain⟨v0,d0,hargs,rfl,h0⟩:=trodAll_one hA;obtain rfl:args=#[v0]:=by cases args;simp_all
 obtain⟨rfl,rfl⟩:=trodVars_none hV;have lt0:∀ x∈p,x.block < W.heap.size:=by obtain⟨m,hm⟩:=h0;exact DataW.trod_lt m _ _ _ hm
 have hkk:=of_decide_eq_true hk;have hb0:Rows.uptoBulk d0≤1048576:=Nat.le_trans (JY (d:=d0) (l:=[d0] ++ []) Ac) hkk;obtain⟨l0,w0,b0⟩:∃ l,DI W v0 l∧QS l:=by
  obtain⟨m,hm⟩:=h0;have hs:=okWide_slice Tryz.underlying23 (hval 0 23 v0 rfl rfl);obtain⟨l,hl⟩:=Ry Tryz.underlying23 hm hs;exact⟨l,hl,Ug Tryz.underlying23 hm hs hl hb0⟩
 clear hA0 hkk hk;refine(P8 v0 l0 W w0 b0).mono fun e W' ⟨v,he,hv,bel⟩=>?_;subst he hv;exact⟨_,rfl,_,_,_,[],_,[],hW',trodAll_mk1 (shut_bool Tryz.underlying4 _),(trodAll_cons_mk (Below.trod laidOut_ ES (of_decide_eq_true ES) h0 bel lt0) trodAll_mk0),rfl,bel.frame _,fun h=>by cases h⟩
theorem realrootsRefuses_over:Rows.realrootsRefusesUptoRow.holds Tryz.pinned (Rows.OpenSpec.upto Rows.realrootsRefusesSpec):=
 OpenClaim.holds_of_cond 11 Tryz.f11 rfl rfl rfl rfl rfl rfl rfl ⟨rfl,rfl,rfl,rfl,rfl⟩ rfl rfl rfl rfl rfl ES Tryz.func11 ES
  (of_decide_eq_true ES) (by unfold Func.isWrapper;first | (rw[if_pos (by decide +kernel)];kernel_rfl) | (rw[if_neg (by decide +kernel)];exact⟨rfl,rfl⟩))
  (fun os started H enc _ F=>realrootsRefuses_lifted os started H enc F)
theorem realrootsRefuses_proved:Rows.RealrootsRefusesUptoSaid:=realrootsRefuses_over
end Go.Proofs.YtmhgnigpmompmaaGreat
