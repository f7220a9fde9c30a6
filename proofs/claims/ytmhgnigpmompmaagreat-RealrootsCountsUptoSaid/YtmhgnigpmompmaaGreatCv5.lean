/- Lemmas. -/
import Derived.Test.YtmhgnigpmompmaaGreatCv1
import Derived.Test.YtmhgnigpmompmaaGreatCv2
import Derived.Test.YtmhgnigpmompmaaGreatCv3
import Derived.Test.YtmhgnigpmompmaaGreatCv4
import Derived.Deep.RegionHeld3
set_option linter.unusedVariables false
set_option linter.unusedSimpArgs false
set_option maxHeartbeats 16000000
namespace Go.Proofs.YtmhgnigpmompmaaGreat
open Go.RowKit Go.Hp
set_option maxRecDepth 20000 in
theorem bH(v u:Value)(l m:List Int)(S M:Nat)(w:World)(hv:Dt 0 w v l)(hu:Dt 0 w u m)(hs:∀ i,qsz (cz l i)≤S)(ht:∀ i,qsz (cz m i)≤S)(hn:l.length≤549755813888)(hm:m.length≤549755813888)(hM:(S+1)*2^(pl (cz l)+pl (cz m))≤M)(hB:M+(pl (cz l)+pl (cz m)+1)*(M+1)+M≤549755813888) :
  Bh 42 #[v,u] w (fun r w'=>AP 0 w' r (GR (cz l) (cz m))):=by
 have HV:=Ad hv;have HU:=Ad hu;obtain⟨A0,c0,rfl⟩:=hv.len;obtain⟨A1,c1,rfl⟩:=hu.len;clear hv hu;have hc1:=Bq (BK l);have hc2:=Bq (BK m);have hSM:S+1≤M:=by
  have h:0 < 2^(pl (cz l)+pl (cz m)):=Nat.pow_pos Ab;have:=Nat.le_mul_of_pos_right (S+1) h;omega
 have hcn:sz (cn (cz l))≤S∧sz (cn (cz m))≤S:=⟨FV hs _,FV ht _⟩
 have hst:=Gs.start (Af.cz l) (Af.cz m) (ZI.cz l) (ZI.cz m) hs ht;have hP1:=fun W (x:Ext w W)=>Fp _ l W (HV.out.ext x) Aa;have hP2:=fun W (x:Ext w W)=>Fp _ m W (HU.out.ext x) Aa;have hC1:=JS _ l w HV.out Aa;have hC2:=fun W (x:Ext w W)=>JS _ m W (HU.out.ext x) Aa;have hz:=(show(∀ A,Gs (cz l) (cz m) (pl (cz l)+pl (cz m)) S A pz→psc ((Nat.gcd (cn (cz l)) (cn (cz m)):Nat):Rat) A=GR (cz l) (cz m))from
  fun A h=>(Tt (h.end_ (Af.cz l) (Af.cz m) (ZI.cz l) (ZI.cz m) rfl)).symm)
 have hpl:pl (cz l)+pl (cz m)≤1099511627776:=by omega
 obtain⟨F,hF⟩:∃ F,F=cz l:=⟨_,rfl⟩
 obtain⟨G,hG⟩:∃ G,G=cz m:=⟨_,rfl⟩
 rw[←hF]at hcn hC1;rw[←hG]at hcn;rw[←hF,←hG]at hM hB hst hz hpl ⊢;simp only[←hF]at hP1;simp only[←hG]at hP2 hC2;have HC:=Ad (Ak hC1 (Ak hC2 (Ak hP1 hP2)));have HX:=Ad (Ak hM (Ak hB (Ak hz (Ak hcn hSM))));have HSt:=Ad (Ak hst hpl);clear hs ht hn hm hM hB hc1 hc2 hSM hcn hst hP1 hP2 hC1 hC2 hz hF hG hpl HV HU
 go_enter Tryz.func42,Tryz.ntmps42
 go_wp2_with fail
 refine AL HC.out.1 ?_;rintro r1 w1 hr1 hx
 go_wp2_with fail
 refine AL (HC.out.2.1 w1 hx) ?_;rintro r2 w2 hr2 hx2;have H12:=Ad (Ak ((hr1.kd hx2.kd).has (by have h1:=HX.out.2.2.2.1.1;have h2:=HX.out.2.2.2.2;have h3:=HX.out.2.1;simp;omega)) (hr2.has (by have h1:=HX.out.2.2.2.1.2;have h2:=HX.out.2.2.2.2;have h3:=HX.out.2.1;simp;omega)));replace hx:=hx.trans hx2;clear hr1 hr2 hx2
 go_wp2_with fail
 refine AL (Ux _ _ (cn F:Nat) (cn G:Nat) _ H12.out.1 H12.out.2) ?_;rintro r3 w3 hr3 hx3;obtain⟨b5,A5,n5,c5,rfl⟩:=hr3.cells;obtain⟨cc,hcc⟩:∃ cc:Nat,cc=Nat.gcd (cn F) (cn G):=⟨_,rfl⟩
 replace hr3:AO w3 (.agg #[.bool b5,.slice A5 n5 c5]) (cc:Nat):=by rw[hcc];exact hr3
 obtain⟨W4,eW4,e4,x4⟩:=Bj.made w3 26 #[.bool b5,.slice A5 n5 c5] (by simp[Ag]);have ec:=Bg.mk e4 (hr3.kd x4.kd);replace hx:=(hx.trans hx3).trans x4;have HCC:=Ad hcc;clear hx3 x4 hr3 e4 H12 hcc
 go_wp2_with fail
 rw[←eW4];clear eW4;generalize w3.heap.size=gc at *;refine AL (HC.out.2.2.1 W4 hx) ?_;rintro r5 w5 hr5 hx5;have ec5:=ec.ext hx5;replace hx:=hx.trans hx5;have H5:=Ad (hr5.base_le (Nat.zero_le _));clear hr5 hx5
 go_wp2_with fail
 refine AL (HC.out.2.2.2 w5 hx) ?_;rintro r6 w6 hr6 hx6;replace ec5:=ec5.ext hx6;replace hx:=hx.trans hx6;have h5:=H5.out.ext hx6;have h6:=hr6.base_le (Nat.zero_le _);clear hr6 hx6 H5;go_wp2
 go_loopw [0,1] (fun fv gv wr=>∃ A B,AP 0 wr fv A∧AP 0 wr gv B∧Gs F G (pl F+pl G) S A B∧Bg wr gc 26 (cc:Nat)∧Ext w wr) (fun _ gv _=>NS gv)
 case atStart=>exact⟨_,_,h5,h6,HSt.out.1,ec5,hx⟩
 case round =>
  clear h5 h6 ec5 hx ec;obtain⟨A,B,hA,hB,hst,ec,hx⟩:=hrel;obtain⟨A2,c2,rfl,-⟩:=hA.shape;obtain⟨A3,c3,rfl,-⟩:=hB.shape;have HA:=Ad (Ak hA hB);clear hA hB;have HS:=Ad hst;clear hst;by_cases h0:0 < pl B
  ·have hbn:B≠pz:=fun e=>by rw[e,Ca]at h0;omega
   have hroom:=HS.out.room rfl;have hpl:=HS.out.deg;have HR:=Ad (show(∀ i,qsz (A i)≤M)∧(∀ i,qsz (B i)≤M)∧M+(pl A+1)*(M+1)+M≤549755813888∧B≠pz∧pl A≤1099511627776∧pl B≤1099511627776 from by
    refine⟨fun i=>Nat.le_trans (hroom.1 i) HX.out.1,fun i=>Nat.le_trans (hroom.2.1 i) HX.out.1,?_,hbn,by have:=HSt.out.2;omega,by have:=HSt.out.2;omega⟩;have h1:=HX.out.2.1;have h2:(pl A+1)*(M+1)≤(pl F+pl G+1)*(M+1):=Nat.mul_le_mul_right _ Aa;omega)
   have hst2:=HS.out.step hbn (R:=De A B (pl A+1 - pl B)) rfl;have HS2:=Ad (Ak hst2.1 (Ak hst2.2 hroom.2.2));clear hst2 hbn hroom hpl
   go_wp2_with fail
   refine Calls.mono (aW _ _ A B M _ HA.out.1 HA.out.2 HR.out.1 HR.out.2.1 HR.out.2.2.2.1 (by have h1:=HR.out.2.2.1;have:(pl A+1)*1≤(pl A+1)*(M+1):=Nat.mul_le_mul_left _ Aa;omega) (by
    have h1:=HX.out.2.1;have h2:=HS.out.deg;have:(pl F+pl G+1)*1≤(pl F+pl G+1)*(M+1):=Nat.mul_le_mul_left _ Aa;omega) HR.out.2.2.1) ?_
   rintro e w7 ⟨r7,rfl,⟨qv,rv,rfl,hq,hr⟩,hx7⟩;have hrr:=hr.base_le (b:=0) (Nat.zero_le _);have hB7:=HA.out.2.ext hx7;have ec7:=ec.ext hx7;replace hx:=hx.trans hx7;have H7:=Ad (Ak hrr hB7);clear hr hrr hB7 hq hx7 ec
   go_wp2_with fail
   refine Calls.mono (IJ _ _ _ H7.out.1 (fun i=>by
    have h1:=HS2.out.2.2 i;have h2:=HX.out.1;have h3:(S+1)*2^(pl F+pl G - (pl A+pl B)+(pl A+1 - pl B))≤(S+1)*2^(pl F+pl G)*2:=by
     have e1:(S+1)*2^(pl F+pl G)*2=(S+1)*2^(pl F+pl G+1):=by rw[Nat.pow_succ,Nat.mul_assoc]
     rw[e1];refine Nat.mul_le_mul_left _ (Nat.pow_le_pow_right Ab ?_);have:=HS.out.deg;omega
    have h4:=HX.out.2.1;omega) (by have:=OV HS.out.fA HS.out.fB HR.out.2.2.2.1;have:=HR.out.2.2.2.2.2;omega)) ?_
   rintro e w8 ⟨r8,rfl,hr8,hx8⟩;have hB8:=H7.out.2.ext hx8;have hp8:=hr8.base_le (b:=0) (Nat.zero_le _);have ec8:=ec7.ext hx8;replace hx:=hx.trans hx8;obtain⟨A4,c4,rfl,-⟩:=hr8.shape;have H8:=Ad (Ak hB8 hp8);clear hB8 hp8 hr8 hx8 ec7 H7;go_wp2
   go_roundw
   case rel=>exact⟨_,_,H8.out.1,H8.out.2,HS2.out.1,ec8,hx⟩
   case measure=>exact HS2.out.2.1
  ·have hbz:B=pz:=(BG HS.out.fB).1 Aa
   have hroom:=HS.out.room rfl;subst hbz;have hz:=HX.out.2.2.1 A HS.out;have HZ:=Ad (Ak hz (Ak hroom.1 (show pl A≤1099511627776 by have:=HS.out.deg;have:=HSt.out.2;omega)));have h0:pl pz=0:=Ca;rw[h0];clear hz hroom;obtain⟨b,Bv,bn,bc,e8,hb8⟩:=ec;have Hb:=Ad hb8;clear hb8;obtain⟨ce80,ce81⟩:=e8.cells2;have fe8:=e8.frozen
   go_wp2_with fail
   refine Calls.mono (VK _ _ A (cc:Nat) _ HA.out.1 (fun i=>by have h1:=HZ.out.2.1 i;have h2:=HX.out.1;have h3:=HX.out.2.1;omega) (Hb.out.has (by
    rw[HCC.out];have h1:=HX.out.2.2.2.1;have h2:sz (Nat.gcd (cn F) (cn G))≤S:=by
     by_cases e:cn F=0
     ·rw[e,Nat.gcd_zero_left];exact h1.2
     ·exact Nat.le_trans (Bp (Nat.gcd_le_left _ (Nat.pos_of_ne_zero e))) h1.1
    have h3:=HX.out.2.2.2.2;have h4:=HX.out.2.1;simp only[Int.natAbs_natCast];omega)) HZ.out.2.2) ?_
   rintro e w9 ⟨r9,rfl,hr9,hx9⟩;have h9:AP 0 w9 r9 (GR F G):=by
    rw[←HZ.out.1,←HCC.out];exact hr9
   have H9:=Ad h9;clear h9 hr9;go_wp2
   go_ret
   exact Ah.mk H9.out (hx.trans hx9)
theorem bK(v u:Value)(F G:Nat→Rat)(S M:Nat)(w:World)(hv:AP 0 w v F)(hu:AP 0 w u G)(hs:∀ i,qsz (F i)≤S)(ht:∀ i,qsz (G i)≤S)(hn:pl F≤549755813888)(hm:pl G≤549755813888)(hM:(S+1)*2^(pl F+pl G)≤M)(hB:M+(pl F+pl G+1)*(M+1)+M≤549755813888) :
  Bh 42 #[v,u] w (fun r w'=>AP 0 w' r (GR F G)):=by
 have hSM:S+1≤M:=by
  have h:0 < 2^(pl F+pl G):=Nat.pow_pos Ab;have:=Nat.le_mul_of_pos_right (S+1) h;omega
 obtain⟨l,h1,h2,-,rfl⟩:=hv.hz (fun i=>by have:=hs i;omega);obtain⟨m,k1,k2,-,rfl⟩:=hu.hz (fun i=>by have:=ht i;omega);exact bH v u l m S M w h1 k1 hs ht Aa Aa hM hB
end Go.Proofs.YtmhgnigpmompmaaGreat
namespace Go.Hp
open Go.RowKit
theorem ZP{g:Nat→Rat}{n s:Nat}(h:BP g)(hn:pl g≤n)(hn9:n≤16)(hs:∀ i,qsz (g i)≤s)(hs9:s≤5)(k:Nat) :
  (∀ i,qsz ((yw (y0 g) (yc g) k).1 i)≤36000)∧(∀ i,qsz ((yw (y0 g) (yc g) k).2 i)≤36000)∧pl (yw (y0 g) (yc g) k).1+pl (yw (y0 g) (yc g) k).2≤n+1:=by
 obtain⟨hC,hW,e,d1,-⟩:=EO h;obtain⟨p1,p2⟩:=PN hW hC k;obtain⟨e1,e2⟩:=Xn hW hC k;have dW:GZ g (y0 g):=⟨yc g,hC.z,hC.f,by rw[Bw];exact e⟩
 have l1:=Dv.le p1.f hW.f hW.n (KY e1);have l2:=Dv.le p2.f hC.f hC.n (KY e2);have l3:=GK hW.f hC.f hW.n hC.n;rw[←e]at l3;have:=hW.pos;exact⟨TF h.z h.f h.n p1.z p1.f (Jo dW e1) hn hn9 hs hs9,TF h.z h.f h.n p2.z p2.f (Jo d1 e2) hn hn9 hs hs9,Aa⟩
theorem ZA{g:Nat→Rat}{n s:Nat}(h:BP g)(hn:pl g≤n)(hn9:n≤16)(hs:∀ i,qsz (g i)≤s)(hs9:s≤5)(i:Nat):qsz (yc g i)≤36000:=(ZP h hn hn9 hs hs9 0).2.1 i
def jF(g:Nat→Rat)(K:Nat):Prop:=pl (yw (y0 g) (yc g) K).1≤1∧∀ j,j < K→1 < pl (yw (y0 g) (yc g) j).1
theorem jF.uniq{g:Nat→Rat}{K L:Nat}(h:jF g K)(k:jF g L):K=L:=by
 rcases Nat.lt_trichotomy K L with a | a | a
 ·have:=k.2 K a;have:=h.1;omega
 ·exact a
 ·have:=h.2 L a;have:=k.1;omega
end Go.Hp
namespace Go.Proofs.YtmhgnigpmompmaaGreat
open Go.RowKit Go.Hp
end Go.Proofs.YtmhgnigpmompmaaGreat
namespace Go.Hp
end Go.Hp
namespace Go.Proofs.YtmhgnigpmompmaaGreat
open Go.RowKit Go.Hp
end Go.Proofs.YtmhgnigpmompmaaGreat
namespace Go.Hp
open Go.RowKit
theorem Bj.put1{w:World}{g:Nat}{t:TypeId}{a:Value}(h:Bj w g t #[a])(u:Value)(hu:Ag u=false):∃ W,W=w.setCell ⟨g,0,none⟩ u∧Bj W g t #[u]∧Cs [g] w W:=
 ⟨_,rfl,h.set_ 0 hu,Cs.set_ h.nodig 0 u⟩
theorem Bj.cells1{w:World}{g:Nat}{t:TypeId}{a:Value}(h:Bj w g t #[a]):w.cell? ⟨g,0,none⟩=some a:=h.cell rfl
theorem AP.own{b:Nat}{A B:World}{row:Option Nat}{v:Value}{F:Nat→Rat}(h:AP b A v F)(hg:A.grownBy B row)(hr:∀ r,row=some r→∃ o:Obj,A.heap[r]? = some o∧o.isCells=false):AP b B v F:=by
 obtain⟨l,⟨A',c,h1,h2,h3,h4⟩,h5,rfl⟩:=h;refine⟨l,⟨A',c,h1,h2,h3,fun h0=>?_⟩,h5,rfl⟩;obtain⟨g,o,ha,hb,hc⟩:=h4 h0;refine⟨g,o,ha,hb,fun j hj=>?_⟩;obtain⟨cs,q1,q2,q3⟩:=hc j hj;refine⟨cs,q1,fun i hi=>?_,q3.kd (KD.own hg hr)⟩;have e:cs[i]? = some (cs[i]'(Aa)):=Array.getElem?_eq_getElem Aa;rw[e];exact cell_kept ((q2 i hi).trans e) hg hr
end Go.Hp
namespace Go.Proofs.YtmhgnigpmompmaaGreat
open Go.RowKit Go.Hp Go.Shelf
end Go.Proofs.YtmhgnigpmompmaaGreat
namespace Go.Hp
open Go.RowKit
structure Qe(F:Nat→Rat)(S n M T:Nat):Prop where
 z:ZI F
 f:Af F
 n0:F≠pz
 s:∀ i,qsz (F i)≤S
 d:∀ i,qsz (pd (pp F) i)≤S
 t:∀ i,qsz (yc (pp F) i)≤T
 p:pl F≤n
 n9:n≤16
 m:(S+1)*2^(n+(n - 1))≤M
 b:M+(n+(n - 1)+1)*(M+1)+M≤549755813888
 k:S+(n+2)*(T+1)+T≤1099511627776
theorem Qe.sS{F:Nat→Rat}{S n M T:Nat}(h:Qe F S n M T):S≤M:=by
 have:=Nat.mul_le_mul_left (S+1) (Nat.one_le_two_pow (n:=n+(n - 1)));have:=h.m;omega
structure Mm(W:Nat→Rat)(S D M:Nat):Prop where
 z:ZI W
 f:Af W
 s:∀ i,qsz (W i)≤S
 d:∀ i,qsz (pd W i)≤S
 e:pl W+pl (pd W)=D
 m:(S+1)*2^D≤M
 b:M+(D+1)*(M+1)≤1000000
 D9:D≤900
def Q5(base:Nat)(t:TypeId)(w:World)(v:Value)(W:Nat→Rat):Prop:=∃ c us K,v = .agg #[c]∧NN W (pd W) K∧K≤pl (pd W)+1∧Gz base base t w c us (EA W (pd W) K)
theorem Q5.ext{base:Nat}{t:TypeId}{w w':World}{v:Value}{W:Nat→Rat}(h:Q5 base t w v W)(x:Ext w w'):Q5 base t w' v W:=by
 obtain⟨c,us,K,h1,h2,h3,h4⟩:=h;exact⟨c,us,K,h1,h2,h3,h4.ext x⟩
theorem Mm.SM{W:Nat→Rat}{S D M:Nat}(h:Mm W S D M):S < M:=by
 have:=Nat.mul_le_mul_left (S+1) (Nat.one_le_two_pow (n:=D));have:=h.m;omega
theorem Gz.upd1{base eb g:Nat}{t t':TypeId}{w w':World}{v x:Value}{us:List Value}{l:List (Nat→Rat)}(h:Gz base eb t w v us l)(hx:RA x=false)(e:Bj w g t' #[x])(hg:g < base)(U:Cs [g] w w'):Gz base eb t w' v us l:=by
 have hb:=BI.blk_ge h.out;have hne:∀ g'∈blk v,g'∉[g]:=fun g' hg' hm=>by
  have:=hb g' hg';have:g'=g:=by simpa using hm
  omega
 have hN:NZ w (.slice (some ⟨g,0,none⟩) 1 1):=PL e.1 (by simpa using hx);refine⟨BI.upd h.out U hne fun _ _ q=>q,h.len,fun g' hg' i c hc=>?_,fun i a b=>(h.el i a b).updB U fun g' hg'=>hN g' (by simpa[blk,Value.ownBlock] using hg')⟩;obtain⟨o,ho⟩:∃ o,w.heap[g']? = some o:=⟨_,Array.getElem?_eq_getElem (hb g' hg').2⟩
 have hk:=U.1 g' o (hne g' hg') ho;rw[World.cell?_of_block (hk.trans ho.symm)]at hc;exact h.nb g' hg' i c hc
theorem Mm.mem{W:Nat→Rat}{S D M K:Nat}(h:Mm W S D M)(hK:NN W (pd W) K):∀ F∈EA W (pd W) K,(∀ i,qsz (F i)≤M)∧pl F≤D∧Af F:=by
 intro F hF;obtain⟨k,hk,rfl⟩:∃ k,k < K∧F=Co W (pd W) k:=by
  unfold EA at hF;obtain⟨k,h1,h2⟩:=List.mem_map.1 hF;exact⟨k,List.mem_range.1 h1,h2.symm⟩
 have hst:∀ j,(∀ i,1≤i→i≤j→Co W (pd W) i≠pz)→Fg W (pd W) D S (Co W (pd W) j) (Co W (pd W) (j+1)):=fun j hj=>by
  rw[←h.e];exact JK h.f (Cb h.f) h.z (EL h.z) h.s h.d j hj
 obtain⟨f1,f2,z1,z2,hd,q1,q2⟩:=(hst k fun i a b=>hK.2.2 i a Aa).facts;exact⟨fun i=>Nat.le_trans (q1 i) h.m,Aa,f1⟩
end Go.Hp
namespace Go.Proofs.YtmhgnigpmompmaaGreat
open Go.RowKit Go.Hp
theorem Wj(v:Value)(F:Nat→Rat)(S n M T:Nat)(w:World)(hv:AP 0 w v F)(hR:Qe F S n M T) :
  Bh 100 #[v] w (fun r w'=>AP 0 w' r (y0 (pp F))):=by
 have hg:=BP.pp hR.z hR.f hR.n0;have hpg:pl (pp F)=pl F:=EE hR.z hR.f;have hsg:∀ i,qsz (pp F i)≤S:=Fb hR.z hR.f hR.s;have hSM:=hR.sS;have hp:=hR.p;have hn:=hR.n9;have hM:=hR.m;have hB:=hR.b;have hKk:=hR.k;have hM9:M≤549755813888:=by omega
 have hpr:Bh 85 #[v] w (fun r w'=>AP w.heap.size w' r (pp F)):=IJ v _ w hv (fun i=>by have:=hR.s i;omega) Aa;have hde:∀ W u,AP 0 W u (pp F)→Bh 66 #[u] W (fun r w'=>AP 0 w' r (pd (pp F))):=fun W u hu=>by
  obtain⟨m,g1,g2,-,g4⟩:=hu.hz (fun i=>by have:=hsg i;omega);rw[←g4];exact Ah.imp (JE _ m W g1 Aa) fun _ _ h=>h.base_le (Nat.zero_le _)
 have hpd:pl (pd (pp F))≤n - 1:=by rw[Ng hg.f];omega
 have hg1:∀ W u z,AP 0 W u (pp F)→AP 0 W z (pd (pp F))→Bh 42 #[u,z] W (fun r w'=>AP 0 w' r (yc (pp F))):=fun W u z hu hz=>by
  have e:2^(pl (pp F)+pl (pd (pp F)))≤2^(n+(n - 1)):=Nat.pow_le_pow_right Ab Aa;have e2:(S+1)*2^(pl (pp F)+pl (pd (pp F)))≤(S+1)*2^(n+(n - 1)):=Nat.mul_le_mul_left _ e;have e3:(pl (pp F)+pl (pd (pp F))+1)*(M+1)≤(n+(n - 1)+1)*(M+1):=Nat.mul_le_mul_right _ Aa;exact bK u z _ _ S M W hu hz hsg hR.d Aa Aa Aa Aa
 obtain⟨hC,hW,eg,dC,-⟩:=EO hg;have hcl:pl (yc (pp F))≤pl (pp F):=Dv.le hC.f hg.f hg.n (KY dC);have hd1:∀ W u z,AP 0 W u (pp F)→AP 0 W z (yc (pp F))→Bh 88 #[u,z] W (fun r w'=>∃ q,r = .tuple #[q,.int .i64 0]∧AP 0 w' q (y0 (pp F))):=fun W u z hu hz=>by
  have e3:(pl (pp F)+2)*(T+1)≤(n+2)*(T+1):=Nat.mul_le_mul_right _ Aa;refine Ah.imp (Vb u z _ _ S T W hu hz hsg hR.t Aa Aa hC.n Aa) fun r w' hr=>?_;obtain⟨q,e1,e2⟩:=hr.1 dC;exact⟨q,e1,e2.base_le (Nat.zero_le _)⟩
 obtain⟨A0,c0,rfl,-⟩:=hv.shape;have HC:=Ad (Ak hpr (Ak hde (Ak hg1 hd1)));clear hpr hde hg1 hd1 hv hR hg hpg hsg hSM hp hn hM hB hKk hM9 hpd hC hW eg dC hcl
 go_enter Tryz.func100,Tryz.ntmps100
 go_wp2_with fail
 refine AL HC.out.1 ?_;rintro r1 w1 hr1 hx1;replace hr1:=hr1.base_le (b:=0) (Nat.zero_le _)
 go_wp2_with fail
 refine AL (HC.out.2.1 _ _ hr1) ?_;rintro r2 w2 hr2 hx2;replace hr1:=hr1.ext hx2;replace hx1:=hx1.trans hx2
 go_wp2_with fail
 refine AL (HC.out.2.2.1 _ _ _ hr1 hr2) ?_;rintro r3 w3 hr3 hx3;replace hr1:=hr1.ext hx3;replace hx1:=hx1.trans hx3
 go_wp2_with fail
 refine AL (HC.out.2.2.2 _ _ _ hr1 hr3) ?_;rintro r4 w4 ⟨q,rfl,hq⟩ hx4;go_wp2
 go_ret
 exact Ah.mk hq (hx1.trans hx4)
theorem ZO(v:Value)(F W:Nat→Rat)(S n M T S2 D M2:Nat)(w:World)(hv:AP 0 w v F)(hR:Qe F S n M T)(hW:W=y0 (pp F))(hC:Mm W S2 D M2) :
  Bh 50 #[v] w (fun r w'=>Q5 w.heap.size 23 w' r W):=by
 have h1:=fun X (x:Ext w X)=>Wj v F S n M T X (hv.ext x) hR;simp only[←hW]at h1;have hSM:=hC.SM;have hM9:M2≤1000000:=by have:=hC.b;omega
 have hde:∀ X u,AP 0 X u W→Bh 66 #[u] X (fun r w'=>AP 0 w' r (pd W)):=fun X u hu=>by
  obtain⟨m,g1,g2,-,g4⟩:=hu.hz (fun i=>by have:=hC.s i;omega);rw[←g4];exact Ah.imp (JE _ m X g1 (by have:=hC.e;have:=hC.D9;omega)) fun _ _ h=>h.base_le (Nat.zero_le _)
 have hch:∀ X u z,AP 0 X u W→AP 0 X z (pd W)→Bh 65 #[u,z] X (fun r w'=>∃ us K,NN W (pd W) K∧K≤pl (pd W)+1∧Gz X.heap.size X.heap.size 23 w' r us (EA W (pd W) K)):=fun X u z hu hz =>
  YL u z W (pd W) S2 D M2 X hu hz hC.z (EL hC.z) hC.f (Cb hC.f) hC.s hC.d hC.e hC.m hC.b hC.D9
 obtain⟨A0,c0,rfl,-⟩:=hv.shape;have HC:=Ad (Ak h1 (Ak hde hch));clear h1 hde hch hv hR hW hC hSM hM9
 go_enter Tryz.func50,Tryz.ntmps50
 have ez:=Bj.new w 92 #[.slice none 0 0] (by simp[Ag]);have hx:=(Ext.refl w).alloc (.cells #[.slice none 0 0] 92)
 go_upto_region 1 with(fail)
 generalize w.alloc (.cells #[.slice none 0 0] 92)=W0 at *
 go_wp2_with fail
 refine AL (HC.out.1 _ hx) ?_;rintro r1 w1 hr1 hx1;obtain⟨A1,c1,rfl,-⟩:=hr1.shape;replace ez:=ez.ext hx1;replace hx:=hx.trans hx1;have H1:=Ad hr1;clear hr1 hx1
 go_wp2_with fail
 refine AL (HC.out.2.1 _ _ H1.out) ?_;rintro r2 w2 hr2 hx2;replace ez:=ez.ext hx2;replace hx:=hx.trans hx2;have H2:=Ad (Ak (H1.out.ext hx2) hr2);clear hr2 hx2 H1
 go_wp2_with fail
 refine AL (HC.out.2.2 _ _ _ H2.out.1 H2.out.2) ?_;rintro r3 w3 ⟨us,K,hK,hK9,hP⟩ hx3;have hlt:=ez.lt;replace ez:=ez.ext hx3;replace hx:=hx.trans hx3;obtain⟨A3,c3,rfl⟩:=hP.shape;have hl:(EA W (pd W) K).length=K:=CP _ _ _;rw[hl]at hP ⊢;have H3:=Ad (Ak hK (Ak hK9 hP));clear hK hK9 hP hx3 H2;have cz0:=ez.cells1;have fz:=ez.frozen;go_wp2;obtain⟨W4,eW,ez',U⟩:=ez.put1 (.slice A3 K c3) rfl;rw[←eW];have hP4:=H3.out.2.2.upd1 rfl ez hlt U
 replace hx:=U.from_ hx Ac;clear eW cz0 fz ez;have cz0:=ez'.cells1;have fz:=ez'.frozen;refine bodyPost_ret (v := .agg #[.slice A3 K c3]) (by simp[results,Tryz.results50,go_sem,cz0]) rfl ?_;exact Ah.mk ⟨_,us,K,rfl,H3.out.1,H3.out.2.1,(hP4.base_le (Nat.le_of_lt hlt)).el_le (Nat.le_of_lt hlt)⟩ hx
end Go.Proofs.YtmhgnigpmompmaaGreat
namespace Go.Hp
open Go.RowKit
def RY(F:Nat→Rat):Prop:=∃ i b,BL (F i).num.natAbs b∧4096 < b
noncomputable def DL(F:Nat→Rat):Int:=open Classical in if F=pz then 5 else if 33 < pl F∨RY F then 7 else 0
theorem Oa{F:Nat→Rat}(h:F=pz):DL F=5:=by unfold DL;rw[if_pos h]
theorem JM{F:Nat→Rat}(h0:F≠pz)(h:33 < pl F∨RY F):DL F=7:=by unfold DL;rw[if_neg h0,if_pos h]
theorem PP{F:Nat→Rat}(h0:F≠pz)(h1:¬ 33 < pl F)(h2:¬ RY F):DL F=0:=by unfold DL;rw[if_neg h0,if_neg (fun q=>q.elim h1 h2)]
theorem FI(F:Nat→Rat):(F=pz∧DL F=5)∨(F≠pz∧DL F=7)∨(F≠pz∧pl F≤33∧¬ RY F∧DL F=0):=by
 by_cases h0:F=pz
 ·exact .inl ⟨h0,Oa h0⟩
 by_cases h:33 < pl F∨RY F
 ·exact .inr (.inl ⟨h0,JM h0 h⟩)
 ·exact .inr (.inr ⟨h0,Aa,fun q=>h (.inr q),PP h0 (fun q=>h (.inl q)) fun q=>h (.inr q)⟩)
theorem bF{F:Nat→Rat}(z:ZI F)(h:¬ RY F)(i:Nat):qsz (F i)≤129:=by
 obtain⟨b,hb⟩:=BL.ex (F i).num.natAbs;have h1:b≤4096:=by
  rcases Nat.lt_or_ge 4096 b with q | q
  ·exact absurd ⟨i,b,hb,q⟩ h
  ·exact q
 have h2:(F i).num.natAbs < bp 129:=by
  obtain⟨E,hE⟩:∃ E,E=129:=⟨_,rfl⟩;rw[← hE,Cw];exact Nat.lt_of_lt_of_le hb.1 (Nat.pow_le_pow_right Ab Aa)
 have h3:=Cj h2;rw[z.num i,Bi];omega
def Rl(F:Nat→Rat)(w:World)(r:Value):Prop:=∃ u,r = .tuple #[u,.int .i64 (DL F)]∧(DL F=0→AP 0 w u F)∧(DL F≠0→u = .slice none 0 0)
theorem Rl.ext{F:Nat→Rat}{w w':World}{r:Value}(h:Rl F w r)(x:Ext w w'):Rl F w' r:=by
 obtain⟨u,h1,h2,h3⟩:=h;exact⟨u,h1,fun e=>(h2 e).ext x,h3⟩
end Go.Hp
namespace Go.Proofs.YtmhgnigpmompmaaGreat
open Go.RowKit Go.Hp
theorem ZG(v:Value)(l:List Int)(w:World)(hv:Dt 0 w v l)(hn:l.length≤1000000):Bh 147 #[v] w (fun r w'=>Rl (cz l) w' r):=by
 have HV:=Ad hv;have hq:∀ i,qsz (cz l i)≤1099511627776:=OX hv.sz Aa;have hpl:pl (cz l)≤l.length:=Bq (BK l);have fF:Af (cz l):=⟨_,BK l⟩
 obtain⟨A,c,rfl⟩:=hv.len;clear hv
 go_enter Tryz.func147,Tryz.ntmps147
 go_wp2_with fail
 refine AL (L6 _ l _ HV.out Aa) ?_;rintro r1 w1 hr1 hx1;have HR:=Ad (hr1.base_le (Nat.zero_le _));obtain⟨A1,c1,m,rfl,k1,k2,hA,k3,k4,k5⟩:=hr1.form;have HA:=Ad (Ak hA (Ak k3 k5));clear hA k3 k4 k5 hr1;have HQ:=Ad hq;clear hq;by_cases h0:cz l=pz
 ·have hp:pl (cz l)=0:=(BG fF).2 h0
  have hr:=Oa h0;have H:=Ad (Ak hr h0);clear hr h0;rw[hp];go_wp2;refine bodyPost_ret (v := .tuple #[.slice none 0 0,.int .i64 5]) (by simp[results,Tryz.results147,go_sem]) rfl ?_;exact Ah.mk ⟨_,by rw[H.out.1],fun e=>by rw[H.out.1]at e;exact absurd e Ab,fun _=>rfl⟩ hx1
 have hp:=Be fF h0;obtain⟨N,hN⟩:∃ N,N=pl (cz l):=⟨_,rfl⟩
 rw[←hN]at hp hpl k1 ⊢;have hb:(((N:Nat):Int)==0)=false:=beq_eq_false_iff_ne.2 Aa;have HN:=Ad (Ak hN h0);clear hN h0;by_cases h33:33 < N
 ·have hr:DL (cz l)=7:=JM HN.out.2 (.inl (by rw[←HN.out.1];exact h33))
  have H:=Ad hr;clear hr;go_wp2;refine bodyPost_ret (v := .tuple #[.slice none 0 0,.int .i64 7]) (by simp[results,Tryz.results147,go_sem]) rfl ?_;exact Ah.mk ⟨_,by rw[H.out],fun e=>by rw[H.out]at e;exact absurd e Ab,fun _=>rfl⟩ hx1
 go_wp2
 go_loopw [17] (fun iv wr=>∃ i:Nat,i≤N∧iv = .int .i64 (i:Nat)∧(∀ j,j < i→∀ b,BL (cz l j).num.natAbs b→b≤4096)∧Ext w1 wr) (fun iv _=>N - (intOf iv).toNat)
 case atStart=>exact⟨0,Aa,rfl,fun j hj=>Aa,Ext.refl _⟩
 case round =>
  obtain⟨i,hi,rfl,hlow,hx⟩:=hrel;have HL:=Ad hlow;clear hlow;by_cases hiN:i < N
  ·have hlt:i < m.length:=by have:=HA.out.2.1;have:=HN.out.1;omega
   have hli:cz l i=(m[i]:Rat):=by rw[←Ch hlt,HA.out.2.2]
   have hqi:=HQ.out i;rw[hli,Bi]at hqi;obtain⟨g,o,b3,A3,n3,c3,e3,-,q0,q1,hq⟩:=HA.out.1.at_ hlt;cases e3;have hqh:=hq.has (by omega:sz (m[i]).natAbs≤1099511627776);obtain⟨y,hy⟩:∃ y,y=m[i]:=⟨_,rfl⟩
   rw[←hy]at hqh hli;have HI:=Ad (Ak hqh hli);clear hqh hq hqi hli hy hlt;replace q0:=hx.cell q0;replace q1:=hx.cell q1
   go_wp2_with fail
   refine AL (Ta _ y _ (HI.out.1.ext (hx.alloc _))) ?_;rintro r w2 ⟨b,rfl,hbl⟩ hx2;have hx':=hx2.a1;have HB:=Ad hbl;clear hbl;have hcast:(cz l i).num.natAbs=y.natAbs:=by rw[HI.out.2];rfl
   have HC:=Ad hcast;clear hcast;by_cases hbb:4096 < b
   ·have hr:DL (cz l)=7:=JM HN.out.2 (.inr ⟨i,b,by rw[HC.out];exact HB.out,hbb⟩)
    have H:=Ad hr;clear hr;go_wp2;refine bodyPost_ret (v := .tuple #[.slice none 0 0,.int .i64 7]) (by simp[results,Tryz.results147,go_sem]) rfl ?_;exact Ah.mk ⟨_,by rw[H.out],fun e=>by rw[H.out]at e;exact absurd e Ab,fun _=>rfl⟩ ((hx1.trans hx).trans hx')
   ·clear hx2
    go_wp2
    go_roundw
    case rel=>exact⟨i+1,Aa,by go_num,fun j hj b' hb'=>by
     rcases Nat.lt_or_ge j i with q | q
     ·exact HL.out j q b' hb'
     ·obtain rfl:j=i:=by omega
      rw[HC.out]at hb';have:=hb'.uniq HB.out;omega,hx.trans hx'⟩
    case measure=>simp[intOf];omega
  ·obtain rfl:i=N:=by omega
   have hnw:¬ RY (cz l):=fun⟨j,b,h1,h2⟩=>by
    rcases Nat.lt_or_ge j i with q | q
    ·have:=HL.out j q b h1;omega
    ·have hz:cz l j=0:=(AU fF) j (by have:=HN.out.1;omega)
     rw[hz]at h1;have:=h1.uniq BL.zero;omega
   have hr:=PP HN.out.2 (by rw[←HN.out.1];exact h33) hnw;have H:=Ad hr;clear hr hnw;have HF:=Ad (HR.out.ext hx);rw[←HN.out.1]at HF;go_wp2;refine bodyPost_ret (v := .tuple #[.slice A1 i c1,.int .i64 0]) (by simp[results,Tryz.results147,go_sem]) rfl ?_;exact Ah.mk ⟨_,by rw[H.out],fun _=>HF.out,fun e=>absurd H.out e⟩ (hx1.trans hx)
theorem WU(v:Value)(F:Nat→Rat)(w:World)(hv:AP 0 w v F)(fF:Af F)(h0:F≠pz)(hn:pl F≤33)(hs:∀ i,qsz (F i)≤129):Bh 148 #[v] w (fun r w'=>∃ x,AO w' r x):=by
 have hp:=Be fF h0;obtain⟨A,c,l,rfl,k1,k2,hA,k3,k4,k5⟩:=hv.form;have htop:=Ex fF hp;obtain⟨N,hN⟩:∃ N,N=pl F:=⟨_,rfl⟩
 rw[←hN]at hp hn k1 k3 htop ⊢;have HA:=Ad (Ak hA (Ak k3 (Ak k5 (Ak htop hs))));clear hA k3 k4 k5 htop hs hv hN
 go_enter Tryz.func148,Tryz.ntmps148
 obtain⟨W1,eW1,ez,y1⟩:=Bj.made w 26 #[.bool false,.slice none 0 0] (by simp[Ag])
 go_upto_region 1 with(fail)
 rw[←eW1];clear eW1;have hx:=y1
 go_wp2_with fail
 refine AL (Jv 0 _ Aa Aa) ?_;rintro r2 w2 hr2 hx2;obtain⟨b5,A5,n5,c5,rfl⟩:=hr2.cells;replace ez:=ez.ext hx2;replace hx:=hx.trans hx2;clear hx2;obtain⟨W3,eW3,es,y3⟩:=Bj.made w2 26 #[.bool b5,.slice A5 n5 c5] (by simp[Ag]);have hsm:=Bg.mk es (hr2.kd y3.kd);have hgs:=ez.lt;replace ez:=ez.ext y3;replace hx:=hx.trans y3;clear y3;clear hr2 es
 go_upto_region 2 with(fail)
 rw[←eW3];clear eW3;generalize w2.heap.size=gs at *;go_wp2
 go_loopw [14] (fun iv wr=>∃ (i:Nat) (x:Int),i≤N∧iv = .int .i64 (i:Nat)∧0≤x∧sz x.natAbs≤260+i∧((∃ j,j < i∧F j≠0)→0 < x)∧Bg wr gs 26 x∧Bj wr w.heap.size 26 #[.bool false,.slice none 0 0]∧Ext w wr) (fun iv _=>N - (intOf iv).toNat)
 case atStart=>exact⟨0,0,Aa,rfl,Aa,Ab,fun⟨j,hj,_⟩=>Aa,hsm,ez,hx⟩
 case round =>
  clear hsm ez hx;obtain⟨i,x,hi,rfl,hx0,hxs,hxp,⟨b1,A1,n1,c1,es,hsz⟩,ez,hx⟩:=hrel;have HX:=Ad (Ak hx0 (Ak hxs (Ak hxp hsz)));clear hx0 hxs hxp hsz;by_cases hiN:i < N
  ·have hlt:i < l.length:=by have:=HA.out.2.1;omega
   have hli:F i=(l[i]:Rat):=by rw[←Ch hlt,HA.out.2.2.1]
   have hqi:=HA.out.2.2.2.2 i;rw[hli,Bi]at hqi;obtain⟨g,o,b3,A3,n3,c3,e3,-,q0,q1,hq⟩:=HA.out.1.at_ hlt;cases e3;obtain⟨y,hy⟩:∃ y,y=l[i]:=⟨_,rfl⟩
   rw[←hy]at hq hli hqi;have HI:=Ad (Ak (hq.has Aa) (Ak hli (show sz y.natAbs≤129 by omega)));clear hq hqi hli hy hlt;replace q0:=hx.cell q0;replace q1:=hx.cell q1;obtain⟨W7,eW7,e6,y7⟩:=Bj.made wr 26 #[.bool b3,.slice A3 n3 c3] (by simp[Ag]);have hg6:=es.lt;have hgz:=ez.lt
   go_upto_region 5 with(fail)
   rw[←eW7];clear eW7 q0 q1;replace HX:=Ad (Ak HX.out.1 (Ak HX.out.2.1 (Ak HX.out.2.2.1 (HX.out.2.2.2.ext_ y7))));replace ez:=ez.ext y7;replace es:=es.ext y7;replace hx:=hx.trans y7;clear y7;generalize wr.heap.size=g6 at *;obtain⟨ce60,ce61⟩:=e6.cells2;have fe6:=e6.frozen;obtain⟨ces0,ces1⟩:=es.cells2;have fes:=es.frozen;refine Ae 4 [18,19,20,21] [[],[],[],[1,2],[0,1,2,3],[0,1,2,3,4]] [3,5] [_,_] [(kv ?_),(kv ?_),(kv ?_),(fun γ=>γ 3)] (fun γ w'=>[True,True,True,AO w' (γ 3) (y*y)]) Bn Aj Aj Bo Aj Bl Br ?hstep1 ?_
   case hstep1 =>
    iterate 4 refine⟨?_,?_⟩
    trivial
    iterate 3 focus
     intro γ w' he hf;clear hf;refine⟨by trivial,?_⟩;intro R hR;have hc:=he.cells;have cq0:=he.cell ce60;have cq1:=he.cell ce61;have cq2:=he.cell ces0;have cq3:=he.cell ces1;go_simp;refine hR _ _ (Ext.refl _) ?_ trivial;rfl
    ·intro γ w' he hf;clear hf;refine⟨trivial,?_⟩;intro R hR
     go_simp;exact Bd (DF _ _ y y w' (HI.out.1.ext (hx.trans he)) (HI.out.1.ext (hx.trans he))) hR
   intro γ w8 hx8 hF;have p3:AO w8 (γ 3) (y*y):=AA.get hF 3 Ab;clear hF;simp only[Bf,Nat.reduceAdd];generalize γ 3=g3 at *;clear γ;have hyy:sz (y*y).natAbs≤258:=by
    rw[Int.natAbs_mul];have:=Cc y.natAbs y.natAbs;have:=HI.out.2.2;omega
   have hsum:sz (x+y*y).natAbs≤260+(i+1):=by
    have h1:=Bp (Int.natAbs_add_le x (y*y));have h2:=Gp x.natAbs (y*y).natAbs;have:=HX.out.2.1;omega
   have hyn:0≤y*y:=by
    rcases Int.le_total 0 y with h | h
    ·exact Int.mul_nonneg h h
    ·have:=Int.mul_nonneg (show 0 ≤ -y by omega) (show 0 ≤ -y by omega)
     rw[Int.neg_mul_neg]at this;exact this
   have hyp:F i≠0→0 < y*y:=fun hne=>by
    have hy0:y≠0:=fun e=>hne (by rw[HI.out.2.1,e];rfl);have:y*y≠0:=fun e=>by rcases Int.mul_eq_zero.1 e with q | q<;>exact hy0 q
    omega
   have HS:=Ad (Ak hsum (Ak hyn (Ak hyp (Ak hyy HX.out.2.1))));clear hsum hyn hyp hyy
   go_wp2_with fail
   refine AL (ML _ _ x (y*y) _ ((HX.out.2.2.2.ext_ hx8).has (by have:=HS.out.2.2.2.2;omega)) (p3.has (by have:=HS.out.2.2.2.1;omega))) ?_;rintro r9 w9 hr9 hx9;obtain⟨b9,A9,n9,c9,rfl⟩:=hr9.cells;have x89:=hx8.trans hx9;clear ce60 ce61 ces0 ces1 fe6 fes p3 e6;replace ez:=ez.ext x89;replace es:=es.ext x89;replace hx:=hx.trans x89;clear x89;clear hx8 hx9;obtain⟨ces0,ces1⟩:=es.cells2;have fes:=es.frozen
   go_upto_region 6 with(fail)
   obtain⟨W10,eW,es',U⟩:=es.put2 (.bool b9) (.slice A9 n9 c9) rfl rfl;rw[←eW];clear eW es;replace hr9:=hr9.kd U.kd;replace ez:=ez.upd U Ai;replace hx:=U.from_ hx Ai;have es:=es';clear U es';clear ces0 ces1 fes;go_wp2
   go_roundw
   case rel=>exact⟨i+1,x+y*y,Aa,by go_num,by have:=HX.out.1;have:=HS.out.2.1;omega,HS.out.1,fun⟨j,hj,hne⟩=>by
    have h1:=HX.out.1;have h2:=HS.out.2.1;rcases Nat.lt_or_ge j i with q | q
    ·have:=HX.out.2.2.1 ⟨j,q,hne⟩;omega
    ·obtain rfl:j=i:=by omega
     have:=HS.out.2.2.1 hne;omega,Bg.mk es hr9,ez,hx⟩
   case measure=>simp[intOf];omega
  ·obtain rfl:i=N:=by omega
   have hpos:0 < x:=HX.out.2.2.1 ⟨i - 1,Aa,HA.out.2.2.2.1⟩;have HP:=Ad (Ak hpos (show sz x.natAbs≤1000 by have:=HX.out.2.1;omega));clear hpos;have hgz:=ez.lt;obtain⟨ces0,ces1⟩:=es.cells2;have fes:=es.frozen
   go_wp2_with fail
   refine AL (Yv _ x _ (HX.out.2.2.2.has (by have:=HP.out.2;omega)) HP.out.1 HP.out.2) ?_;rintro r11 w11 ⟨r0,q,bq,rfl,hr0,hq0,hqs⟩ hx11;obtain⟨b12,A12,n12,c12,rfl⟩:=hr0.cells;have HQ:=Ad hqs;clear hqs hq0 ces0 ces1 fes es;replace ez:=ez.ext hx11;replace hx:=hx.trans hx11;clear hx11;obtain⟨W12,eW12,er,y12⟩:=Bj.made w11 26 #[.bool b12,.slice A12 n12 c12] (by simp[Ag]);have hrr:=Bg.mk er (hr0.kd y12.kd)
   have hgr:=ez.lt;replace ez:=ez.ext y12;replace hx:=hx.trans y12;clear y12;clear er hr0
   go_upto_region 8 with(fail)
   rw[←eW12];clear eW12;generalize w11.heap.size=gr at *
   go_wp2_with fail
   refine AL (Jv 2 _ Aa Aa) ?_;rintro r13 w13 hr13 hx13;replace ez:=ez.ext hx13;replace hrr:=hrr.ext hx13;replace hx:=hx.trans hx13;clear hx13;obtain⟨k,hk⟩:∃ k,i=k+1:=⟨i - 1,Aa⟩
   have hki:((i:Nat):Int) - 1=(k:Nat):=by omega
   go_wp2_with fail
   refine Calls.mono (show Bh 176 _ _ (fun r w'=>F9 w' r (2^k) 0)from by
    first
     | (rw[hki];exact RV _ k _ (hr13.has Ab) Aa)
     | exact RV _ k _ (hr13.has Ab) Aa) ?_
   rintro e w14 ⟨r14,rfl,⟨r15,rfl,hr15⟩,hx14⟩;obtain⟨b15,A15,n15,c15,rfl⟩:=hr15.cells;clear hr13;replace ez:=ez.ext hx14;replace hrr:=hrr.ext hx14;replace hx:=hx.trans hx14;clear hx14;obtain⟨W16,eW16,et,y16⟩:=Bj.made w14 26 #[.bool b15,.slice A15 n15 c15] (by simp[Ag]);have htt:=hr15.kd y16.kd;have hgt:=hrr.lt;replace ez:=ez.ext y16;replace hrr:=hrr.ext y16;replace hx:=hx.trans y16;clear y16;clear hr15
   go_upto_region 9 with(fail)
   rw[←eW16];clear eW16;generalize w14.heap.size=gt at *;obtain⟨b17,A17,n17,c17,er,hrz⟩:=hrr;have hk9:=Gc k;have HT:=Ad (Ak htt (Ak hrz (show sz ((2:Int)^k).natAbs≤1099511627776 by omega)));clear htt hrz hk9;have hs1:sz (q+1).natAbs≤1099511627776:=by
    have h1:=Bp (Int.natAbs_add_le q 1);have h2:=Gp q.natAbs (1:Int).natAbs;have h3:sz (1:Int).natAbs=1:=by decide
    have:=HQ.out;omega
   have HS1:=Ad hs1;clear hs1;obtain⟨cet0,cet1⟩:=et.cells2;have fet:=et.frozen;obtain⟨cer0,cer1⟩:=er.cells2;have fer:=er.frozen;obtain⟨cez0,cez1⟩:=ez.cells2;have fez:=ez.frozen;refine Ae 4 [38,39,40,41] [[],[],[],[1,2],[0,1,2,3],[0,1,2,3,4]] [9,6] [_,_] [(kv ?_),(kv ?_),(fun γ=>γ 2),(fun γ=>γ 3)] (fun γ w'=>[True,True,AO w' (γ 2) 1,AO w' (γ 3) (q+1)]) Bn Aj Aj Bo Aj Bl Br ?hstep2 ?_
   case hstep2 =>
    iterate 4 refine⟨?_,?_⟩
    trivial
    iterate 2 focus
     intro γ w' he hf;clear hf;refine⟨by trivial,?_⟩;intro R hR;have hc:=he.cells;have cq0:=he.cell cet0;have cq1:=he.cell cet1;have cq2:=he.cell cer0;have cq3:=he.cell cer1;go_simp;refine hR _ _ (Ext.refl _) ?_ trivial;rfl
    ·intro γ w' he hf;clear hf;refine⟨trivial,?_⟩;intro R hR
     go_simp;exact Bd (Jv 1 w' Aa Aa) hR
    ·intro γ w' he hf;have f2:AO w' (γ 2) 1:=hf 2 Ab;clear hf;refine⟨trivial,?_⟩;intro R hR
     go_simp;exact Bd (ML _ _ q 1 w' ((HT.out.2.1.ext_ he).has (by have:=HQ.out;omega)) (f2.has Ab)) hR
   intro γ w18 hx18 hF;have p2:AO w18 (γ 2) 1:=AA.get hF 2 Ab;have p3:AO w18 (γ 3) (q+1):=AA.get hF 3 Ab;clear hF;simp only[Bf,Nat.reduceAdd];generalize γ 2=g2 at *;generalize γ 3=g3 at *;clear γ
   go_wp2_with fail
   refine AL (DF _ _ (2^k) (q+1) _ ((HT.out.1.ext_ hx18).has HT.out.2.2) (p3.has HS1.out)) ?_;rintro r19 w19 hr19 hx19;obtain⟨b19,A19,n19,c19,rfl⟩:=hr19.cells;have x1819:=hx18.trans hx19;clear cet0 cet1 cer0 cer1 cez0 cez1 fet fer fez p2 p3;replace ez:=ez.ext x1819;replace hx:=hx.trans x1819;clear x1819;clear hx18 hx19;obtain⟨cez0,cez1⟩:=ez.cells2;have fez:=ez.frozen;go_wp2;obtain⟨W20,eW,ez',U⟩:=ez.put2 (.bool b19) (.slice A19 n19 c19) rfl rfl
   rw[←eW];clear eW ez;replace hr19:=hr19.kd U.kd;replace hx:=U.from_ hx Ai;have ez:=ez';clear U ez';clear cez0 cez1 fez;obtain⟨cez0,cez1⟩:=ez.cells2;have fez:=ez.frozen;refine bodyPost_ret (v := .agg #[.bool b19,.slice A19 n19 c19]) (by simp[results,Tryz.results148,go_sem,cez0,cez1]) rfl ?_;exact Ah.mk ⟨_,hr19⟩ hx
end Go.Proofs.YtmhgnigpmompmaaGreat
namespace Go.Hp
def fT(F:Nat→Rat)(r:Value):Prop:=∃ b A n c,r = .tuple #[.agg #[.bool b,.slice A n c],.int .i64 (DL F)]
end Go.Hp
namespace Go.Proofs.YtmhgnigpmompmaaGreat
open Go.RowKit Go.Hp
theorem WW(v:Value)(l:List Int)(w:World)(hv:Dt 0 w v l)(hn:l.length≤1000000):Bh 98 #[v] w (fun r _=>fT (cz l) r):=by
 have HV:=Ad hv;have fF:Af (cz l):=⟨_,BK l⟩
 have zF:ZI (cz l):=ZI.cz l;obtain⟨A,c,rfl⟩:=hv.len;clear hv
 go_enter Tryz.func98,Tryz.ntmps98
 obtain⟨W1,eW1,ez,y1⟩:=Bj.made w 26 #[.bool false,.slice none 0 0] (by simp[Ag])
 go_upto_region 1 with(fail)
 rw[←eW1];clear eW1;have hx:=y1;clear y1
 go_wp2_with fail
 refine AL (ZG _ l _ (HV.out.ext hx) hn) ?_;rintro r2 w2 ⟨u,rfl,hu1,hu2⟩ hx2;replace ez:=ez.ext hx2;replace hx:=hx.trans hx2;clear hx2;have hgz:=ez.lt;obtain⟨E,hE⟩:∃ E,E=DL (cz l):=⟨_,rfl⟩
 have hc:=FI (cz l);rw[←hE]at hu1 hu2 hc ⊢;have HE:=Ad hE;clear hE;have fin:∀(W:World) (b:Bool) (A:Option Addr) (n c:Nat),Ext w W→Ah w (fun r _=>fT (cz l) r) (.returned (.tuple #[.agg #[.bool b,.slice A n c],.int .i64 E])) W:=fun W b A n c h=>Ah.mk ⟨_,_,_,_,by rw[HE.out]⟩ h;have Hfin:=Ad fin;clear fin;rcases hc with⟨-,hc⟩ | ⟨-,hc⟩ | ⟨h0,hp,hw,hc⟩
 ·subst hc
  clear hu1 hu2;obtain⟨cez0,cez1⟩:=ez.cells2;have fez:=ez.frozen;go_wp2;obtain⟨W3,eW,ez',U⟩:=ez.put2 (.bool false) (.slice none 0 0) rfl rfl;rw[←eW];clear eW ez;replace hx:=U.from_ hx Ai;have ez:=ez';clear U ez';clear cez0 cez1 fez;obtain⟨cez0,cez1⟩:=ez.cells2;have fez:=ez.frozen;refine bodyPost_ret (v := .tuple #[.agg #[.bool false,.slice none 0 0],.int .i64 5]) (by simp[results,Tryz.results98,go_sem,cez0,cez1]) rfl ?_
  exact Hfin.out _ _ _ _ _ hx
 ·subst hc
  clear hu1 hu2;obtain⟨cez0,cez1⟩:=ez.cells2;have fez:=ez.frozen;go_wp2;obtain⟨W3,eW,ez',U⟩:=ez.put2 (.bool false) (.slice none 0 0) rfl rfl;rw[←eW];clear eW ez;replace hx:=U.from_ hx Ai;have ez:=ez';clear U ez';clear cez0 cez1 fez;obtain⟨cez0,cez1⟩:=ez.cells2;have fez:=ez.frozen;refine bodyPost_ret (v := .tuple #[.agg #[.bool false,.slice none 0 0],.int .i64 7]) (by simp[results,Tryz.results98,go_sem,cez0,cez1]) rfl ?_
  exact Hfin.out _ _ _ _ _ hx
 ·subst hc
  have hq:=bF zF hw;have hu:=hu1 rfl;obtain⟨A1,c1,rfl,-⟩:=hu.shape;clear hu1 hu2
  go_wp2_with fail
  refine AL (WU _ (cz l) _ hu fF h0 hp hq) ?_;rintro r4 w4 ⟨x4,hr4⟩ hx4;obtain⟨b5,A5,n5,c5,rfl⟩:=hr4.cells;clear hu;replace ez:=ez.ext hx4;replace hx:=hx.trans hx4;clear hx4;obtain⟨cez0,cez1⟩:=ez.cells2;have fez:=ez.frozen;go_wp2;obtain⟨W3,eW,ez',U⟩:=ez.put2 (.bool b5) (.slice A5 n5 c5) rfl rfl;rw[←eW];clear eW ez;replace hx:=U.from_ hx Ai;have ez:=ez';clear U ez';clear cez0 cez1 fez;obtain⟨cez0,cez1⟩:=ez.cells2
  have fez:=ez.frozen;refine bodyPost_ret (v := .tuple #[.agg #[.bool b5,.slice A5 n5 c5],.int .i64 0]) (by simp[results,Tryz.results98,go_sem,cez0,cez1]) rfl ?_;exact Hfin.out _ _ _ _ _ hx
theorem SV(v:Value)(l:List Int)(w:World)(hv:Dt 0 w v l)(hn:l.length≤1000000):Bh 48 #[v] w (fun r w'=>Rl (cz l) w' r):=by
 have HV:=Ad hv;obtain⟨A,c,rfl⟩:=hv.len;clear hv
 go_enter Tryz.func48,Tryz.ntmps48
 go_wp2_with fail
 refine AL (WW _ l _ HV.out hn) ?_;rintro r2 w2 ⟨b5,A5,n5,c5,rfl⟩ hx2;obtain⟨W1,eW1,-,y1⟩:=Bj.made w2 26 #[.bool b5,.slice A5 n5 c5] (by simp[Ag]);have hx:=hx2.trans y1;clear hx2 y1
 go_upto_region 2 with(fail)
 rw[←eW1];clear eW1;obtain⟨E,hE⟩:∃ E,E=DL (cz l):=⟨_,rfl⟩
 have hc:=FI (cz l);rw[←hE]at hc ⊢;have HE:=Ad hE;clear hE;rcases hc with⟨-,hc⟩ | ⟨-,hc⟩ | ⟨-,-,-,hc⟩
 ·subst hc
  go_wp2;refine bodyPost_ret (v := .tuple #[.slice none 0 0,.int .i64 5]) (by simp[results,Tryz.results48,go_sem]) rfl ?_;exact Ah.mk ⟨_,by rw[←HE.out],fun e=>by rw[←HE.out]at e;exact absurd e Ab,fun _=>rfl⟩ hx
 ·subst hc
  go_wp2;refine bodyPost_ret (v := .tuple #[.slice none 0 0,.int .i64 7]) (by simp[results,Tryz.results48,go_sem]) rfl ?_;exact Ah.mk ⟨_,by rw[←HE.out],fun e=>by rw[←HE.out]at e;exact absurd e Ab,fun _=>rfl⟩ hx
 ·subst hc
  go_wp2_with fail
  refine AL (L6 _ l _ (HV.out.ext hx) Aa) ?_;rintro r4 w4 hr4 hx4;obtain⟨A1,c1,rfl,-⟩:=hr4.shape;have hx5:=hx.trans hx4;have HR:=Ad (hr4.base_le (Nat.zero_le _));clear hr4;go_wp2;refine bodyPost_ret (v := .tuple #[.slice A1 (pl (cz l)) c1,.int .i64 0]) (by simp[results,Tryz.results48,go_sem]) rfl ?_;exact Ah.mk ⟨_,by rw[←HE.out],fun _=>HR.out,fun e=>by rw[←HE.out]at e;exact absurd rfl e⟩ hx5
end Go.Proofs.YtmhgnigpmompmaaGreat
namespace Go.Hp
open Go.RowKit
theorem V5(l:List (Nat→Rat))(x:Rat):V l x≤l.length:=by
 unfold V;have:=Xj (l.map fun F=>BM (ev F x)) 0;simpa using this
end Go.Hp
namespace Go.Proofs.YtmhgnigpmompmaaGreat
open Go.RowKit Go.Hp
theorem eD(v u z:Value)(W:Nat→Rat)(p q:Rat)(base S D M t K:Nat)(w:World)(hv:Q5 base 23 w v W)(hu:BQ w u p)(hz:BQ w z q)(hC:Mm W S D M)(hK:NN W (pd W) K)(hp:qsz p≤t)(hq:qsz q≤t)
  (ht:1+D*(M+t+1)+M+t+1≤274877906944) :
  Bh 51 #[v,u,z] w (fun r _=>r = .int .i64 ((V (EA W (pd W) K) p:Nat) - (V (EA W (pd W) K) q:Nat):Int)):=by
 obtain⟨c,us,K',rfl,h1,h2,h3⟩:=hv;obtain rfl:=h1.uniq hK;have hl:(EA W (pd W) K').length=K':=CP _ _ _;have hK9:K'≤1000:=by have:=hC.e;have:=hC.D9;omega
 have hch:∀ X (x:Ext w X) a r,BQ X a r→qsz r≤t→Bh 101 #[c,a] X (fun o _=>o = .int .i64 (V (EA W (pd W) K') r:Nat)):=fun X x a r ha hr =>
  UF c a us _ r base M t D X (h3.ext x) ha (hC.mem h1) hr ht (by have:=hC.D9;omega) (by rw[hl];omega)
 have b1:=V5 (EA W (pd W) K') p;have b2:=V5 (EA W (pd W) K') q;rw[hl]at b1 b2;obtain⟨Vp,hVp⟩:∃ n,n=V (EA W (pd W) K') p:=⟨_,rfl⟩
 obtain⟨Vq,hVq⟩:∃ n,n=V (EA W (pd W) K') q:=⟨_,rfl⟩
 have hc1:∀ X (x:Ext w X),Bh 101 #[c,u] X (fun o _=>o = .int .i64 (Vp:Nat)):=fun X x=>by rw[hVp];exact hch X x u p (hu.ext x) hp
 have hc2:∀ X (x:Ext w X),Bh 101 #[c,z] X (fun o _=>o = .int .i64 (Vq:Nat)):=fun X x=>by rw[hVq];exact hch X x z q (hz.ext x) hq
 rw[←hVp]at b1 ⊢;rw[←hVq]at b2 ⊢;have HP:=Ad (Ak hc1 hc2);obtain⟨A0,c0,rfl⟩:=h3.shape;rw[hl]at HP ⊢;obtain⟨b,B,n1,c1,b',B',n1',c1',x0,y0,rfl,-⟩:=hu.form;obtain⟨d,E,n2,c2,d',E',n2',c2',x1,y1,rfl,-⟩:=hz.form;clear hch hu hz hp hq h1 h2 h3 hC hK ht hl hc1 hc2 hVp hVq
 go_enter Tryz.func51,Tryz.ntmps51
 go_upto_region 1 with(fail)
 refine Ae 8 [7,8,9,10,11,12,13,14] [[],[0],[],[0,1,2],[],[4],[],[0,1,2,3,4,5,6],[0,1,2,3,4,5,6,7],[0,1,2,3,4,5,6,7,8]] [3,4,5] [_,_,_] [(kv ?_),(kv ?_),(kv ?_),(kv (.int .i64 (Vp:Nat))),(kv ?_),(kv ?_),(kv ?_),(kv (.int .i64 (Vq:Nat)))] (fun γ w'=>[True,True,True,True,True,True,True,True]) Bn Aj Aj Bo Aj Bl Br ?hstep1 ?_
 case hstep1 =>
  iterate 8 refine⟨?_,?_⟩
  trivial
  iterate 3 focus
   intro γ w' he hf;clear hf;refine⟨by trivial,?_⟩;intro R hR;have hc:=he.cells;go_simp;refine hR _ _ (Ext.refl _) ?_ trivial;rfl
  ·intro γ w' he hf;clear hf;refine⟨trivial,?_⟩;intro R hR
   go_simp;exact NJ (HP.out.1 w' he.a3) hR
  iterate 3 focus
   intro γ w' he hf;clear hf;refine⟨by trivial,?_⟩;intro R hR;have hc:=he.cells;go_simp;refine hR _ _ (Ext.refl _) ?_ trivial;rfl
  ·intro γ w' he hf;clear hf;refine⟨trivial,?_⟩;intro R hR
   go_simp;exact NJ (HP.out.2 w' he.a3) hR
 intro γ w1 hx1 hF;clear hF;simp only[Bf,Nat.reduceAdd];clear γ;go_wp2
 go_ret
 exact Ah.mk rfl hx1.a3
end Go.Proofs.YtmhgnigpmompmaaGreat

namespace Go.Hp
open Go.RowKit
def KH(w:World)(v:Value)(x y:Int):Prop:=∃ a b,v = .tuple #[a,b]∧AO w a x∧AO w b y
theorem KH.ext{w w':World}{v:Value}{x y:Int}(h:KH w v x y)(k:Ext w w'):KH w' v x y:=by
 obtain⟨a,b,h1,h2,h3⟩:=h;exact⟨a,b,h1,h2.kd k.kd,h3.kd k.kd⟩
def iT(F G:Nat→Rat)(r:Value)(w:World):Prop:=∃ q b,r = .tuple #[q,.bool b]∧(∃ A n c,q = .slice A n c)∧(b=true↔GZ F G)∧(b=true→AP 0 w q (pq F G))
theorem EJ.lower{F G:Nat→Rat}{n s t i j:Nat}{Q R:Nat→Rat}(h:EJ F G n s t i Q R)(hj:j≤i)(hs:BB (j+pl G - 1) R):EJ F G n s t j Q R:=
 ⟨fun m hm=>h.1 m Aa,h.2.1,hs,h.2.2.2.1,h.2.2.2.2.1,h.2.2.2.2.2.1,fun m=>by
  have h1:=h.2.2.2.2.2.2 m;have h2:(n - i)*(t+1)≤(n - j)*(t+1):=Nat.mul_le_mul_right _ Aa;omega⟩
theorem R8{x y:Int}:((x % y).sign != 0)=!decide (y∣x):=by
 by_cases h:y∣x
 ·rw[Int.emod_eq_zero_of_dvd h];simp[h]
 ·have:x % y≠0:=fun e=>h (Int.dvd_of_emod_eq_zero e)
  have h2:(x % y).sign≠0:=fun e=>this (Int.sign_eq_zero_iff_zero.1 e);simp[h,h2]
end Go.Hp
namespace Go.Proofs.YtmhgnigpmompmaaGreat
open Go.RowKit Go.Hp
set_option maxRecDepth 20000 in
theorem Vj(v u:Value)(l m:List Int)(s t M:Nat)(w:World)(hv:Dt 0 w v l)(hu:Dt 0 w u m)(hs:∀ i,qsz (cz l i)≤s)(ht:∀ i,qsz (cz m i)≤t)(hn:l.length≤1000000)(hm:m.length≤1000000)(h0:cz m≠pz)(hM:s+(l.length+2)*(t+1)+t+1≤M)(hst:2+(l.length+m.length+4)*(2*M+4)≤274877906944) :
  Bh 105 #[v,u] w ((iT (cz l) (cz m))):=by
 have HV:=Ad hv;have HU:=Ad hu;obtain⟨A0,c0,rfl⟩:=hv.len;obtain⟨A1,c1,rfl⟩:=hu.len;clear hv hu;have hN1:=CW _ l w HV.out Aa;have hD:=fun W (x:Ext w W)=>Fw _ m W (HU.out.ext x) Aa;have hLd:=fun W (x:Ext w W)=>KG _ m W (HU.out.ext x) Aa;have hc1:=Bq (BK l);have hc2:=Bq (BK m);have hfF:=Af.cz l;have hzF:=ZI.cz l;have hfG:=Af.cz m;have hzG:=ZI.cz m;have hL:=Be hfG h0;have hMb:4*M+12≤274877906944:=by
  have:4*(2*M+4)≤(l.length+m.length+4)*(2*M+4):=Nat.mul_le_mul_right _ Aa;omega
 have hMul:=fun(k:Nat) (z:Int) (W:World) (x:Ext w W) (v:Value) (hv:AP 0 W v (mono k (z:Rat))) (hk:k≤l.length) (hz:qsz (z:Rat)≤M)=>show Bh 23 #[v,.slice A1 m.length c1] W (fun r w'=>AP 0 w' r (cv (mono k (z:Rat)) (cz m)))from by
  have hq:∀ i,qsz (mono k (z:Rat) i)≤M:=fun i=>by
   unfold mono;split
   ·exact hz
   ·have:qsz (0:Rat)=1:=by decide
    have:=Cg (z:Rat);omega
  have hp:=Bq (CX k (z:Rat));obtain⟨l2,g1,g2,-,g4⟩:=hv.hz (fun i=>by have:=hq i;omega);rw[←g4];refine Ah.imp (TP _ _ l2 m M t W g1 (HU.out.ext x) (by rw[g4];exact hq) ht ?_ Aa Aa) fun _ _ h=>h.base_le (Nat.zero_le _);have h1:(l2.length+m.length)*(M+t+1)≤(l.length+m.length+4)*(2*M+4):=Nat.mul_le_mul Aa Aa;omega
 obtain⟨F,hF⟩:∃ F,F=cz l:=⟨_,rfl⟩
 obtain⟨G,hG⟩:∃ G,G=cz m:=⟨_,rfl⟩
 rw[←hF]at hN1 hs hc1 hfF hzF;rw[←hG]at hc2 hfG hzG hL ht h0;simp only[←hG]at hD hLd hMul;rw[←hF,←hG];obtain⟨n,hnn⟩:∃ n,n=pl F+1 - pl G:=⟨_,rfl⟩
 have hbig:∀ k,k≤n→∀ q,q≤s+k*(t+1)→q+1≤M∧q+t+1≤M:=fun k hk q hq=>by
  have:k*(t+1)≤(l.length+2)*(t+1):=Nat.mul_le_mul_right _ Aa;omega
 have htM:t+1≤M:=by omega
 have hst0:EJ F G n s t n pz F:=EJ.start ((AU hfF).mono Aa) hzF hs;have HX:=Ad (Ak hfF (Ak hzF (Ak hfG (Ak hzG (Ak h0 (Ak ht (Ak hbig (Ak hMb htM))))))));have HC:=Ad (Ak hD (Ak hLd hMul));have HN:=Ad (Ak hN1 (Ak hst0 hnn));clear hs ht hfF hzF hfG hzG h0 hF hG hD hLd hMul hN1 hst hM hbig hst0 hMb htM HV HU
 go_enter Tryz.func105,Tryz.ntmps105
 go_wp2_with fail
 refine AL HN.out.1 ?_;rintro r1 w1 hr1 hx;have H1:=Ad (hr1.base_le (b:=0) (Nat.zero_le _));clear hr1
 go_wp2_with fail
 refine AL (HC.out.1 w1 hx) ?_;rintro r2 w2 rfl hx2;have h1:=H1.out.ext hx2;replace hx:=hx.trans hx2;clear hx2 H1;go_wp2
 go_loopw [6,8] (fun rv qv wr=>∃ Q R,AP 0 wr rv R∧AP 0 wr qv Q∧EJ F G n s t (pl R+1 - pl G) Q R∧pl R≤pl F∧(∀ m,qsz (Q m)≤M)∧Ext w wr) (fun rv _ _=>NS rv)
 case atStart=>exact⟨pz,F,h1,AP.nil _ _,HN.out.2.2▸HN.out.2.1,Nat.le_refl _,fun m=>by have:qsz (pz m)=1:=by { show qsz 0=1;decide };have:=HX.out.2.2.2.2.2.2.2.2;omega,hx⟩
 case round =>
  clear h1 hx;obtain⟨Q,R,hR,hQ,hst,hRF,hqQ,hx⟩:=hrel;obtain⟨AR,cR,lr,rfl,j1,j2,hA,j3,j4,j5⟩:=hR.form;obtain⟨AQ,cQ,rfl,-⟩:=hQ.shape;have HS:=Ad (Ak hst (Ak hqQ (Ak hA (Ak j3 (Ak j5 (Ak hR hQ))))));clear hst hqQ hA j3 j4 j5 hR hQ;by_cases hle:pl G≤pl R
  ·obtain⟨k,hk⟩:∃ k,k=pl R - pl G:=⟨_,rfl⟩
   have hk1:pl R+1 - pl G=k+1:=by omega
   have hlt:pl R - 1 < lr.length:=by have:=HS.out.2.2.2.1;omega
   obtain⟨g,o,b,B1,n1,d1,rfl,-,q0,q1,hq⟩:=HS.out.2.2.1.at_ (j:=pl R - 1) hlt;have hval:=TM HS.out.2.2.2.2.1 (i:=pl R - 1) hlt;rw[hval]at hq;obtain⟨rv,hrv⟩:∃ rv,rv=(R (pl R - 1)).num:=⟨_,rfl⟩
   rw[←hrv]at hq;have hrs:qsz (R (pl R - 1))≤s+(n - (k+1))*(t+1):=by rw[←hk1];exact HS.out.1.2.2.2.2.2.2 _
   have hb2:=HX.out.2.2.2.2.2.2.1 (n - (k+1)) Aa _ hrs;have hln:(ld G).num≠0:=fun e=>D8 HX.out.2.2.1 HX.out.2.2.2.2.1 (by rw[show ld G=((ld G).num:Rat)from HX.out.2.2.2.1.num _,e];rfl);have HQ:=Ad (show sz rv.natAbs≤M∧(ld G).num≠0∧sz (ld G).num.natAbs≤M∧R (k+pl G - 1)=R (pl R - 1)from
    ⟨by rw[hrv];have:=ER (R (pl R - 1));omega,hln,by have h1:qsz (ld G)≤t:=HX.out.2.2.2.2.2.1 _;have h2:=ER (ld G);have:=HX.out.2.2.2.2.2.2.2.2;omega,by congr 1;omega⟩)
   have Hq:=Ad (Ak hq (Ak hrv (Ak hk hk1)));clear hq hrv hval hrs hb2 hln hk1 hk;have hind:((pl R:Int) - 1).toNat=pl R - 1:=by omega
   go_wp2_with fail
   go_cut [9,10] (fun pv qv wx=>∃ gc gd,pv = .pointer (some ⟨gc,0,none⟩)∧qv = .pointer (some ⟨gd,0,none⟩)∧Bg wx gc 26 (rv / (ld G).num)∧Bg wx gd 26 (rv % (ld G).num)∧Ext wr wx)
   case first =>
    refine Bz 14 [11] (fun x=>15) [22,23,24,25,26,27,28,29,30,21,31,32,9,10] [[],[],[1],[1,2],[0,1,2,3],[0,1,2,3,4],[],[6],[0,1,2,3,4,5,6,7],[0,1,2,3,4,5,6,7,8],[0,1,2,3,4,5,6,7,8,9],[0,1,2,3,4,5,6,7,8,9],[],[],[0,1,2,3,4,5,6,7,8,9,10,12,13],[0,1,2,3,4,5,6,7,8,9,10,11,12,13,14]] [6,1] [_,_] [(kv ?_),(kv ?_),(kv ?_),(kv ?_),(kv ?_),(kv ?_),(kv ?_),(fun γ=>γ 7),(fun γ=>γ 8),(fun γ=>γ 8),(fun γ=>γ 10),(fun γ=>γ 11),(fun γ=>γ 12),(fun γ=>γ 13)] (fun γ w'=>[True,True,True,True,True,True,True,AO w' (γ 7) (ld G).num,KH w' (γ 8) (rv / (ld G).num) (rv % (ld G).num),True,AO w' (γ 10) (rv / (ld G).num),AO w' (γ 11) (rv % (ld G).num),AZ w' (γ 12) wr.heap.size #[.bool false,.slice none 0 0] 26,AZ w' (γ 13) wr.heap.size #[.bool false,.slice none 0 0] 26]) Bn Aj Aj Aj Aj Aj Bo Aj Bl ?hmono1 ?hstep1 ?_ ?hlate1
    case hstep1 =>
     iterate 14 refine⟨?_,?_⟩
     trivial
     iterate 7 focus
      intro γ w' he hf;clear hf;refine⟨by trivial,?_⟩;intro R hR;have hc:=he.cells;have cq0:=he.cell q0;have cq1:=he.cell q1;go_simp;(try go_ints);(try(rw[if_neg Aa]));(try(rw[if_pos Aa]));(try go_simp);(try go_ints)
      refine hR _ _ (Ext.refl _) ?_ trivial;rfl
     ·intro γ w' he hf;clear hf;refine⟨trivial,?_⟩;intro R hR
      go_simp;exact Bd (HC.out.2.1 w' (hx.trans he)) hR
     ·intro γ w' he hf;have f7:AO w' (γ 7) (ld G).num:=hf 7 Ab;clear hf;refine⟨trivial,?_⟩;intro R hR
      go_simp;exact Bd (Nr _ _ rv (ld G).num w' ((Hq.out.1.kd he.kd).has (by have:=HQ.out.1;have:=HX.out.2.2.2.2.2.2.2.1;omega)) (f7.has (by have:=HQ.out.2.2.1;have:=HX.out.2.2.2.2.2.2.2.1;omega)) HQ.out.2.1 (by have:=HQ.out.1;have:=HX.out.2.2.2.2.2.2.2.1;omega) (by have:=HQ.out.2.2.1;have:=HX.out.2.2.2.2.2.2.2.1;omega)) hR
     ·intro γ w' he hf;clear hf;refine⟨trivial,?_⟩;intro R hR
      have hc:=he.cells;go_simp
      (try go_ints);(try(rw[if_neg Aa]));(try(rw[if_pos Aa]));(try go_simp);(try go_ints)
      refine hR _ _ (Ext.refl _) ?_ trivial;rfl
     ·intro γ w' he hf;have f8:KH w' (γ 8) (rv / (ld G).num) (rv % (ld G).num):=hf 8 Ab;clear hf;refine⟨trivial,?_⟩;intro R hR
      obtain⟨a,b',e,ha,hb⟩:=f8;go_simp;exact hR _ _ (Ext.refl _) rfl ha
     ·intro γ w' he hf;have f8:KH w' (γ 8) (rv / (ld G).num) (rv % (ld G).num):=hf 8 Ab;clear hf;refine⟨trivial,?_⟩;intro R hR
      obtain⟨a,b',e,ha,hb⟩:=f8;go_simp;exact hR _ _ (Ext.refl _) rfl hb
     ·intro γ w' he hf;clear hf;refine⟨trivial,?_⟩;intro R hR
      go_simp;exact hR _ _ ((Ext.refl _).alloc _) rfl (AZ.mk (Nat.le_trans Ac he.size) (by simp[Ag]))
     ·intro γ w' he hf;clear hf;refine⟨trivial,?_⟩;intro R hR
      go_simp;exact hR _ _ ((Ext.refl _).alloc _) rfl (AZ.mk (Nat.le_trans Ac he.size) (by simp[Ag]))
    case hmono1 =>
     exact⟨⟨⟨⟨⟨⟨⟨⟨⟨⟨⟨⟨⟨⟨trivial,(fun γ wA w' e h=>h)⟩,(fun γ wA w' e h=>h)⟩,(fun γ wA w' e h=>h)⟩,(fun γ wA w' e h=>h)⟩,(fun γ wA w' e h=>h)⟩,(fun γ wA w' e h=>h)⟩,(fun γ wA w' e h=>h)⟩,(fun γ wA w' e h=>(show AO wA (γ 7) (ld G).num from h).ext e)⟩,(fun γ wA w' e h=>(show KH wA (γ 8) (rv / (ld G).num) (rv % (ld G).num)from h).ext e)⟩,(fun γ wA w' e h=>h)⟩,(fun γ w w' e h=>AO.ext_ h e)⟩,(fun γ w w' e h=>AO.ext_ h e)⟩,(fun γ wA w' e h=>(show AZ wA (γ 12) wr.heap.size #[.bool false,.slice none 0 0] 26 from h).ext e)⟩,(fun γ wA w' e h=>(show AZ wA (γ 13) wr.heap.size #[.bool false,.slice none 0 0] 26 from h).ext e)⟩
    case hlate1 =>
     intro Pn hPs hPn;obtain rfl:=Gn hPs hPn;clear hPs hPn
     ·intro γ w3 hx3 hF hA
      have na12x13:γ 12≠γ 13:=hA 12 13 Ab Ab Ab Ab Ab ⟨_,_,rfl,rfl⟩ ⟨_,_,rfl,rfl⟩;clear hA;have p7:AO w3 (γ 7) (ld G).num:=(AA.get hF 7 Ab).resolve_left Ab;have p8:KH w3 (γ 8) (rv / (ld G).num) (rv % (ld G).num):=(AA.get hF 8 Ab).resolve_left Ab;have p10:AO w3 (γ 10) (rv / (ld G).num):=(AA.get hF 10 Ab).resolve_left Ab;have p12:AZ w3 (γ 12) wr.heap.size #[.bool false,.slice none 0 0] 26:=(AA.get hF 12 Ab).resolve_left Ab
      have p13:AZ w3 (γ 13) wr.heap.size #[.bool false,.slice none 0 0] 26:=(AA.get hF 13 Ab).resolve_left Ab;clear hF;show AC _ _ _ _ 3 [11] 14 _ _;simp only[Bf,Nat.reduceAdd,Ck,Array.getD_eq_getD_getElem?,List.getElem?_toArray,List.getElem?_cons_succ,List.getElem?_cons_zero,Option.getD_some];generalize γ 7=g7 at *;generalize γ 8=g8 at *;generalize γ 10=g10 at *;generalize γ 12=g12 at *;generalize γ 13=g13 at *
      clear γ;obtain⟨a8,b8,rfl,ha8,hb8⟩:=p8
      first | (obtain⟨b7,A7,n7,c7,rfl⟩:=p11.cells;have hy:=p11;clear p11) | (obtain⟨b7,A7,n7,c7,rfl⟩:=hb8.cells;have hy:=hb8)
      clear hb8 ha8;obtain⟨gc,rfl,hgc,ec⟩:=p12;obtain⟨gd,rfl,hgd,ed⟩:=p13;have hcd:gc≠gd:=fun e=>na12x13 (by rw[e]);clear na12x13;obtain⟨b5,A5,n5,c5,rfl⟩:=p10.cells;clear q0 q1 p7 hind;obtain⟨cec0,cec1⟩:=ec.cells2;have fec:=ec.frozen;obtain⟨ced0,ced1⟩:=ed.cells2;have fed:=ed.frozen;refine AC.mk 2 ⟨?_,trivial⟩ (fun _=>?_)
      ·simp only[Bb,List.toList_toArray,List.drop_succ_cons,List.drop_zero,List.take_succ_cons,List.take_zero]
       go_wp2;show AC _ _ _ _ _ [] _ _ _;refine AC.nil ?_;simp only[List.toList_toArray,List.drop_succ_cons,List.drop_zero];go_wp2;skip;obtain⟨W4,eW,ec',U⟩:=ec.put2 (.bool b5) (.slice A5 n5 c5) rfl rfl;rw[←eW];clear eW ec;replace p10:=p10.kd U.kd;replace hy:=hy.kd U.kd;replace ed:=ed.upd U Ai;replace hx3:=U.from_ hx3 Ai;have ec:=ec';clear U ec';obtain⟨W5,eW,ed',U⟩:=ed.put2 (.bool b7) (.slice A7 n7 c7) rfl rfl
       rw[←eW];clear eW ed;replace p10:=p10.kd U.kd;replace hy:=hy.kd U.kd;replace ec:=ec.upd U Ai;replace hx3:=U.from_ hx3 Ai;have ed:=ed';clear U ed'
       go_meet
       case rel=>exact⟨gc,gd,rfl,rfl,Bg.mk ec p10,Bg.mk ed hy,hx3⟩
      ·simp only[Bb,List.toList_toArray,List.drop_succ_cons,List.drop_zero,List.take_succ_cons,List.take_zero]
       go_wp2;refine AC.mk 1 ⟨?_,trivial⟩ (fun h=>by cases(show false=true from h))
       ·simp only[Bb,List.toList_toArray,List.drop_succ_cons,List.drop_zero,List.take_succ_cons,List.take_zero]
        go_wp2;show AC _ _ _ _ _ [] _ _ _;refine AC.nil ?_;simp only[List.toList_toArray,List.drop_succ_cons,List.drop_zero];go_wp2;skip;obtain⟨W4,eW,ec',U⟩:=ec.put2 (.bool b5) (.slice A5 n5 c5) rfl rfl;rw[←eW];clear eW ec;replace p10:=p10.kd U.kd;replace hy:=hy.kd U.kd;replace ed:=ed.upd U Ai;replace hx3:=U.from_ hx3 Ai;have ec:=ec';clear U ec';obtain⟨W5,eW,ed',U⟩:=ed.put2 (.bool b7) (.slice A7 n7 c7) rfl rfl
        rw[←eW];clear eW ed;replace p10:=p10.kd U.kd;replace hy:=hy.kd U.kd;replace ec:=ec.upd U Ai;replace hx3:=U.from_ hx3 Ai;have ed:=ed';clear U ed'
        go_meet
        case rel=>exact⟨gc,gd,rfl,rfl,Bg.mk ec p10,Bg.mk ed hy,hx3⟩
    intro γ w3 hx3 hF hA;have na12x13:γ 12≠γ 13:=hA 12 13 Ab Ab Ab ⟨_,_,rfl,rfl⟩ ⟨_,_,rfl,rfl⟩;clear hA;have p7:AO w3 (γ 7) (ld G).num:=AA.get hF 7 Ab;have p8:KH w3 (γ 8) (rv / (ld G).num) (rv % (ld G).num):=AA.get hF 8 Ab;have p10:AO w3 (γ 10) (rv / (ld G).num):=AA.get hF 10 Ab;have p11:AO w3 (γ 11) (rv % (ld G).num):=AA.get hF 11 Ab;have p12:AZ w3 (γ 12) wr.heap.size #[.bool false,.slice none 0 0] 26:=AA.get hF 12 Ab
    have p13:AZ w3 (γ 13) wr.heap.size #[.bool false,.slice none 0 0] 26:=AA.get hF 13 Ab;clear hF;simp only[Bf,Nat.reduceAdd];generalize γ 7=g7 at *;generalize γ 8=g8 at *;generalize γ 10=g10 at *;generalize γ 11=g11 at *;generalize γ 12=g12 at *;generalize γ 13=g13 at *;clear γ;obtain⟨a8,b8,rfl,ha8,hb8⟩:=p8
    first | (obtain⟨b7,A7,n7,c7,rfl⟩:=p11.cells;have hy:=p11;clear p11) | (obtain⟨b7,A7,n7,c7,rfl⟩:=hb8.cells;have hy:=hb8)
    clear hb8 ha8;obtain⟨gc,rfl,hgc,ec⟩:=p12;obtain⟨gd,rfl,hgd,ed⟩:=p13;have hcd:gc≠gd:=fun e=>na12x13 (by rw[e]);clear na12x13;obtain⟨b5,A5,n5,c5,rfl⟩:=p10.cells;clear q0 q1 p7 hind;obtain⟨cec0,cec1⟩:=ec.cells2;have fec:=ec.frozen;obtain⟨ced0,ced1⟩:=ed.cells2;have fed:=ed.frozen;go_wp2;skip;obtain⟨W4,eW,ec',U⟩:=ec.put2 (.bool b5) (.slice A5 n5 c5) rfl rfl;rw[←eW];clear eW ec;replace p10:=p10.kd U.kd
    replace hy:=hy.kd U.kd;replace ed:=ed.upd U Ai;replace hx3:=U.from_ hx3 Ai;have ec:=ec';clear U ec';obtain⟨W5,eW,ed',U⟩:=ed.put2 (.bool b7) (.slice A7 n7 c7) rfl rfl;rw[←eW];clear eW ed;replace p10:=p10.kd U.kd;replace hy:=hy.kd U.kd;replace ec:=ec.upd U Ai;replace hx3:=U.from_ hx3 Ai;have ed:=ed';clear U ed'
    go_meet
    case rel=>exact⟨gc,gd,rfl,rfl,Bg.mk ec p10,Bg.mk ed hy,hx3⟩
   case rest =>
    clear q0 q1 hind;obtain⟨gc,gd,rfl,rfl,⟨b5,A5,n5,c5,ec,hz⟩,⟨b7,A7,n7,c7,ed,hy⟩,hx3⟩:=hcut;have xw:=hx3;replace hx:=hx.trans hx3;have Hz:=Ad hz;have Hy:=Ad hy;clear hz hy;obtain⟨cec0,cec1⟩:=ec.cells2;have fec:=ec.frozen;obtain⟨ced0,ced1⟩:=ed.cells2;have fed:=ed.frozen
    go_wp2_with fail
    refine Calls.mono (IX _ (rv % (ld G).num) _ (Hy.out.has (by
     have h1:=HQ.out.2.2.1;have h2:(rv % (ld G).num).natAbs≤(ld G).num.natAbs:=by
      have h3:=Int.emod_nonneg rv HQ.out.2.1;have h4:=Int.emod_lt rv HQ.out.2.1;omega
     have h5:=Bp h2;have h6:=HX.out.2.2.2.2.2.2.2.1;omega))) ?_
    rintro e w5 ⟨r5,rfl,rfl,hx5⟩;replace xw:=xw.trans hx5;replace hx:=hx.trans hx5;by_cases hd:(ld G).num∣rv
    ·have hs0:((rv % (ld G).num).sign != 0)=false:=by rw[R8];simpa using hd
     have hz5:=Hz.out.kd hx5.kd;have ec5:=ec.ext hx5;have HD:=Ad (Ak hd hz5);clear hd hz5 ec ed cec0 cec1 fec ced0 ced1 fed hx3 hx5 Hy Hz;obtain⟨cec50,cec51⟩:=ec5.cells2;have fec5:=ec5.frozen;obtain⟨z,hzz⟩:∃ z,z=rv / (ld G).num:=⟨_,rfl⟩
     rw[←hzz]at HD;have hk:=Hq.out.2.2.1;have hkn:k < n:=by have:=HN.out.2.2;omega
     have hst:=HS.out.1;rw[Hq.out.2.2.2]at hst;have hzv:R (k+pl G - 1)=(z:Rat)*ld G:=by
      rw[hzz,Hq.out.2.1,←HQ.out.2.2.2];exact hst.yes HX.out.2.2.2.1 (by rw[HQ.out.2.2.2,←Hq.out.2.1];exact HD.out.1)
     have hzq:qsz (z:Rat)≤qsz (R (k+pl G - 1)):=Nu (D8 HX.out.2.2.1 HX.out.2.2.2.2.1) (HX.out.2.2.2.1 _) hzv;have hrq:=hst.2.2.2.2.2.2 (k+pl G - 1);have hbb:=HX.out.2.2.2.2.2.2.1 _ (show n - (k+1)≤n by omega) _ hrq;have hz0:z≠0:=fun e=>by
      have h1:R (pl R - 1)≠0:=Ex hst.fin (by have:=Be HX.out.2.2.1 HX.out.2.2.2.2.1;omega)
      apply h1
      rw[←HQ.out.2.2.2,hzv,e];show((0:Int):Rat)*ld G=0;simp
     have hst2:=hst.step HX.out.2.2.1 HX.out.2.2.2.2.1 HX.out.2.2.2.1 HX.out.2.2.2.2.2.1 hkn hzv;have hplR:=Bq hst2.2.2.1;have hpG:=Be HX.out.2.2.1 HX.out.2.2.2.2.1;have HZ:=Ad (show EJ F G n s t (pl (psb R (cv (mono k (z:Rat)) G))+1 - pl G) (pad Q (mono k (z:Rat))) (psb R (cv (mono k (z:Rat)) G))∧pl (psb R (cv (mono k (z:Rat)) G)) < pl R∧z≠0∧qsz (z:Rat)+1≤M∧(∀ i,qsz (cv (mono k (z:Rat)) G i)≤2*M)∧(∀ i,qsz (mono k (z:Rat) i)≤M)∧(∀ i,qsz (pad Q (mono k (z:Rat)) i)≤M)∧(∀ i,qsz (R i)≤M)∧pl (cv (mono k (z:Rat)) G)≤549755813888∧pl (mono k (z:Rat))≤549755813888∧pl Q≤549755813888 from by
      have o1:qsz (0:Rat)=1:=by decide
      have o2:=Cg (z:Rat);have hmn:∀ i,qsz (mono k (z:Rat) i)≤M:=fun i=>by
       unfold mono;split<;>omega
      refine⟨hst2.lower Aa ((AU hst2.fin).mono Aa),Aa,hz0,Aa,fun i=>?_,hmn,fun i=>?_,fun i=>?_,?_,?_,?_⟩
      ·rw[EX]
       show qsz ((z:Rat)*sh k G i)≤_;have a1:=BR (z:Rat) (sh k G i);have a2:qsz (sh k G i)≤M:=by
        unfold sh;split
        ·omega
        ·have:=HX.out.2.2.2.2.2.1 (i - k);have:=HX.out.2.2.2.2.2.2.2.2;omega
       omega
      ·by_cases e:i=k
       ·subst e
        show qsz (Q i+mono i (z:Rat) i)≤M;rw[hst.1 i Aa,Rat.zero_add];exact hmn i
       ·show qsz (Q i+mono k (z:Rat) i)≤M
        rw[Ez e,Rat.add_zero];exact HS.out.2.1 i
      ·have h1:=hst.2.2.2.2.2.2 i
       have:=HX.out.2.2.2.2.2.2.1 _ (show n - (k+1)≤n by omega) _ h1;omega
      ·have:=Bq ((CX k (z:Rat)).cv (AU HX.out.2.2.1));omega
      ·have:=Bq (CX k (z:Rat));omega
      ·have:=Bq hst.2.1;have:=HN.out.2.2;omega)
     have hkk:(pl R:Int) - 1 - ((pl G:Int) - 1)=(k:Nat):=by omega
     have hkl:k≤l.length:=by omega
     have hplRb:pl R≤549755813888:=by omega
     have hzrow:Dt 0 (w5.alloc (.cells #[.bool b5,.slice A5 n5 c5] 26)) (.slice (some ⟨w5.heap.size,0,none⟩) 1 1) [z]:=
      LG.has (CE.row (Es.own (Es.mk HD.out.2 (base:=0) (Nat.zero_le _) 26))) (fun x hx=>by
       simp at hx;subst hx;have h1:sz x.natAbs≤qsz (x:Rat):=by rw[Bi];omega
       have h2:=HX.out.2.2.2.2.2.2.2.1;omega)
     have HR:=Ad hzrow;clear hst hzv hzq hrq hbb hz0 hst2 hplR hzz hzrow hk
     go_wp2_with fail
     refine AL (Oj _ z k _ HR.out HZ.out.2.2.1 Aa) ?_;rintro r6 w6 hr6 hx6;replace xw:=(xw.alloc _).trans hx6;replace hx:=(hx.alloc _).trans hx6;have H6:=Ad hr6;clear hr6 hx6 HR hkk
     go_wp2_with fail
     refine AL (gI _ _ Q (mono k (z:Rat)) M M _ (HS.out.2.2.2.2.2.2.ext xw) H6.out HS.out.2.1 HZ.out.2.2.2.2.2.1 (by have:=HX.out.2.2.2.2.2.2.2.1;omega) HZ.out.2.2.2.2.2.2.2.2.2.2 HZ.out.2.2.2.2.2.2.2.2.2.1) ?_;rintro r7 w7 hr7 hx7;obtain⟨A7,c7,rfl,-⟩:=hr7.shape;have h6:=H6.out.ext hx7;have H7:=Ad hr7;replace xw:=xw.trans hx7;replace hx:=hx.trans hx7;have H6':=Ad h6;clear h6 hx7 hr7 H6
     go_wp2_with fail
     refine AL (HC.out.2.2 k z _ hx _ H6'.out Aa (by have:=HZ.out.2.2.2.1;omega)) ?_;rintro r8 w8 hr8 hx8;have h7:=H7.out.ext hx8;replace xw:=xw.trans hx8;replace hx:=hx.trans hx8;have H8:=Ad (Ak hr8 h7);clear hr8 h7 hx8 H7 H6'
     go_wp2_with fail
     refine AL (iW _ _ R (cv (mono k (z:Rat)) G) M (2*M) _ (HS.out.2.2.2.2.2.1.ext xw) H8.out.1 HZ.out.2.2.2.2.2.2.2.1 HZ.out.2.2.2.2.1 (by have:=HX.out.2.2.2.2.2.2.2.1;omega) hplRb HZ.out.2.2.2.2.2.2.2.2.1) ?_;rintro r9 w9 hr9 hx9;have h8:=H8.out.2.ext hx9;replace hx:=hx.trans hx9;obtain⟨A9,c9,rfl,-⟩:=hr9.shape;have H9:=Ad (Ak hr9 h8);clear hr9 h8 hx9 H8;go_wp2
     go_roundw
     case rel=>exact⟨_,_,H9.out.1,H9.out.2,HZ.out.1,by have:=HZ.out.2.1;omega,HZ.out.2.2.2.2.2.2.1,hx⟩
     case measure=>exact HZ.out.2.1
    ·have hs0:((rv % (ld G).num).sign != 0)=true:=by rw[R8];simpa using hd
     have hno:¬ GZ F G:=by
      have h1:=HS.out.1;rw[Hq.out.2.2.2]at h1;exact h1.no HX.out.2.2.1 HX.out.2.2.2.2.1 HX.out.2.2.2.1 (by rw[HQ.out.2.2.2,←Hq.out.2.1];exact hd)
     have HNo:=Ad hno;clear hno hd;go_wp2
     go_ret2
     exact Ah.mk ⟨_,false,rfl,⟨_,_,_,rfl⟩,⟨fun h=>absurd h Ab,fun h=>absurd h HNo.out⟩,fun h=>absurd h Ab⟩ hx
  ·have hfR:=HS.out.1.fin
   have hzd:GZ F G↔R=pz:=by rw[HS.out.1.zdv,Uw hfR HX.out.2.2.1 Aa]
   by_cases hp:pl R=0
   ·have hRz:=(BG hfR).1 hp
    have hQq:Q=pq F G:=by
     have h1:=HS.out.1.2.2.2.1;exact(GU HX.out.1 HX.out.2.2.1 HX.out.2.2.2.2.1 ⟨_,HS.out.1.2.1⟩ h1 (by rw[hRz];exact BB.pz _)).1
    have HY:=Ad (Ak (hzd.2 hRz) hQq);clear hfR hzd hRz hQq hle;rw[hp];go_wp2
    go_ret2
    exact Ah.mk ⟨_,true,rfl,⟨_,_,_,rfl⟩,⟨fun _=>HY.out.1,fun _=>rfl⟩,fun _=>by rw[←HY.out.2];exact HS.out.2.2.2.2.2.2⟩ hx
   ·have hno:¬ GZ F G:=fun h=>hp (by rw[hzd.1 h,Ca])
    have hb:((pl R:Int)==0)=false:=by simpa using hp
    have HY:=Ad hno;clear hfR hzd hno hp;go_wp2
    go_ret2
    exact Ah.mk ⟨_,false,rfl,⟨_,_,_,rfl⟩,⟨fun h=>absurd h Ab,fun h=>absurd h HY.out⟩,fun h=>absurd h Ab⟩ hx
end Go.Proofs.YtmhgnigpmompmaaGreat
namespace Go.Hp
open Go.RowKit
structure Mf(F G:Nat→Rat)(n s t j:Nat)(Q R:Nat→Rat):Prop where
 eq:psc (ld G^j) F=pad (cv Q G) R
 zQ:ZI Q
 zR:ZI R
 fQ:BB n Q
 fR:Af R
 deg:pl R+j≤pl F
 qQ:∀ i,qsz (Q i)≤s+j*(t+1)
 qR:∀ i,qsz (R i)≤s+j*(t+1)
theorem Mf.start{F G:Nat→Rat}{n s t:Nat}(hF:Af F)(hz:ZI F)(hs:∀ i,qsz (F i)≤s):Mf F G n s t 0 pz F where
 eq:=by rw[Rat.pow_zero,Cn,CG];funext m;simp only[pad,pz];grind
 zQ:=ZI.pz
 zR:=hz
 fQ:=BB.pz n
 fR:=hF
 deg:=Nat.le_refl _
 qQ:=fun i=>by have h1:=Cg (F 0);have h2:=hs 0;show qsz 0≤_;have:qsz (0:Rat)=1:=Ab;omega
 qR:=fun i=>by have:=hs i;omega
theorem Mf.step{F G:Nat→Rat}{n s t j:Nat}{Q R:Nat→Rat}(h:Mf F G n s t j Q R)(hn:n=pl F+1 - pl G)(fG:Af G)(h0:G≠pz)(zG:ZI G)(ht:∀ i,qsz (G i)≤t)(hl:pl G≤pl R){k:Nat}(hk:k=pl R - pl G){x:Int}(hx:(x:Rat)=R (pl R - 1)) :
  Mf F G n s t (j+1) (pad (psc (ld G) Q) (mono k (x:Rat))) (psb (psc (ld G) R) (cv (mono k (x:Rat)) G))∧pl (psb (psc (ld G) R) (cv (mono k (x:Rat)) G)) < pl R:=by
 have hp:=Be fG h0;have hld:=D8 fG h0;have zl:∃ y:Int,ld G=(y:Rat):=zG _;obtain⟨y,hy⟩:=zl;have hsup:BB (k+pl G) (psc (ld G) R):=((AU h.fR).mono Aa).psc _;have e1:(x:Rat)=psc (ld G) R (k+pl G - 1) / ld G:=by
  show _=ld G*R (k+pl G - 1) / ld G;rw[show k+pl G - 1=pl R - 1 from Aa,←hx];grind
 have hs2:BB (k+pl G - 1) (psb (psc (ld G) R) (cv (mono k (x:Rat)) G)):=by
  rw[e1];exact F3 fG h0 hsup
 have hle:=Bq hs2;have hxq:qsz (x:Rat)≤s+j*(t+1):=by rw[hx];exact h.qR _
 have hlq:qsz (ld G)≤t:=ht _;have hj:(j+1)*(t+1)=j*(t+1)+(t+1):=Nat.succ_mul _ _;have o1:qsz (0:Rat)=1:=by decide
 have zsR:ZI (psc (ld G) R):=by rw[hy];exact h.zR.psc y
 have zsQ:ZI (psc (ld G) Q):=by rw[hy];exact h.zQ.psc y
 refine⟨⟨?_,zsQ.pad (ZI.mono k x),zsR.psb ((ZI.mono k x).cv zG),(h.fQ.psc _).pad ((CX k _).mono (by have:=h.deg;omega)),⟨_,hs2⟩,by have:=h.deg;omega,fun i=>?_,fun i=>?_⟩,Aa⟩
 ·have e2:psc (ld G^(j+1)) F=psc (ld G) (psc (ld G^j) F):=by
   rw[Cu,Rat.pow_succ,Rat.mul_comm]
  rw[e2,h.eq,Dk,D6]
  funext m;simp only[psc,pad,psb];grind
 ·have a1:=QN zsQ (ZI.mono k x) i i
  have a2:qsz (psc (ld G) Q i)≤qsz (ld G)+qsz (Q i):=BR _ _;have a3:=h.qQ i;have a4:qsz (mono k (x:Rat) i)≤s+j*(t+1):=by
   unfold mono;split
   ·exact hxq
   ·have:=Cg (x:Rat);omega
  show qsz (psc (ld G) Q i+mono k (x:Rat) i)≤_;omega
 ·have a1:=MX zsR ((ZI.mono k x).cv zG) i i
  have a2:qsz (psc (ld G) R i)≤qsz (ld G)+qsz (R i):=BR _ _;have a3:=h.qR i;have a4:qsz (cv (mono k (x:Rat)) G i)≤qsz (x:Rat)+t:=by
   rw[EX];show qsz ((x:Rat)*sh k G i)≤_;have b1:=BR (x:Rat) (sh k G i);have b2:qsz (sh k G i)≤t:=by
    unfold sh;split
    ·have:=Cg (ld G);omega
    ·exact ht _
   omega
  show qsz (psc (ld G) R i - cv (mono k (x:Rat)) G i)≤_;omega
theorem Qb(a:Rat)(m:Nat):∀ n:Nat,a^(m+n)=a^m*a^n
 | 0=>by rw[Nat.add_zero,Rat.pow_zero,Rat.mul_one]
 | n+1=>by rw[←Nat.add_assoc,Rat.pow_succ,Qb a m n,Rat.pow_succ,Rat.mul_assoc]
theorem Mf.end_{F G:Nat→Rat}{n s t j:Nat}{Q R:Nat→Rat}(h:Mf F G n s t j Q R)(hn:n=pl F+1 - pl G)(fF:Af F)(fG:Af G)(h0:G≠pz)(hl:pl R < pl G)(hj:j≤n) :
  psc (ld G^(n - j)) Q=G7 F G n∧psc (ld G^(n - j)) R=De F G n:=by
 have hp:=Be fG h0;have e1:psc (ld G^n) F=pad (cv (psc (ld G^(n - j)) Q) G) (psc (ld G^(n - j)) R):=by
  have e2:ld G^n=ld G^(n - j)*ld G^j:=by rw[←Qb];congr 1;omega
  rw[e2,←Cu,h.eq,D6]
  funext m;simp only[psc,pad];grind
 have e3:psc (ld G^n) F=pad (cv (psc (ld G^n) (pq F G)) G) (psc (ld G^n) (pr F G)):=by
  rw[D6];have h1:=Ko F G
  funext m
  have h2:=congrFun h1 m;simp only[psc,pad]at h2 ⊢;rw[h2];grind
 have h1:=MJ fG (Af.psc _ ⟨n,h.fQ⟩) ((DJ F G).psc _) h0 e1 e3 (((AU h.fR).mono Aa).psc _) ((Ea fF fG h0).psc _);have h2:=Kb fF fG h0;rw[←hn]at h2;exact⟨h1.1.trans h2.1.symm,h1.2.trans h2.2.symm⟩
def aT(F G:Nat→Rat)(r:Value)(w:World):Prop:=∃ q m,r = .tuple #[q,m]∧AP 0 w q F∧AP 0 w m G
end Go.Hp
namespace Go.Proofs.YtmhgnigpmompmaaGreat
open Go.RowKit Go.Hp
set_option maxRecDepth 20000 in
theorem YH(v u:Value)(l m:List Int)(s t M:Nat)(w:World)(hv:Dt 0 w v l)(hu:Dt 0 w u m)(hs:∀ i,qsz (cz l i)≤s)(ht:∀ i,qsz (cz m i)≤t)(hn:l.length≤1000000)(hm:m.length≤1000000)(h0:cz m≠pz)(hM:s+(l.length+2)*(t+1)+t+1≤M)(hst:2+(l.length+m.length+4)*(2*M+4)≤274877906944) :
  Bh 141 #[v,u] w ((aT (G7 (cz l) (cz m) (pl (cz l)+1 - pl (cz m))) (De (cz l) (cz m) (pl (cz l)+1 - pl (cz m))))):=by
 have HV:=Ad hv;have HU:=Ad hu;obtain⟨A0,c0,rfl⟩:=hv.len;obtain⟨A1,c1,rfl⟩:=hu.len;clear hv hu;have hN1:=fun W (x:Ext w W)=>CW _ l W (HV.out.ext x) Aa;have hD:=fun W (x:Ext w W)=>Fw _ m W (HU.out.ext x) Aa;have hLd:=fun W (x:Ext w W)=>KG _ m W (HU.out.ext x) Aa;have hc1:=Bq (BK l);have hc2:=Bq (BK m);have hfF:=Af.cz l;have hzF:=ZI.cz l;have hfG:=Af.cz m;have hzG:=ZI.cz m;have hL:=Be hfG h0;have hMb:4*M+12≤274877906944:=by
  have:4*(2*M+4)≤(l.length+m.length+4)*(2*M+4):=Nat.mul_le_mul_right _ Aa;omega
 have hMul:=fun(k:Nat) (z:Int) (W:World) (x:Ext w W) (v:Value) (hv:AP 0 W v (mono k (z:Rat))) (hk:k≤l.length) (hz:qsz (z:Rat)≤M)=>show Bh 23 #[v,.slice A1 m.length c1] W (fun r w'=>AP 0 w' r (cv (mono k (z:Rat)) (cz m)))from by
  have hq:∀ i,qsz (mono k (z:Rat) i)≤M:=fun i=>by
   unfold mono;split
   ·exact hz
   ·have:qsz (0:Rat)=1:=by decide
    have:=Cg (z:Rat);omega
  have hp:=Bq (CX k (z:Rat));obtain⟨l2,g1,g2,-,g4⟩:=hv.hz (fun i=>by have:=hq i;omega);rw[←g4];refine Ah.imp (TP _ _ l2 m M t W g1 (HU.out.ext x) (by rw[g4];exact hq) ht ?_ Aa Aa) fun _ _ h=>h.base_le (Nat.zero_le _);have h1:(l2.length+m.length)*(M+t+1)≤(l.length+m.length+4)*(2*M+4):=Nat.mul_le_mul Aa Aa;omega
 obtain⟨F,hF⟩:∃ F,F=cz l:=⟨_,rfl⟩
 obtain⟨G,hG⟩:∃ G,G=cz m:=⟨_,rfl⟩
 rw[←hF]at hs hc1 hfF hzF;rw[←hG]at hc2 hfG hzG hL ht h0;simp only[←hF]at hN1;simp only[←hG]at hD hLd hMul;rw[←hF,←hG];obtain⟨n,hnn⟩:∃ n,n=pl F+1 - pl G:=⟨_,rfl⟩
 rw[←hnn];have hnl:n≤l.length+1:=by omega
 have hbig:∀ k,k≤n→∀ q,q≤s+k*(t+1)→q+1≤M∧q+t+1≤M:=fun k hk q hq=>by
  have:k*(t+1)≤(l.length+2)*(t+1):=Nat.mul_le_mul_right _ Aa;omega
 have htM:t+1≤M:=by omega
 have hst0:Mf F G n s t 0 pz F:=Mf.start hfF hzF hs;have hlr:∀ j,j≤n→2+(j+1)*t≤549755813888∧1+j*t≤M:=fun j hj=>by
  have h1:(j+1)*t≤(l.length+2)*(t+1):=Nat.mul_le_mul Aa Aa;have h2:j*t≤(l.length+2)*(t+1):=Nat.mul_le_mul Aa Aa;omega
 have HX:=Ad (Ak hfF (Ak hzF (Ak hfG (Ak hzG (Ak h0 (Ak ht (Ak hbig (Ak hMb (Ak htM hlr)))))))));have HC:=Ad (Ak hD (Ak hLd hMul));have HN:=Ad (Ak hN1 (Ak hst0 hnn));have HLG:=Ad (show sz (ld G).num.natAbs≤1099511627776∧qsz (((ld G).num:Int):Rat)≤M∧(((ld G).num:Int):Rat)=ld G∧sz (ld G).num.natAbs≤t from by
  have e:(((ld G).num:Int):Rat)=ld G:=(hzG.num _).symm;have h1:qsz (ld G)≤t:=ht _;have h2:=ES h1;exact⟨Aa,by rw[e];omega,e,h2⟩)
 have hmax:max 0 ((pl F:Int) - 1 - ((pl G:Int) - 1)+1)=(n:Nat):=by omega
 clear hs ht hfF hzF hfG hzG h0 hF hG hD hLd hMul hN1 hst hM hbig hst0 hMb htM hlr HV HU hnn
 go_enter Tryz.func141,Tryz.ntmps141
 go_wp2_with fail
 refine AL (HN.out.1 _ ((Ext.refl w).alloc _)) ?_;rintro r1 w1 hr1 hx;obtain⟨A2,c2,rfl,-⟩:=hr1.shape;have H1:=Ad (hr1.base_le (b:=0) (Nat.zero_le _));clear hr1;replace hx:=hx.a1
 go_wp2_with fail
 refine AL (HC.out.1 w1 hx) ?_;rintro r2 w2 rfl hx2;have h1:=H1.out.ext hx2;replace hx:=hx.trans hx2;have H2:=Ad h1;clear hx2 H1 h1
 go_wp2_with fail
 refine AL (HC.out.2.1 w2 hx) ?_;rintro r3 w3 hr3 hx3;obtain⟨b5,A5,n5,c5,rfl⟩:=hr3.cells;obtain⟨W4,eW,eb,x4⟩:=Bj.made w3 26 #[.bool b5,.slice A5 n5 c5] (by simp[Ag]);have hl4:=hr3.kd x4.kd;have h2:=H2.out.ext (hx3.trans x4);replace hx:=hx.trans (hx3.trans x4);have HL:=Ad hl4;have H3:=Ad h2;clear hr3 hl4 h2 hx3 x4 H2;go_wp2;rw[←eW];clear eW;generalize w3.heap.size=gl at *
 go_loopw [6,7,10] (fun qv rv kv wr=>∃ (j:Nat) (Q R:Nat→Rat),kv = .int .i64 ((n:Int) - j)∧j≤n∧Mf F G n s t j Q R∧AP 0 wr rv R∧AP 0 wr qv Q∧Bg wr gl 26 (ld G).num∧Ext w wr) (fun _ rv _ _=>NS rv)
 case atStart=>exact⟨0,pz,F,Ac,Nat.zero_le _,HN.out.2.1,H3.out,AP.empty 0 _ _ _ Aa,Bg.mk eb HL.out,hx⟩
 case round =>
  clear hx eb HL H3 hmax;obtain⟨j,Q,R,rfl,hj,hst,hR,hQ,⟨b6,A6,n6,c6,eb,hl⟩,hx⟩:=hrel;obtain⟨AR,cR,lr,rfl,j1,j2,hA,j3,j4,j5⟩:=hR.form;obtain⟨AQ,cQ,rfl,-⟩:=hQ.shape;have HS:=Ad (Ak hst (Ak hA (Ak j3 (Ak j5 (Ak hR (Ak hQ hl))))));clear hst hA j3 j4 j5 hR hQ hl;by_cases hle:pl G≤pl R
  ·obtain⟨k,hk⟩:∃ k,k=pl R - pl G:=⟨_,rfl⟩
   have hlt:pl R - 1 < lr.length:=by have:=HS.out.2.2.1;omega
   obtain⟨g,o,b,B1,n1,d1,rfl,-,q0,q1,hq⟩:=HS.out.2.1.at_ (j:=pl R - 1) hlt;have hval:=TM HS.out.2.2.2.1 (i:=pl R - 1) hlt;rw[hval]at hq;obtain⟨z,hzz⟩:∃ z,z=(R (pl R - 1)).num:=⟨_,rfl⟩
   rw[←hzz]at hq;have hind:((pl R:Int) - 1).toNat=pl R - 1:=by omega
   have hkk:(pl R:Int) - 1 - ((pl G:Int) - 1)=(k:Nat):=by omega
   have hjn:j < n:=by have:=HS.out.1.deg;have:=HN.out.2.2;omega
   have hzc:(z:Rat)=R (pl R - 1):=by rw[hzz];exact(HS.out.1.zR.num _).symm
   have hst2:=HS.out.1.step HN.out.2.2 HX.out.2.2.1 HX.out.2.2.2.2.1 HX.out.2.2.2.1 HX.out.2.2.2.2.2.1 hle hk hzc;have HZ:=Ad (show Mf F G n s t (j+1) (pad (psc (ld G) Q) (mono k (z:Rat))) (psb (psc (ld G) R) (cv (mono k (z:Rat)) G))∧pl (psb (psc (ld G) R) (cv (mono k (z:Rat)) G)) < pl R∧z≠0∧qsz (z:Rat)+1≤M∧(∀ i,qsz (cv (mono k (z:Rat)) G i)≤2*M)∧(∀ i,qsz (mono k (z:Rat) i)≤M)∧(∀ i,qsz (psc (ld G) Q i)≤2*M)∧(∀ i,qsz (psc (ld G) R i)≤2*M)∧(∀ i,qsz (Q i)≤M)∧(∀ i,qsz (R i)≤M)∧pl (cv (mono k (z:Rat)) G)≤549755813888∧pl (mono k (z:Rat))≤549755813888∧pl Q≤549755813888∧pl (psc (ld G) Q)≤549755813888∧pl (psc (ld G) R)≤549755813888∧pl R≤549755813888∧k≤l.length from by
    have o1:qsz (0:Rat)=1:=by decide
    have o2:=Cg (z:Rat);have hpG:=Be HX.out.2.2.1 HX.out.2.2.2.2.1;have hdeg:=HS.out.1.deg;have hQs:∀ i,qsz (Q i)≤M:=fun i=>by have:=HX.out.2.2.2.2.2.2.1 _ hj _ (HS.out.1.qQ i);omega
    have hRs:∀ i,qsz (R i)≤M:=fun i=>by have:=HX.out.2.2.2.2.2.2.1 _ hj _ (HS.out.1.qR i);omega
    have hzq:qsz (z:Rat)+1≤M:=by rw[hzc];have:=HX.out.2.2.2.2.2.2.1 _ hj _ (HS.out.1.qR (pl R - 1));omega
    have hlG:qsz (ld G)≤M:=by have h1:qsz (ld G)≤t:=HX.out.2.2.2.2.2.1 _;have:=HX.out.2.2.2.2.2.2.2.2.1;omega
    have hQp:=Bq HS.out.1.fQ;refine⟨hst2.1,hst2.2,fun e=>?_,hzq,fun i=>?_,fun i=>?_,fun i=>?_,fun i=>?_,hQs,hRs,?_,?_,?_,?_,?_,?_,?_⟩
    ·have h1:R (pl R - 1)≠0:=Ex HS.out.1.fR Aa
     apply h1;rw[←hzc,e];rfl
    ·rw[EX]
     show qsz ((z:Rat)*sh k G i)≤_;have a1:=BR (z:Rat) (sh k G i);have a2:qsz (sh k G i)≤M:=by
      unfold sh;split
      ·omega
      ·have:=HX.out.2.2.2.2.2.1 (i - k);have:=HX.out.2.2.2.2.2.2.2.2.1;omega
     omega
    ·unfold mono;split<;>omega
    ·have a1:=BR (ld G) (Q i);have a2:=hQs i;show qsz (ld G*Q i)≤_;omega
    ·have a1:=BR (ld G) (R i);have a2:=hRs i;show qsz (ld G*R i)≤_;omega
    ·have:=Bq ((CX k (z:Rat)).cv (AU HX.out.2.2.1));omega
    ·have:=Bq (CX k (z:Rat));omega
    ·omega
    ·have:=Bq (HS.out.1.fQ.psc (ld G));omega
    ·have:=Bq ((AU HS.out.1.fR).psc (ld G));omega
    ·omega
    ·omega)
   have Hq:=Ad (Ak hq (Ak hk hzc));clear hq hk hzc hval hst2 hzz;have xw:=Ext.refl wr
   go_wp2_with fail
   have hzrow:Dt 0 (wr.alloc (.cells #[.bool b,.slice B1 n1 d1] 26)) (.slice (some ⟨wr.heap.size,0,none⟩) 1 1) [z]:=
    LG.has (CE.row (Es.own (Es.mk Hq.out.1 (base:=0) (Nat.zero_le _) 26))) (fun x hx=>by
     simp at hx;subst hx;have h1:sz x.natAbs≤qsz (x:Rat):=by rw[Bi];omega
     have h2:=HX.out.2.2.2.2.2.2.2.1;have h3:=HZ.out.2.2.2.1;omega)
   have HR:=Ad hzrow;clear hzrow;refine AL (Oj _ z k _ HR.out HZ.out.2.2.1 (by have:=HZ.out.2.2.2.2.2.2.2.2.2.2.2.2.2.2.2.2;omega)) ?_;rintro r6 w6 hr6 hx6;replace xw:=(xw.alloc _).trans hx6;replace hx:=(hx.alloc _).trans hx6;replace eb:=(eb.alloc _).ext hx6;have H6:=Ad hr6;have hl6:=HS.out.2.2.2.2.2.2.kd xw.kd;have HL6:=Ad hl6;clear hr6 hx6 HR hkk hind q0 q1 hl6;obtain⟨ceb0,ceb1⟩:=eb.cells2;have feb:=eb.frozen
   go_wp2_with fail
   refine AL (Ll _ _ Q (ld G).num M _ (HS.out.2.2.2.2.2.1.ext xw) (HL6.out.has HLG.out.1) HZ.out.2.2.2.2.2.2.2.2.1 (by have:=HLG.out.2.1;have:=HX.out.2.2.2.2.2.2.2.1;omega) HZ.out.2.2.2.2.2.2.2.2.2.2.2.2.1) ?_;rintro r7 w7 hr7 hx7;rw[HLG.out.2.2.1]at hr7;have h6:=H6.out.ext hx7;replace xw:=xw.trans hx7;replace hx:=hx.trans hx7;have H7:=Ad (Ak hr7 h6);have HL7:=Ad (HL6.out.kd hx7.kd);replace eb:=eb.ext hx7
   clear hr7 h6 hx7 H6 HL6 ceb0 ceb1 feb
   go_wp2_with fail
   refine AL (gI _ _ (psc (ld G) Q) (mono k (z:Rat)) (2*M) M _ H7.out.1 H7.out.2 HZ.out.2.2.2.2.2.2.1 HZ.out.2.2.2.2.2.1 (by have:=HX.out.2.2.2.2.2.2.2.1;omega) HZ.out.2.2.2.2.2.2.2.2.2.2.2.2.2.1 HZ.out.2.2.2.2.2.2.2.2.2.2.2.1) ?_;rintro r8 w8 hr8 hx8;obtain⟨A8,c8,rfl,-⟩:=hr8.shape;have h7:=H7.out.2.ext hx8;replace xw:=xw.trans hx8;replace hx:=hx.trans hx8;have H8:=Ad (Ak hr8 h7);have HL8:=Ad (HL7.out.kd hx8.kd)
   replace eb:=eb.ext hx8;clear hr8 h7 hx8 H7 HL7;obtain⟨ceb0,ceb1⟩:=eb.cells2;have feb:=eb.frozen
   go_wp2_with fail
   refine AL (Ll _ _ R (ld G).num M _ (HS.out.2.2.2.2.1.ext xw) (HL8.out.has HLG.out.1) HZ.out.2.2.2.2.2.2.2.2.2.1 (by have:=HLG.out.2.1;have:=HX.out.2.2.2.2.2.2.2.1;omega) HZ.out.2.2.2.2.2.2.2.2.2.2.2.2.2.2.2.1) ?_;rintro r9 w9 hr9 hx9;rw[HLG.out.2.2.1]at hr9;have h8:=H8.out.1.ext hx9;have h8':=H8.out.2.ext hx9;replace hx:=hx.trans hx9;have H9:=Ad (Ak hr9 (Ak h8 h8'));have HL9:=Ad (HL8.out.kd hx9.kd)
   replace eb:=eb.ext hx9;clear hr9 h8 h8' hx9 H8 HL8 ceb0 ceb1 feb
   go_wp2_with fail
   refine AL (HC.out.2.2 k z _ hx _ H9.out.2.2 HZ.out.2.2.2.2.2.2.2.2.2.2.2.2.2.2.2.2 (by have:=HZ.out.2.2.2.1;omega)) ?_;rintro r10 w10 hr10 hx10;have h9:=H9.out.1.ext hx10;have h9':=H9.out.2.1.ext hx10;replace hx:=hx.trans hx10;have H10:=Ad (Ak hr10 (Ak h9 h9'));have HL10:=Ad (HL9.out.kd hx10.kd);replace eb:=eb.ext hx10;clear hr10 h9 h9' hx10 H9 HL9
   go_wp2_with fail
   refine AL (iW _ _ (psc (ld G) R) (cv (mono k (z:Rat)) G) (2*M) (2*M) _ H10.out.2.1 H10.out.1 HZ.out.2.2.2.2.2.2.2.1 HZ.out.2.2.2.2.1 (by have:=HX.out.2.2.2.2.2.2.2.1;omega) HZ.out.2.2.2.2.2.2.2.2.2.2.2.2.2.2.1 HZ.out.2.2.2.2.2.2.2.2.2.2.1) ?_;rintro r11 w11 hr11 hx11;obtain⟨A11,c11,rfl,-⟩:=hr11.shape;have h10:=H10.out.2.2.ext hx11;replace hx:=hx.trans hx11;have H11:=Ad (Ak hr11 h10);have HL11:=Ad (HL10.out.kd hx11.kd)
   replace eb:=eb.ext hx11;clear hr11 h10 hx11 H10 HL10;go_wp2
   go_roundw
   case rel=>exact⟨j+1,_,_,by go_num,Aa,HZ.out.1,H11.out.1,H11.out.2,Bg.mk eb HL11.out,hx⟩
   case measure=>exact HZ.out.2.1
  ·have hend:=HS.out.1.end_ HN.out.2.2 HX.out.1 HX.out.2.2.1 HX.out.2.2.2.2.1 Aa hj
   have hnj:(n:Int) - j=((n - j:Nat):Int):=by omega
   have hsz:=HX.out.2.2.2.2.2.2.2.2.2 (n - j) Aa;have hpw:=Gf (ld G).num t HLG.out.2.2.2 (n - j);have hQs:∀ i,qsz (Q i)≤M:=fun i=>by have:=HX.out.2.2.2.2.2.2.1 _ hj _ (HS.out.1.qQ i);omega
   have hRs:∀ i,qsz (R i)≤M:=fun i=>by have:=HX.out.2.2.2.2.2.2.1 _ hj _ (HS.out.1.qR i);omega
   have hQp:=Bq HS.out.1.fQ;have hpc:(((ld G).num^(n - j):Int):Rat)=ld G^(n - j):=by rw[←J3,HLG.out.2.2.1]
   have hql:qsz (((ld G).num^(n - j):Int):Rat)≤M+1:=by rw[Bi];omega
   have HE:=Ad (Ak hend (Ak hsz (Ak hpw (Ak hQs (Ak hRs (Ak (show pl Q≤549755813888 by omega) (Ak (show pl R≤549755813888 by have:=HS.out.1.deg;omega) (Ak hpc hql))))))));clear hend hsz hpw hQs hRs hQp hpc hql;have hnb:n - j≤1099511627776:=by omega
   obtain⟨ceb0,ceb1⟩:=eb.cells2;have feb:=eb.frozen
   go_wp2_with fail
   (try rw[hnj])
   refine AL (WB _ (ld G).num (n - j) t _ (HS.out.2.2.2.2.2.2.has HLG.out.1) HLG.out.2.2.2 HE.out.2.1.1 hnb) ?_;rintro r6 w6 hr6 hx6;obtain⟨b7,A7,n7,c7,rfl⟩:=hr6.cells;obtain⟨W7,eW7,e7,x7⟩:=Bj.made w6 26 #[.bool b7,.slice A7 n7 c7] (by simp[Ag]);have xw:=hx6.trans x7;have hp7:=hr6.kd x7.kd;replace hx:=hx.trans xw;have H7:=Ad hp7;clear hr6 hp7 hx6 x7 ceb0 ceb1 feb hnj
   go_upto_region 11 with(fail)
   rw[←eW7];clear eW7;generalize w6.heap.size=g7 at *;obtain⟨q0,q1⟩:=e7.cells2
   go_wp2_with fail
   obtain⟨Rr,hRr⟩:∃ Rr,Rr=R:=⟨_,rfl⟩
   have HRr:=Ad hRr;clear hRr;refine Ae 8 [62,63,64,65,66,67,4,5] [[],[],[0,1],[],[],[0,1,2,3,4],[0,1,2,3,4,5],[0,1,2,3,4,5,6]] [6,12,7] [_,_,_] [(kv ?_),(kv ?_),(fun γ=>γ 2),(kv ?_),(kv ?_),(fun γ=>γ 5),(fun γ=>γ 2),(fun γ=>γ 5)] (fun γ w'=>[True,True,AP 0 w' (γ 2) (psc (((ld G).num^(n - j):Int):Rat) Q),True,True,AP 0 w' (γ 5) (psc (((ld G).num^(n - j):Int):Rat) Rr),True,True]) Bn Aj Aj Bo Aj Bl Br ?hstep1 ?_
   case hstep1 =>
    iterate 8 refine⟨?_,?_⟩
    trivial
    iterate 2 focus
     intro γ w' he hf;clear hf;refine⟨by trivial,?_⟩;intro R hR;have hc:=he.cells;have cq0:=he.cell q0;have cq1:=he.cell q1;go_simp;refine hR _ _ (Ext.refl _) ?_ trivial;rfl
    ·intro γ w' he hf;clear hf;refine⟨trivial,?_⟩;intro R hR
     go_simp;exact Bd (Ll _ _ Q _ M w' (HS.out.2.2.2.2.2.1.ext (xw.trans he)) ((H7.out.kd he.kd).has (by have:=HE.out.2.2.1;have:=HE.out.2.1.2;have:=HX.out.2.2.2.2.2.2.2.1;omega)) HE.out.2.2.2.1 (by have:=HE.out.2.2.2.2.2.2.2.2;have:=HX.out.2.2.2.2.2.2.2.1;omega) HE.out.2.2.2.2.2.1) hR
    iterate 2 focus
     intro γ w' he hf;clear hf;refine⟨by trivial,?_⟩;intro R hR;have hc:=he.cells;have cq0:=he.cell q0;have cq1:=he.cell q1;go_simp;refine hR _ _ (Ext.refl _) ?_ trivial;rfl
    ·intro γ w' he hf;clear hf;refine⟨trivial,?_⟩;intro R hR
     go_simp;exact Bd (Ll _ _ Rr _ M w' (HRr.out▸HS.out.2.2.2.2.1.ext (xw.trans he)) ((H7.out.kd he.kd).has (by have:=HE.out.2.2.1;have:=HE.out.2.1.2;have:=HX.out.2.2.2.2.2.2.2.1;omega)) (HRr.out▸HE.out.2.2.2.2.1) (by have:=HE.out.2.2.2.2.2.2.2.2;have:=HX.out.2.2.2.2.2.2.2.1;omega) (HRr.out▸HE.out.2.2.2.2.2.2.1)) hR
    ·intro γ w' he hf;clear hf;refine⟨trivial,?_⟩;intro R hR
     have hc:=he.cells;go_simp
     (try go_ints);(try(rw[if_neg Aa]));(try(rw[if_pos Aa]));(try go_simp);(try go_ints)
     refine hR _ _ (Ext.refl _) ?_ trivial;rfl
    ·intro γ w' he hf;clear hf;refine⟨trivial,?_⟩;intro R hR
     have hc:=he.cells;go_simp
     (try go_ints);(try(rw[if_neg Aa]));(try(rw[if_pos Aa]));(try go_simp);(try go_ints)
     refine hR _ _ (Ext.refl _) ?_ trivial;rfl
   intro γ w8 hx8 hF;have p2:AP 0 w8 (γ 2) (psc (((ld G).num^(n - j):Int):Rat) Q):=AA.get hF 2 Ab;have p5:AP 0 w8 (γ 5) (psc (((ld G).num^(n - j):Int):Rat) Rr):=AA.get hF 5 Ab;clear hF;simp only[Bf,Nat.reduceAdd];generalize γ 2=g2 at *;generalize γ 5=g5 at *;clear γ;rw[HE.out.2.2.2.2.2.2.2.1,HE.out.1.1]at p2;rw[HRr.out,HE.out.2.2.2.2.2.2.2.1,HE.out.1.2]at p5;have HP:=Ad (Ak p2 p5);clear p2 p5;go_wp2
   go_ret2
   exact Ah.mk ⟨_,_,rfl,HP.out.1,HP.out.2⟩ (hx.trans hx8)
theorem YX(v u:Value)(F G:Nat→Rat)(s M:Nat)(w:World)(hv:AP 0 w v F)(hu:AP 0 w u G)(hs:∀ i,qsz (F i)≤s)(ht:∀ i,qsz (G i)≤s)(h0:G≠pz)(hn:pl F≤1000000)(hm:pl G≤1000000)(hM:s+(pl F+2)*(s+1)+s+1≤M)(hst:2+(pl F+pl G+4)*(2*M+4)≤274877906944) :
  Bh 141 #[v,u] w ((aT (G7 F G (pl F+1 - pl G)) (De F G (pl F+1 - pl G)))):=by
 have hMb:4*M≤274877906944:=by
  have:4*(2*M+4)≤(pl F+pl G+4)*(2*M+4):=Nat.mul_le_mul_right _ Aa;omega
 obtain⟨l,h1,h2,-,rfl⟩:=hv.hz (fun i=>by have:=hs i;omega);obtain⟨m,k1,k2,-,rfl⟩:=hu.hz (fun i=>by have:=ht i;omega);exact YH v u l m s s M w h1 k1 hs ht Aa Aa h0 (by rw[h2];exact hM) (by rw[h2,k2];exact hst)
theorem iP(v:Value)(F:Nat→Rat)(w:World)(hv:AP 0 w v F)(hs:∀ i,qsz (F i)≤549755813888)(hn:pl F≤549755813888) :
  Bh 104 #[v] w (fun r w'=>AP w.heap.size w' r (pp F)):=by
 obtain⟨l,h1,h2,-,rfl⟩:=hv.hz (fun i=>by have:=hs i;omega);exact EG v l w h1 hs Aa
set_option maxRecDepth 20000 in
theorem aV(v u:Value)(l m:List Int)(S M M2:Nat)(w:World)(hv:Dt 0 w v l)(hu:Dt 0 w u m)(hs:∀ i,qsz (cz l i)≤S)(ht:∀ i,qsz (cz m i)≤S)(hn:l.length≤1000)(hm:m.length≤1000)(hM:(S+1)*2^(pl (cz l)+pl (cz m))≤M)(hB:M+(pl (cz l)+pl (cz m)+2)*(M+1)+M+1≤M2)(hB2:2+(2*(pl (cz l)+pl (cz m))+4)*(2*M2+4)≤274877906944) :
  Bh 91 #[v,u] w (fun r w'=>AP 0 w' r (GR (cz l) (cz m))):=by
 have HV:=Ad hv;have HU:=Ad hu;obtain⟨A0,c0,rfl⟩:=hv.len;obtain⟨A1,c1,rfl⟩:=hu.len;clear hv hu;have hc1:=Bq (BK l);have hc2:=Bq (BK m);have hSM:S+1≤M:=by
  have h:0 < 2^(pl (cz l)+pl (cz m)):=Nat.pow_pos Ab;have:=Nat.le_mul_of_pos_right (S+1) h;omega
 have hM2b:4*M2+10≤274877906944:=by
  have:2*(2*M2+4)≤(2*(pl (cz l)+pl (cz m))+4)*(2*M2+4):=Nat.mul_le_mul_right _ Aa;omega
 have hMM:M≤M2:=by omega
 have hcn:sz (cn (cz l))≤S∧sz (cn (cz m))≤S:=⟨FV hs _,FV ht _⟩
 have hst:=Gs.start (Af.cz l) (Af.cz m) (ZI.cz l) (ZI.cz m) hs ht;have hP1:=fun W (x:Ext w W)=>EG _ l W (HV.out.ext x) (fun i=>by have:=hs i;omega) Aa;have hP2:=fun W (x:Ext w W)=>EG _ m W (HU.out.ext x) (fun i=>by have:=ht i;omega) Aa;have hC1:=GX _ l w HV.out (fun i=>by have:=hs i;omega) Aa;have hC2:=fun W (x:Ext w W)=>GX _ m W (HU.out.ext x) (fun i=>by have:=ht i;omega) Aa;have hz:=(show(∀ A,Gs (cz l) (cz m) (pl (cz l)+pl (cz m)) S A pz→psc ((Nat.gcd (cn (cz l)) (cn (cz m)):Nat):Rat) A=GR (cz l) (cz m))from
  fun A h=>(Tt (h.end_ (Af.cz l) (Af.cz m) (ZI.cz l) (ZI.cz m) rfl)).symm)
 have hpl:pl (cz l)+pl (cz m)≤2000:=by omega
 obtain⟨F,hF⟩:∃ F,F=cz l:=⟨_,rfl⟩
 obtain⟨G,hG⟩:∃ G,G=cz m:=⟨_,rfl⟩
 rw[←hF]at hcn hC1;rw[←hG]at hcn;rw[←hF,←hG]at hM hB hB2 hst hz hpl ⊢;simp only[←hF]at hP1;simp only[←hG]at hP2 hC2;have HC:=Ad (Ak hC1 (Ak hC2 (Ak hP1 hP2)));have HX:=Ad (Ak hM (Ak hB (Ak hz (Ak hcn (Ak hSM (Ak hB2 (Ak hM2b hMM)))))));have HSt:=Ad (Ak hst hpl);clear hs ht hn hm hM hB hB2 hM2b hMM hc1 hc2 hSM hcn hst hP1 hP2 hC1 hC2 hz hF hG hpl HV HU
 go_enter Tryz.func91,Tryz.ntmps91
 go_wp2_with fail
 refine AL HC.out.1 ?_;rintro r1 w1 hr1 hx
 go_wp2_with fail
 refine AL (HC.out.2.1 w1 hx) ?_;rintro r2 w2 hr2 hx2;have H12:=Ad (Ak ((hr1.kd hx2.kd).has (by have h1:=HX.out.2.2.2.1.1;have h2:=HX.out.2.2.2.2.1;have h3:=HX.out.2.2.2.2.2.2;simp only[Int.natAbs_natCast];omega)) (hr2.has (by have h1:=HX.out.2.2.2.1.2;have h2:=HX.out.2.2.2.2.1;have h3:=HX.out.2.2.2.2.2.2;simp only[Int.natAbs_natCast];omega)));replace hx:=hx.trans hx2;clear hr1 hr2 hx2
 go_wp2_with fail
 refine AL (Uc _ _ (cn F:Nat) (cn G:Nat) _ H12.out.1 H12.out.2 (by have h1:=HX.out.2.2.2.1.1;have h2:=HX.out.2.2.2.2.1;have h3:=HX.out.2.2.2.2.2.2;simp only[Int.natAbs_natCast];omega) (by have h1:=HX.out.2.2.2.1.2;have h2:=HX.out.2.2.2.2.1;have h3:=HX.out.2.2.2.2.2.2;simp only[Int.natAbs_natCast];omega)) ?_;rintro r3 w3 hr3 hx3;obtain⟨b5,A5,n5,c5,rfl⟩:=hr3.cells;obtain⟨cc,hcc⟩:∃ cc:Nat,cc=Nat.gcd (cn F) (cn G):=⟨_,rfl⟩
 replace hr3:AO w3 (.agg #[.bool b5,.slice A5 n5 c5]) (cc:Nat):=by rw[hcc];exact hr3
 obtain⟨W4,eW4,e4,x4⟩:=Bj.made w3 26 #[.bool b5,.slice A5 n5 c5] (by simp[Ag]);have ec:=Bg.mk e4 (hr3.kd x4.kd);replace hx:=(hx.trans hx3).trans x4;have HCC:=Ad hcc;clear hx3 x4 hr3 e4 H12 hcc
 go_wp2_with fail
 rw[←eW4];clear eW4;generalize w3.heap.size=gc at *;refine AL (HC.out.2.2.1 W4 hx) ?_;rintro r5 w5 hr5 hx5;have ec5:=ec.ext hx5;replace hx:=hx.trans hx5;have H5:=Ad (hr5.base_le (Nat.zero_le _));clear hr5 hx5
 go_wp2_with fail
 refine AL (HC.out.2.2.2 w5 hx) ?_;rintro r6 w6 hr6 hx6;replace ec5:=ec5.ext hx6;replace hx:=hx.trans hx6;have h5:=H5.out.ext hx6;have h6:=hr6.base_le (Nat.zero_le _);clear hr6 hx6 H5;go_wp2
 go_loopw [6,7] (fun fv gv wr=>∃ A B,AP 0 wr fv A∧AP 0 wr gv B∧Gs F G (pl F+pl G) S A B∧Bg wr gc 26 (cc:Nat)∧Ext w wr) (fun _ gv _=>NS gv)
 case atStart=>exact⟨_,_,h5,h6,HSt.out.1,ec5,hx⟩
 case round =>
  clear h5 h6 ec5 hx ec;obtain⟨A,B,hA,hB,hst,ec,hx⟩:=hrel;obtain⟨A2,c2,rfl,-⟩:=hA.shape;obtain⟨A3,c3,rfl,-⟩:=hB.shape;have HA:=Ad (Ak hA hB);clear hA hB;have HS:=Ad hst;clear hst;by_cases h0:0 < pl B
  ·have hbn:B≠pz:=fun e=>by rw[e,Ca]at h0;omega
   have hroom:=HS.out.room rfl;have hpl:=HS.out.deg;have HR:=Ad (show(∀ i,qsz (A i)≤M)∧(∀ i,qsz (B i)≤M)∧M+(pl A+2)*(M+1)+M+1≤M2∧B≠pz∧2+(pl A+pl B+4)*(2*M2+4)≤274877906944∧pl A≤1000000∧pl B≤1000000 from by
    refine⟨fun i=>Nat.le_trans (hroom.1 i) HX.out.1,fun i=>Nat.le_trans (hroom.2.1 i) HX.out.1,?_,hbn,?_,by have:=HSt.out.2;omega,by have:=HSt.out.2;omega⟩
    ·have h1:=HX.out.2.1
     have h2:(pl A+2)*(M+1)≤(pl F+pl G+2)*(M+1):=Nat.mul_le_mul_right _ Aa;omega
    ·have h1:=HX.out.2.2.2.2.2.1
     have h2:(pl A+pl B+4)*(2*M2+4)≤(2*(pl F+pl G)+4)*(2*M2+4):=Nat.mul_le_mul_right _ Aa;omega)
   have hst2:=HS.out.step hbn (R:=De A B (pl A+1 - pl B)) rfl;have HS2:=Ad (Ak hst2.1 (Ak hst2.2 hroom.2.2));clear hst2 hbn hroom hpl
   go_wp2_with fail
   refine AL (YX _ _ A B M M2 _ HA.out.1 HA.out.2 HR.out.1 HR.out.2.1 HR.out.2.2.2.1 HR.out.2.2.2.2.2.1 HR.out.2.2.2.2.2.2 HR.out.2.2.1 HR.out.2.2.2.2.1) ?_;rintro r7 w7 ⟨qv,rv,rfl,hq,hr⟩ hx7;have hrr:=hr.base_le (b:=0) (Nat.zero_le _);have hB7:=HA.out.2.ext hx7;have ec7:=ec.ext hx7;replace hx:=hx.trans hx7;have H7:=Ad (Ak hrr hB7);clear hr hrr hB7 hq hx7 ec
   go_wp2_with fail
   refine Calls.mono (iP _ _ _ H7.out.1 (fun i=>by
    have h1:=HS2.out.2.2 i;have h2:=HX.out.1;have h3:(S+1)*2^(pl F+pl G - (pl A+pl B)+(pl A+1 - pl B))≤(S+1)*2^(pl F+pl G)*2:=by
     have e1:(S+1)*2^(pl F+pl G)*2=(S+1)*2^(pl F+pl G+1):=by rw[Nat.pow_succ,Nat.mul_assoc]
     rw[e1];refine Nat.mul_le_mul_left _ (Nat.pow_le_pow_right Ab ?_);have:=HS.out.deg;omega
    have h4:=HX.out.2.2.2.2.2.2;omega) (by have:=OV HS.out.fA HS.out.fB HR.out.2.2.2.1;have:=HR.out.2.2.2.2.2.2;omega)) ?_
   rintro e w8 ⟨r8,rfl,hr8,hx8⟩;have hB8:=H7.out.2.ext hx8;have hp8:=hr8.base_le (b:=0) (Nat.zero_le _);have ec8:=ec7.ext hx8;replace hx:=hx.trans hx8;obtain⟨A4,c4,rfl,-⟩:=hr8.shape;have H8:=Ad (Ak hB8 hp8);clear hB8 hp8 hr8 hx8 ec7 H7;go_wp2
   go_roundw
   case rel=>exact⟨_,_,H8.out.1,H8.out.2,HS2.out.1,ec8,hx⟩
   case measure=>exact HS2.out.2.1
  ·have hbz:B=pz:=(BG HS.out.fB).1 Aa
   have hroom:=HS.out.room rfl;subst hbz;have hz:=HX.out.2.2.1 A HS.out;have HZ:=Ad (Ak hz (Ak hroom.1 (show pl A≤2000 by have:=HS.out.deg;have:=HSt.out.2;omega)));have h0:pl pz=0:=Ca;rw[h0];clear hz hroom;obtain⟨b,Bv,bn,bc,e8,hb8⟩:=ec;have Hb:=Ad hb8;clear hb8;obtain⟨ce80,ce81⟩:=e8.cells2;have fe8:=e8.frozen
   go_wp2_with fail
   have hcs:sz cc≤S:=by
    rw[HCC.out];have h1:=HX.out.2.2.2.1;by_cases e:cn F=0
    ·rw[e,Nat.gcd_zero_left];exact h1.2
    ·exact Nat.le_trans (Bp (Nat.gcd_le_left _ (Nat.pos_of_ne_zero e))) h1.1
   have Hcs:=Ad hcs;clear hcs;refine AL (Ll _ _ A (cc:Nat) M _ HA.out.1 (Hb.out.has (by have h1:=Hcs.out;have h3:=HX.out.2.2.2.2.1;have h4:=HX.out.2.2.2.2.2.2;simp only[Int.natAbs_natCast];omega)) (fun i=>Nat.le_trans (HZ.out.2.1 i) HX.out.1) (by rw[Bi];have h1:=Hcs.out;have h3:=HX.out.2.2.2.2.1;have h4:=HX.out.2.2.2.2.2.2;simp only[Int.natAbs_natCast];omega) (by have:=HZ.out.2.2;omega)) ?_;rintro r9 w9 hr9 hx9
   have h9:AP 0 w9 r9 (GR F G):=by
    rw[←HZ.out.1,←HCC.out];exact hr9
   have H9:=Ad h9;clear h9 hr9;go_wp2
   go_ret
   exact Ah.mk H9.out (hx.trans hx9)
theorem dM(v u:Value)(F G:Nat→Rat)(S M M2:Nat)(w:World)(hv:AP 0 w v F)(hu:AP 0 w u G)(hs:∀ i,qsz (F i)≤S)(ht:∀ i,qsz (G i)≤S)(hn:pl F≤1000)(hm:pl G≤1000)(hM:(S+1)*2^(pl F+pl G)≤M)(hB:M+(pl F+pl G+2)*(M+1)+M+1≤M2)(hB2:2+(2*(pl F+pl G)+4)*(2*M2+4)≤274877906944) :
  Bh 91 #[v,u] w (fun r w'=>AP 0 w' r (GR F G)):=by
 have hSM:S+1≤M:=by
  have h:0 < 2^(pl F+pl G):=Nat.pow_pos Ab;have:=Nat.le_mul_of_pos_right (S+1) h;omega
 have hM2b:4*M2+10≤274877906944:=by
  have:2*(2*M2+4)≤(2*(pl F+pl G)+4)*(2*M2+4):=Nat.mul_le_mul_right _ Aa;omega
 obtain⟨l,h1,h2,-,rfl⟩:=hv.hz (fun i=>by have:=hs i;omega);obtain⟨m,k1,k2,-,rfl⟩:=hu.hz (fun i=>by have:=ht i;omega);exact aV v u l m S M M2 w h1 k1 hs ht Aa Aa hM hB hB2
theorem VG(v u:Value)(F G:Nat→Rat)(w:World)(hv:AP 0 w v F)(hu:AP 0 w u G)(hs:∀ i,qsz (F i)≤36000)(ht:∀ i,qsz (G i)≤36000)(hn:pl F≤17)(hm:pl G≤17)(h0:G≠pz)(hd:GZ F G) :
  Bh 105 #[v,u] w (fun r w'=>∃ q,r = .tuple #[q,.bool true]∧AP 0 w' q (pq F G)):=by
 obtain⟨l,h1,h2,-,rfl⟩:=hv.hz (fun i=>by have:=hs i;omega);obtain⟨m,k1,k2,-,rfl⟩:=hu.hz (fun i=>by have:=ht i;omega);have e1:(l.length+2)*(36000+1)≤19*36001:=Nat.mul_le_mul_right _ Aa;have e2:(l.length+m.length+4)*(2*756021+4)≤38*(2*756021+4):=Nat.mul_le_mul_right _ Aa;refine Ah.imp (Vj v u l m 36000 36000 756021 w h1 k1 hs ht Aa Aa h0 Aa Aa) fun r w' hr=>?_;obtain⟨q,b,rfl,-,hb,hq⟩:=hr;have hbt:=hb.2 hd
 subst hbt;exact⟨q,rfl,hq rfl⟩
theorem Z6(v:Value)(l:List Int)(S n M T M2:Nat)(w:World)(hv:Dt 0 w v l)(hl:l.length≤1000)(hR:Qe (cz l) S n M T)(hT:T≤36000)(hS:S≤36000)(hM:M+(n+(n - 1)+2)*(M+1)+M+1≤M2)(hM2:2+(2*(n+(n - 1))+4)*(2*M2+4)≤274877906944) :
  Bh 53 #[v] w (fun r w'=>AP 0 w' r (y0 (pp (cz l)))):=by
 have hg:=BP.pp hR.z hR.f hR.n0;have hpg:pl (pp (cz l))=pl (cz l):=EE hR.z hR.f;have hsg:∀ i,qsz (pp (cz l) i)≤S:=Fb hR.z hR.f hR.s;have hp:=hR.p;have hn:=hR.n9;have hpr:=EG v l w hv (fun i=>by have:=hR.s i;omega) Aa;have hde:∀ W u,AP 0 W u (pp (cz l))→Bh 69 #[u] W (fun r w'=>AP 0 w' r (pd (pp (cz l)))):=fun W u hu=>by
  obtain⟨m,g1,g2,-,g4⟩:=hu.hz (fun i=>by have:=hsg i;omega);have hsm:∀ i,qsz (cz m i)≤S:=by rw[g4];exact hsg
  rw[←g4];exact Ah.imp (JA _ m S W g1 hsm Aa Aa) fun _ _ h=>h.base_le (Nat.zero_le _)
 have hpd:pl (pd (pp (cz l)))≤n - 1:=by rw[Ng hg.f];omega
 have hg1:∀ W u z,AP 0 W u (pp (cz l))→AP 0 W z (pd (pp (cz l)))→Bh 91 #[u,z] W (fun r w'=>AP 0 w' r (yc (pp (cz l)))):=fun W u z hu hz=>by
  have e:2^(pl (pp (cz l))+pl (pd (pp (cz l))))≤2^(n+(n - 1)):=Nat.pow_le_pow_right Ab Aa;have e2:(S+1)*2^(pl (pp (cz l))+pl (pd (pp (cz l))))≤(S+1)*2^(n+(n - 1)):=Nat.mul_le_mul_left _ e;have e3:(pl (pp (cz l))+pl (pd (pp (cz l)))+2)*(M+1)≤(n+(n - 1)+2)*(M+1):=Nat.mul_le_mul_right _ Aa;have e4:(2*(pl (pp (cz l))+pl (pd (pp (cz l))))+4)*(2*M2+4)≤(2*(n+(n - 1))+4)*(2*M2+4):=Nat.mul_le_mul_right _ Aa
  have:=hR.m;exact dM u z _ _ S M M2 W hu hz hsg hR.d Aa Aa Aa Aa Aa
 obtain⟨hC,hW,eg,dC,-⟩:=EO hg;have hcl:pl (yc (pp (cz l)))≤pl (pp (cz l)):=Dv.le hC.f hg.f hg.n (KY dC);have hd1:∀ W u z,AP 0 W u (pp (cz l))→AP 0 W z (yc (pp (cz l)))→Bh 105 #[u,z] W (fun r w'=>∃ q,r = .tuple #[q,.bool true]∧AP 0 w' q (y0 (pp (cz l)))):=fun W u z hu hz =>
  VG u z _ _ W hu hz (fun i=>by have:=hsg i;omega) (fun i=>by have:=hR.t i;omega) Aa Aa hC.n dC
 obtain⟨A0,c0,rfl⟩:=hv.len;have HC:=Ad (Ak hpr (Ak hde (Ak hg1 hd1)));clear hpr hde hg1 hd1 hv hR hg hpg hsg hp hn hpd hC hW eg dC hcl hM hM2
 go_enter Tryz.func53,Tryz.ntmps53
 go_wp2_with fail
 refine AL HC.out.1 ?_;rintro r1 w1 hr1 hx1;replace hr1:=hr1.base_le (b:=0) (Nat.zero_le _)
 go_wp2_with fail
 refine AL (HC.out.2.1 _ _ hr1) ?_;rintro r2 w2 hr2 hx2;replace hr1:=hr1.ext hx2;replace hx1:=hx1.trans hx2
 go_wp2_with fail
 refine AL (HC.out.2.2.1 _ _ _ hr1 hr2) ?_;rintro r3 w3 hr3 hx3;replace hr1:=hr1.ext hx3;replace hx1:=hx1.trans hx3
 go_wp2_with fail
 refine AL (HC.out.2.2.2 _ _ _ hr1 hr3) ?_;rintro r4 w4 ⟨q,rfl,hq⟩ hx4;go_wp2
 go_ret
 exact Ah.mk hq (hx1.trans hx4)
end Go.Proofs.YtmhgnigpmompmaaGreat
namespace Go.Hp
open Go.RowKit
def Rb(w:World)(v:Value)(p q:Rat):Prop:=∃ b1 A1 n1 c1 b2 A2 n2 c2 b3 A3 n3 c3 b4 A4 n4 c4,v = .agg #[.bool b1,.slice A1 n1 c1,.bool b2,.slice A2 n2 c2,.bool b3,.slice A3 n3 c3,.bool b4,.slice A4 n4 c4]∧BQ w (.agg #[.bool b1,.slice A1 n1 c1,.bool b2,.slice A2 n2 c2]) p∧BQ w (.agg #[.bool b3,.slice A3 n3 c3,.bool b4,.slice A4 n4 c4]) q
theorem Rb.ext{w w':World}{v:Value}{p q:Rat}(h:Rb w v p q)(e:Ext w w'):Rb w' v p q:=by
 obtain⟨b1,A1,n1,c1,b2,A2,n2,c2,b3,A3,n3,c3,b4,A4,n4,c4,h1,h2,h3⟩:=h;exact⟨b1,A1,n1,c1,b2,A2,n2,c2,b3,A3,n3,c3,b4,A4,n4,c4,h1,h2.ext e,h3.ext e⟩
theorem Bj.cells8{w:World}{g:Nat}{t:TypeId}{x0 x1 x2 x3 x4 x5 x6 x7:Value}(h:Bj w g t #[x0,x1,x2,x3,x4,x5,x6,x7]) :
  w.cell? ⟨g,0,none⟩=some x0∧w.cell? ⟨g,1,none⟩=some x1∧w.cell? ⟨g,2,none⟩=some x2∧w.cell? ⟨g,3,none⟩=some x3∧w.cell? ⟨g,4,none⟩=some x4∧w.cell? ⟨g,5,none⟩=some x5∧w.cell? ⟨g,6,none⟩=some x6∧w.cell? ⟨g,7,none⟩=some x7:=
 ⟨h.cell rfl,h.cell rfl,h.cell rfl,h.cell rfl,h.cell rfl,h.cell rfl,h.cell rfl,h.cell rfl⟩
noncomputable def rts(W:Nat→Rat)(K:Nat)(p q:Rat):Int:=(V (EA W (pd W) K) p:Nat) - (V (EA W (pd W) K) q:Nat)
structure jQ(l:List Int)(W:Nat→Rat)(S n M T M2 S2 D M3 K:Nat):Prop where
 len:l.length≤1000
 sim:Qe (cz l) S n M T
 t9:T≤36000
 s9:S≤36000
 m2:M+(n+(n - 1)+2)*(M+1)+M+1≤M2
 m3:2+(2*(n+(n - 1))+4)*(2*M2+4)≤274877906944
 w:W=y0 (pp (cz l))
 c:Mm W S2 D M3
 k:NN W (pd W) K
end Go.Hp
namespace Go.Proofs.YtmhgnigpmompmaaGreat
open Go.RowKit Go.Hp
set_option maxRecDepth 20000 in
theorem XL(v u:Value)(l:List Int)(W:Nat→Rat)(p q:Rat)(S n M T M2 S2 D M3 K t:Nat)(w:World)(hv:Dt 0 w v l)(hu:Rb w u p q)(hR:jQ l W S n M T M2 S2 D M3 K)(hp:qsz p≤t)(hq:qsz q≤t)
  (ht:1+D*(M3+t+1)+M3+t+1≤100000000000) :
  Bh 18 #[v,u] w (fun r _=>r = .int .i64 (if q≤p then 0 else rts W K p q)):=by
 have hC:=hR.c;have hK:=hR.k;have hl:(EA W (pd W) K).length=K:=CP _ _ _;obtain⟨K0,q1,q2⟩:=FN hC.f (Cb hC.f) hC.z (EL hC.z) hC.s hC.d;obtain rfl:=q1.uniq hK;have hK9:K0≤1000:=by have:=hC.e;have:=hC.D9;omega
 have hfr:=fun X (x:Ext w X)=>Z6 v l S n M T M2 X (hv.ext x) hR.len hR.sim hR.t9 hR.s9 hR.m2 hR.m3;simp only[←hR.w]at hfr;have hch:∀ X a,AP 0 X a W→Bh 28 #[a] X (fun r w'=>∃ us,Gz X.heap.size 0 22 w' r us (EA W (pd W) K0)):=fun X a ha=>by
  obtain⟨m,h1,h2,-,h4⟩:=ha.hz fun i=>by have:=hC.s i;have:=hC.SM;have:=hC.b;omega
  have hW0:W≠pz:=by rw[hR.w];exact(EO (BP.pp hR.sim.z hR.sim.f hR.sim.n0)).2.1.n
  have:=X4 a m S2 D M3 X h1 (by rw[h4];exact hW0) (by have:=hC.e;have:=hC.D9;omega) (by rw[h4];exact hC.s) (by rw[h4];exact hC.d) (by rw[h4];exact hC.e) hC.m hC.b hC.D9;rw[h4]at this;exact Ah.imp this fun r w' ⟨us,K',k1,_,k3⟩=>⟨us,by rw[hK.uniq k1];exact k3⟩
 have hcg:∀ X b us c r,Gz b 0 22 X c us (EA W (pd W) K0)→∀ a,BQ X a r→qsz r≤t→Bh 54 #[c,a] X (fun o _=>o = .int .i64 (V (EA W (pd W) K0) r:Nat)):=fun X b us c r hc a ha hr =>
  SC c a us _ r b M3 t D X hc ha (hC.mem hK) hr Aa (by have:=hC.D9;omega) (by rw[hl];omega)
 have b1:=V5 (EA W (pd W) K0) p;have b2:=V5 (EA W (pd W) K0) q;rw[hl]at b1 b2;have hcm:∀ X a b,BQ X a p→BQ X b q→Bh 20 #[a,b] X (fun o _=>o = .int .i64 (FB (p - q))):=fun X a b ha hb=>Lf a b p q X ha hb Aa;obtain⟨res,hres⟩:∃ res,res=(if q≤p then 0 else rts W K0 p q):=⟨_,rfl⟩
 rw[←hres];have Hres:=Ad hres;clear hres;obtain⟨d1,A1,n1,c1,d2,A2,n2,c2,d3,A3,n3,c3,d4,A4,n4,c4,rfl,hu1,hu2⟩:=hu;obtain⟨A0,c0,rfl⟩:=hv.len;have HC:=Ad (Ak hfr (Ak hch (Ak hcg (Ak hcm (Ak hu1 (Ak hu2 (Ak hp hq)))))));clear hfr hch hcg hcm hu1 hu2 hp hq hv hR hC hK q1 q2 ht;have ea:=Bj.new w 30 #[.bool d1,.slice A1 n1 c1,.bool d2,.slice A2 n2 c2,.bool d3,.slice A3 n3 c3,.bool d4,.slice A4 n4 c4] (by simp[Ag])
 have hx:=(Ext.refl w).alloc (.cells #[.bool d1,.slice A1 n1 c1,.bool d2,.slice A2 n2 c2,.bool d3,.slice A3 n3 c3,.bool d4,.slice A4 n4 c4] 30)
 go_enter Tryz.func18,Tryz.ntmps18
 go_upto_region 1 with(fail)
 generalize w.alloc (.cells #[.bool d1,.slice A1 n1 c1,.bool d2,.slice A2 n2 c2,.bool d3,.slice A3 n3 c3,.bool d4,.slice A4 n4 c4] 30)=W0 at *;obtain⟨cea0,cea1,cea2,cea3,cea4,cea5,cea6,cea7⟩:=ea.cells8;have fea:=ea.frozen
 go_wp2_with fail
 refine AL (HC.out.2.2.2.1 _ _ _ (HC.out.2.2.2.2.1.ext hx) (HC.out.2.2.2.2.2.1.ext hx)) ?_;rintro r1 w1 rfl hx1;clear cea0 cea1 cea2 cea3 cea4 cea5 cea6 cea7 fea;replace ea:=ea.ext hx1;replace hx:=hx.trans hx1;clear hx1;by_cases hpq:q≤p
 ·have hs:decide (0≤FB (p - q))=true:=by
   rw[Jd];unfold BM;have:¬ p - q < 0:=by grind
   rw[if_neg this]
   split<;>rfl
  have HR:=Ad (show res=0 by rw[Hres.out,if_pos hpq]);clear hpq;go_wp2
  go_ret
  exact Ah.mk (by rw[HR.out];rfl) hx
 ·have hs:decide (0≤FB (p - q))=false:=by
   rw[Jd];unfold BM;rw[if_neg Au,if_pos Au];rfl
  have HR:=Ad (show res=rts W K0 p q by rw[Hres.out,if_neg hpq]);clear hpq
  go_wp2_with fail
  refine AL (HC.out.1 _ hx) ?_;rintro r2 w2 hr2 hx2;replace ea:=ea.ext hx2;replace hx:=hx.trans hx2
  go_wp2_with fail
  refine AL (HC.out.2.1 _ _ hr2) ?_;rintro r3 w3 ⟨us,hP⟩ hx3;obtain⟨A5,c5,rfl⟩:=hP.shape;replace ea:=ea.ext hx3;replace hx:=hx.trans hx3;have HP:=Ad hP;clear hP hr2 hx2 hx3;obtain⟨Vp,hVp⟩:∃ n,n=V (EA W (pd W) K0) p:=⟨_,rfl⟩
  obtain⟨Vq,hVq⟩:∃ n,n=V (EA W (pd W) K0) q:=⟨_,rfl⟩
  have hc1:∀ X (x:Ext w3 X),Bh 54 #[.slice A5 (EA W (pd W) K0).length c5,.agg #[.bool d1,.slice A1 n1 c1,.bool d2,.slice A2 n2 c2]] X (fun o _=>o = .int .i64 (Vp:Nat)):=fun X x=>by
   rw[hVp];exact HC.out.2.2.1 X _ us _ p (HP.out.ext x) _ (HC.out.2.2.2.2.1.ext (hx.trans x)) HC.out.2.2.2.2.2.2.1
  have hc2:∀ X (x:Ext w3 X),Bh 54 #[.slice A5 (EA W (pd W) K0).length c5,.agg #[.bool d3,.slice A3 n3 c3,.bool d4,.slice A4 n4 c4]] X (fun o _=>o = .int .i64 (Vq:Nat)):=fun X x=>by
   rw[hVq];exact HC.out.2.2.1 X _ us _ q (HP.out.ext x) _ (HC.out.2.2.2.2.2.1.ext (hx.trans x)) HC.out.2.2.2.2.2.2.2
  have HQ:=Ad (Ak hc1 hc2);clear hc1 hc2;rw[←hVp]at b1;rw[←hVq]at b2;have HF:=Ad (show res=(Vp:Int) - (Vq:Int) by rw[HR.out,hVp,hVq];rfl);rw[hl]at HQ ⊢;clear hVp hVq hl HP;obtain⟨cea0,cea1,cea2,cea3,cea4,cea5,cea6,cea7⟩:=ea.cells8;have fea:=ea.frozen
  go_wp2_with fail
  refine Ae 8 [15,16,17,18,19,20,21,22] [[],[],[1],[0,1,2],[],[],[5],[0,1,2,3,4,5,6],[0,1,2,3,4,5,6,7],[0,1,2,3,4,5,6,7,8]] [5,3] [_,_] [(kv ?_),(kv ?_),(kv ?_),(kv (.int .i64 (Vp:Nat))),(kv ?_),(kv ?_),(kv ?_),(kv (.int .i64 (Vq:Nat)))] (fun γ w'=>[True,True,True,True,True,True,True,True]) Bn Aj Aj Bo Aj Bl Br ?hstep1 ?_
  case hstep1 =>
   iterate 8 refine⟨?_,?_⟩
   trivial
   iterate 3 focus
    intro γ w' he hf;clear hf;refine⟨by trivial,?_⟩;intro R hR;have hc:=he.cells;have cq0:=he.cell cea0;have cq1:=he.cell cea1;have cq2:=he.cell cea2;have cq3:=he.cell cea3;have cq4:=he.cell cea4;have cq5:=he.cell cea5;have cq6:=he.cell cea6;have cq7:=he.cell cea7;go_simp;refine hR _ _ (Ext.refl _) ?_ trivial;rfl
   ·intro γ w' he hf;clear hf;refine⟨trivial,?_⟩;intro R hR
    go_simp;exact NJ (HQ.out.1 w' he) hR
   iterate 3 focus
    intro γ w' he hf;clear hf;refine⟨by trivial,?_⟩;intro R hR;have hc:=he.cells;have cq0:=he.cell cea0;have cq1:=he.cell cea1;have cq2:=he.cell cea2;have cq3:=he.cell cea3;have cq4:=he.cell cea4;have cq5:=he.cell cea5;have cq6:=he.cell cea6;have cq7:=he.cell cea7;go_simp;refine hR _ _ (Ext.refl _) ?_ trivial;rfl
   ·intro γ w' he hf;clear hf;refine⟨trivial,?_⟩;intro R hR
    go_simp;exact NJ (HQ.out.2 w' he) hR
  intro γ w4 hx4 hF;clear hF;simp only[Bf,Nat.reduceAdd];clear γ;go_wp2
  go_ret
  exact Ah.mk (by rw[HF.out];rfl) (hx.trans hx4)
set_option maxRecDepth 20000 in
theorem XI(v:Value)(p q:Rat)(t:Nat)(w:World)(hv:Rb w v p q)(hp:qsz p≤t)(hq:qsz q≤t)(ht:t≤100000000000) :
  Bh 112 #[v] w (fun r w'=>BD w' r ((p+q) / 2)):=by
 have hsum:qsz (p+q)≤274877906944:=by have:=EB p q;omega
 obtain⟨d1,A1,n1,c1,d2,A2,n2,c2,d3,A3,n3,c3,d4,A4,n4,c4,rfl,hu1,hu2⟩:=hv;have HC:=Ad (Ak hu1 (Ak hu2 hsum));clear hu1 hu2 hsum hp hq ht
 go_enter Tryz.func112,Tryz.ntmps112
 have ea:=(Bj.new w 30 #[.bool d1,.slice A1 n1 c1,.bool d2,.slice A2 n2 c2,.bool d3,.slice A3 n3 c3,.bool d4,.slice A4 n4 c4] (by simp[Ag])).alloc (.cells #[.bool false,.slice none 0 0,.bool false,.slice none 0 0] 28);have ez:=Bj.new (w.alloc (.cells #[.bool d1,.slice A1 n1 c1,.bool d2,.slice A2 n2 c2,.bool d3,.slice A3 n3 c3,.bool d4,.slice A4 n4 c4] 30)) 28 #[.bool false,.slice none 0 0,.bool false,.slice none 0 0] (by simp[Ag])
 rw[World.size_alloc]at ez;have hx:=((Ext.refl w).alloc (.cells #[.bool d1,.slice A1 n1 c1,.bool d2,.slice A2 n2 c2,.bool d3,.slice A3 n3 c3,.bool d4,.slice A4 n4 c4] 30)).alloc (.cells #[.bool false,.slice none 0 0,.bool false,.slice none 0 0] 28)
 go_upto_region 1 with(fail)
 generalize (w.alloc (.cells #[.bool d1,.slice A1 n1 c1,.bool d2,.slice A2 n2 c2,.bool d3,.slice A3 n3 c3,.bool d4,.slice A4 n4 c4] 30)).alloc (.cells #[.bool false,.slice none 0 0,.bool false,.slice none 0 0] 28)=W0 at *;obtain⟨cea0,cea1,cea2,cea3,cea4,cea5,cea6,cea7⟩:=ea.cells8;have fea:=ea.frozen
 go_wp2_with fail
 refine AL (U5 _ _ p q _ (HC.out.1.ext hx) (HC.out.2.1.ext hx)) ?_;rintro r1 w1 hr1 hx1;clear cea0 cea1 cea2 cea3 cea4 cea5 cea6 cea7 fea ea;replace ez:=ez.ext hx1;replace hx:=hx.trans hx1
 go_wp2_with fail
 refine AL (Ye 2 _ Aa Aa) ?_;rintro r2 w2 hr2 hx2;replace ez:=ez.ext hx2;replace hx:=hx.trans hx2;have H2:=Ad (Ak (hr1.ext hx2) hr2);clear hr1 hr2 hx1 hx2
 go_wp2_with fail
 refine AL (XE _ _ (p+q) ((2:Int):Rat) _ (H2.out.1.has HC.out.2.2) (H2.out.2.has Ab) Ab) ?_;rintro r3 w3 ⟨q3,rfl,hq3⟩ hx3;obtain⟨b5,B5,m5,e5,b6,B6,m6,e6,rfl⟩:=hq3.cells;replace ez:=ez.ext hx3;replace hx:=hx.trans hx3;obtain⟨W4,eW,e4,x4⟩:=Bj.made w3 28 #[.bool b5,.slice B5 m5 e5,.bool b6,.slice B6 m6 e6] (by simp[Ag]);have hr:=hq3.ext x4;have hltz:=ez.lt;replace ez:=ez.ext x4;replace hx:=hx.trans x4
 clear hq3 hx3 x4 H2
 go_upto_region 2 with(fail)
 rw[←eW];clear eW;generalize w3.heap.size=gc at *;obtain⟨cez0,cez1,cez2,cez3⟩:=ez.cells4;have fez:=ez.frozen;obtain⟨ce40,ce41,ce42,ce43⟩:=e4.cells4;have fe4:=e4.frozen;go_wp2;obtain⟨W5,eW,ez',U⟩:=ez.put4 (.bool b5) (.slice B5 m5 e5) (.bool b6) (.slice B6 m6 e6) rfl rfl rfl rfl;rw[←eW];clear eW ez;replace hr:=hr.kd U.kd;replace hx:=U.from_ hx Ai;have ez:=ez';clear U ez';clear cez0 cez1 cez2 cez3 fez
 obtain⟨cez0,cez1,cez2,cez3⟩:=ez.cells4;have fez:=ez.frozen;refine bodyPost_ret (v := .agg #[.bool b5,.slice B5 m5 e5,.bool b6,.slice B6 m6 e6]) (by simp[results,Tryz.results112,go_sem,cez0,cez1,cez2,cez3]) rfl ?_;exact Ah.mk hr hx
end Go.Proofs.YtmhgnigpmompmaaGreat
namespace Go.Hp
open Go.RowKit
theorem Q5.cell{base:Nat}{t:TypeId}{w:World}{v:Value}{W:Nat→Rat}(h:Q5 base t w v W):∃ A n c,v = .agg #[.slice A n c]:=by
 obtain⟨c,us,K,rfl,h2,h3,h4⟩:=h;obtain⟨A,c,rfl⟩:=h4.shape;exact⟨_,_,_,rfl⟩
theorem Bj.put8{w:World}{g:Nat}{t:TypeId}{a b c d a' b' c' d':Value}(h:Bj w g t #[a,b,c,d,a',b',c',d'])(x0 x1 x2 x3 x4 x5 x6 x7:Value)(h0:Ag x0=false)(h1:Ag x1=false)(h2:Ag x2=false)(h3:Ag x3=false)(h4:Ag x4=false)(h5:Ag x5=false)(h6:Ag x6=false)(h7:Ag x7=false) :
  ∃ W,W=(((((((w.setCell ⟨g,0,none⟩ x0).setCell ⟨g,1,none⟩ x1).setCell ⟨g,2,none⟩ x2).setCell ⟨g,3,none⟩ x3).setCell ⟨g,4,none⟩ x4).setCell ⟨g,5,none⟩ x5).setCell ⟨g,6,none⟩ x6).setCell ⟨g,7,none⟩ x7∧Bj W g t #[x0,x1,x2,x3,x4,x5,x6,x7]∧Cs [g] w W:=by
 have k0:Bj (w.setCell ⟨g,0,none⟩ x0) g t #[x0,b,c,d,a',b',c',d']:=h.set_ 0 h0;have k1:Bj ((w.setCell ⟨g,0,none⟩ x0).setCell ⟨g,1,none⟩ x1) g t #[x0,x1,c,d,a',b',c',d']:=k0.set_ 1 h1;have k2:Bj (((w.setCell ⟨g,0,none⟩ x0).setCell ⟨g,1,none⟩ x1).setCell ⟨g,2,none⟩ x2) g t #[x0,x1,x2,d,a',b',c',d']:=k1.set_ 2 h2;have k3:Bj ((((w.setCell ⟨g,0,none⟩ x0).setCell ⟨g,1,none⟩ x1).setCell ⟨g,2,none⟩ x2).setCell ⟨g,3,none⟩ x3) g t #[x0,x1,x2,x3,a',b',c',d']:=k2.set_ 3 h3
 have k4:Bj (((((w.setCell ⟨g,0,none⟩ x0).setCell ⟨g,1,none⟩ x1).setCell ⟨g,2,none⟩ x2).setCell ⟨g,3,none⟩ x3).setCell ⟨g,4,none⟩ x4) g t #[x0,x1,x2,x3,x4,b',c',d']:=k3.set_ 4 h4;have k5:Bj ((((((w.setCell ⟨g,0,none⟩ x0).setCell ⟨g,1,none⟩ x1).setCell ⟨g,2,none⟩ x2).setCell ⟨g,3,none⟩ x3).setCell ⟨g,4,none⟩ x4).setCell ⟨g,5,none⟩ x5) g t #[x0,x1,x2,x3,x4,x5,c',d']:=k4.set_ 5 h5;have k6:Bj (((((((w.setCell ⟨g,0,none⟩ x0).setCell ⟨g,1,none⟩ x1).setCell ⟨g,2,none⟩ x2).setCell ⟨g,3,none⟩ x3).setCell ⟨g,4,none⟩ x4).setCell ⟨g,5,none⟩ x5).setCell ⟨g,6,none⟩ x6) g t #[x0,x1,x2,x3,x4,x5,x6,d']:=k5.set_ 6 h6
 have k7:Bj ((((((((w.setCell ⟨g,0,none⟩ x0).setCell ⟨g,1,none⟩ x1).setCell ⟨g,2,none⟩ x2).setCell ⟨g,3,none⟩ x3).setCell ⟨g,4,none⟩ x4).setCell ⟨g,5,none⟩ x5).setCell ⟨g,6,none⟩ x6).setCell ⟨g,7,none⟩ x7) g t #[x0,x1,x2,x3,x4,x5,x6,x7]:=k6.set_ 7 h7;exact⟨_,rfl,k7,(((((((Cs.set_ h.nodig 0 x0).trans (Cs.set_ k0.nodig 1 x1)).trans (Cs.set_ k1.nodig 2 x2)).trans (Cs.set_ k2.nodig 3 x3)).trans (Cs.set_ k3.nodig 4 x4)).trans (Cs.set_ k4.nodig 5 x5)).trans (Cs.set_ k5.nodig 6 x6)).trans (Cs.set_ k6.nodig 7 x7)⟩
end Go.Hp
namespace Go.Proofs.YtmhgnigpmompmaaGreat
open Go.RowKit Go.Hp
end Go.Proofs.YtmhgnigpmompmaaGreat
namespace Go.Hp
open Go.RowKit
def K5(w:World)(v:Value)(p q:Rat):Prop:=∃ b1 A1 n1 c1 b2 A2 n2 c2 b3 A3 n3 c3 b4 A4 n4 c4,v = .agg #[.bool b1,.slice A1 n1 c1,.bool b2,.slice A2 n2 c2,.bool b3,.slice A3 n3 c3,.bool b4,.slice A4 n4 c4]∧BD w (.agg #[.bool b1,.slice A1 n1 c1,.bool b2,.slice A2 n2 c2]) p∧BD w (.agg #[.bool b3,.slice A3 n3 c3,.bool b4,.slice A4 n4 c4]) q
theorem K5.ext{w w':World}{v:Value}{p q:Rat}(h:K5 w v p q)(e:Ext w w'):K5 w' v p q:=by
 obtain⟨b1,A1,n1,c1,b2,A2,n2,c2,b3,A3,n3,c3,b4,A4,n4,c4,h1,h2,h3⟩:=h;exact⟨b1,A1,n1,c1,b2,A2,n2,c2,b3,A3,n3,c3,b4,A4,n4,c4,h1,h2.ext e,h3.ext e⟩
theorem K5.has{w:World}{v:Value}{p q:Rat}(h:K5 w v p q)(hp:qsz p≤274877906944)(hq:qsz q≤274877906944):Rb w v p q:=by
 obtain⟨b1,A1,n1,c1,b2,A2,n2,c2,b3,A3,n3,c3,b4,A4,n4,c4,h1,h2,h3⟩:=h;exact⟨b1,A1,n1,c1,b2,A2,n2,c2,b3,A3,n3,c3,b4,A4,n4,c4,h1,h2.has hp,h3.has hq⟩
end Go.Hp
namespace Go.Proofs.YtmhgnigpmompmaaGreat
open Go.RowKit Go.Hp
set_option maxRecDepth 20000 in
theorem Wn(v u:Value)(p q:Rat)(w:World)(hv:BQ w v p)(hu:BQ w u q) :
  Bh 82 #[v,u] w (fun r w'=>K5 w' r p q):=by
 have HC:=Ad (Ak hv hu);obtain⟨b,B,m1,e1,b',B',m1',e1',x0,y0,rfl,-⟩:=hv.form;obtain⟨d,E,m2,e2,d',E',m2',e2',x1,y1,rfl,-⟩:=hu.form;clear hv hu
 go_enter Tryz.func82,Tryz.ntmps82
 obtain⟨W1,eW1,ea,y1⟩:=Bj.made w 28 #[.bool b,.slice B m1 e1,.bool b',.slice B' m1' e1'] (by simp[Ag]);obtain⟨W2,eW2,ec,y2⟩:=Bj.made W1 28 #[.bool d,.slice E m2 e2,.bool d',.slice E' m2' e2'] (by simp[Ag]);obtain⟨W3,eW3,ez,y3⟩:=Bj.made W2 30 #[.bool false,.slice none 0 0,.bool false,.slice none 0 0,.bool false,.slice none 0 0,.bool false,.slice none 0 0] (by simp[Ag]);have s1:W1.heap.size=w.heap.size+1:=by rw[eW1,World.size_alloc]
 have s2:W2.heap.size=w.heap.size+1+1:=by rw[eW2,World.size_alloc,s1]
 rw[s1]at ec;rw[s2]at ez;have hx:=(y1.trans y2).trans y3;replace ea:=ea.ext (y2.trans y3);replace ec:=ec.ext y3
 go_upto_region 1 with(fail)
 rw[←eW1,←eW2,←eW3];clear eW1 eW2 eW3 y1 y2 y3 s1 s2;obtain⟨cea0,cea1,cea2,cea3⟩:=ea.cells4;have fea:=ea.frozen;obtain⟨cec0,cec1,cec2,cec3⟩:=ec.cells4;have fec:=ec.frozen
 go_wp2_with fail
 refine Ae 4 [5,6,7,8] [[],[0],[],[0,1,2],[0,1,2,3],[0,1,2,3,4]] [2,3] [_,_] [(kv ?_),(fun γ=>γ 1),(kv ?_),(fun γ=>γ 3)] (fun γ w'=>[True,BD w' (γ 1) p,True,BD w' (γ 3) q]) Bn Aj Aj Bo Aj Bl Br ?hstep1 ?_
 case hstep1 =>
  iterate 4 refine⟨?_,?_⟩
  trivial
  iterate 1 focus
   intro γ w' he hf;clear hf;refine⟨by trivial,?_⟩;intro R hR;have hc:=he.cells;have cq0:=he.cell cea0;have cq1:=he.cell cea1;have cq2:=he.cell cea2;have cq3:=he.cell cea3;have cq4:=he.cell cec0;have cq5:=he.cell cec1;have cq6:=he.cell cec2;have cq7:=he.cell cec3;go_simp;refine hR _ _ (Ext.refl _) ?_ trivial;rfl
  ·intro γ w' he hf;clear hf;refine⟨trivial,?_⟩;intro R hR
   go_simp;exact Bd (GN _ p w' (HC.out.1.ext (hx.trans he))) hR
  iterate 1 focus
   intro γ w' he hf;clear hf;refine⟨by trivial,?_⟩;intro R hR;have hc:=he.cells;have cq0:=he.cell cea0;have cq1:=he.cell cea1;have cq2:=he.cell cea2;have cq3:=he.cell cea3;have cq4:=he.cell cec0;have cq5:=he.cell cec1;have cq6:=he.cell cec2;have cq7:=he.cell cec3;go_simp;refine hR _ _ (Ext.refl _) ?_ trivial;rfl
  ·intro γ w' he hf;clear hf;refine⟨trivial,?_⟩;intro R hR
   go_simp;exact Bd (GN _ q w' (HC.out.2.ext (hx.trans he))) hR
 intro γ w8 hx8 hF;have p1:BD w8 (γ 1) p:=AA.get hF 1 Ab;have p3:BD w8 (γ 3) q:=AA.get hF 3 Ab;clear hF;simp only[Bf,Nat.reduceAdd];generalize γ 1=g1 at *;generalize γ 3=g3 at *;clear γ;obtain⟨b5,A5,n5,c5,b6,A6,n6,c6,rfl⟩:=p1.cells;obtain⟨b7,A7,n7,c7,b8,A8,n8,c8,rfl⟩:=p3.cells;have HQ:=Ad (Ak p1 p3);replace hx:=hx.trans hx8;replace ez:=ez.ext hx8;clear p1 p3 cea0 cea1 cea2 cea3 cec0 cec1 cec2 cec3 fea fec
 obtain⟨cez0,cez1,cez2,cez3,cez4,cez5,cez6,cez7⟩:=ez.cells8;have fez:=ez.frozen;go_wp2;obtain⟨W6,eW6,ez',U⟩:=ez.put8 (.bool b5) (.slice A5 n5 c5) (.bool b6) (.slice A6 n6 c6) (.bool b7) (.slice A7 n7 c7) (.bool b8) (.slice A8 n8 c8) rfl rfl rfl rfl rfl rfl rfl rfl;rw[←eW6];have hr1:=BD.kd HQ.out.1 U.kd;have hr2:=BD.kd HQ.out.2 U.kd;replace hx:=U.from_ hx Ai;clear eW6 ez cez0 cez1 cez2 cez3 cez4 cez5 cez6 cez7 fez
 have ez:=ez';obtain⟨cez0,cez1,cez2,cez3,cez4,cez5,cez6,cez7⟩:=ez.cells8;have fez:=ez.frozen;refine bodyPost_ret (v := .agg #[.bool b5,.slice A5 n5 c5,.bool b6,.slice A6 n6 c6,.bool b7,.slice A7 n7 c7,.bool b8,.slice A8 n8 c8]) (by simp[results,Tryz.results82,go_sem,cez0,cez1,cez2,cez3,cez4,cez5,cez6,cez7]) rfl ?_;exact Ah.mk ⟨_,_,_,_,_,_,_,_,_,_,_,_,_,_,_,_,rfl,hr1,hr2⟩ hx
end Go.Proofs.YtmhgnigpmompmaaGreat
namespace Go.Hp
/-! ### bounds of values -/
theorem Jq(B:Rat)(hB:0≤B):∀(n:Nat) (F:Nat→Rat),∃ M,0≤M∧∀ x,ab x≤B→ab (CV n F x)≤M
 | 0,F=>⟨0,Ab,fun x _=>by show ab 0≤0;decide⟩
 | n+1,F=>by
  obtain⟨M,h0,h⟩:=Jq B hB n (tl F);refine⟨ab (F 0)+B*M,by have:=Av (F 0);have:=Rat.mul_nonneg hB h0;grind,fun x hx=>?_⟩;rw[DZ];have h1:=FO (F 0) (x*CV n (tl F) x);have h2:ab (x*CV n (tl F) x)≤B*M:=by rw[Cm];exact EZ hx (h x hx) (Av _) hB
  grind
theorem TC(B:Rat)(hB:0≤B):∀(n:Nat) (F:Nat→Rat),∃ L,0≤L∧∀ x y,ab x≤B→ab y≤B→ab (CV n F x - CV n F y)≤L*ab (x - y)
 | 0,F=>⟨0,Ab,fun x y _ _=>by show ab (0 - 0)≤0*_;rw[Rat.zero_mul,show(0:Rat) - 0=0 by grind];decide⟩
 | n+1,F=>by
  obtain⟨L,h0,h⟩:=TC B hB n (tl F);obtain⟨M,m0,hM⟩:=Jq B hB n (tl F);refine⟨M+B*L,by have:=Rat.mul_nonneg hB h0;grind,fun x y hx hy=>?_⟩;rw[DZ,DZ];have e:F 0+x*CV n (tl F) x - (F 0+y*CV n (tl F) y)=(x - y)*CV n (tl F) x+y*(CV n (tl F) x - CV n (tl F) y):=by grind
  rw[e];have h1:=FO ((x - y)*CV n (tl F) x) (y*(CV n (tl F) x - CV n (tl F) y));have h2:ab ((x - y)*CV n (tl F) x)≤M*ab (x - y):=by
   rw[Cm];have:=EZ (Std.le_refl (ab (x - y))) (hM x hx) (Av _) (Av _);grind
  have h3:ab (y*(CV n (tl F) x - CV n (tl F) y))≤B*(L*ab (x - y)):=by rw[Cm];exact EZ hy (h x y hx hy) (Av _) hB
  grind
theorem iG(F:Nat→Rat):pd F=pad (tl F) (cs 0 (pd (tl F))):=by
 funext i
 match i with
 | 0=>show((0+1:Nat):Rat)*F 1=F 1+0;have:((0+1:Nat):Rat)=1:=rfl;rw[this];grind
 | i+1 =>
  show((i+1+1:Nat):Rat)*F (i+1+1)=F (i+1+1)+((i+1:Nat):Rat)*F (i+1+1);have:((i+1+1:Nat):Rat)=((i+1:Nat):Rat)+1:=by push_cast;rfl
  rw[this];grind
theorem Wm(n:Nat){F:Nat→Rat}(x:Rat):CV (n+1) (pd F) x=CV (n+1) (tl F) x+x*CV n (pd (tl F)) x:=by
 conv=>lhs;rw[iG F,Un]
 congr 1;rw[DZ];show 0+x*CV n (pd (tl F)) x=_;grind
theorem U9(B:Rat)(hB:0≤B):∀(n:Nat) (F:Nat→Rat),BB n F→∃ R,0≤R∧∀ x y,ab x≤B→ab y≤B→∃ r,ab r≤R∧CV n F y - CV n F x=(y - x)*(CV n (pd F) x+(y - x)*r)
 | 0,F,_=>⟨0,Ab,fun x y _ _=>⟨0,Ab,by show(0:Rat) - 0=_*(0+_*0);grind⟩⟩
 | n+1,F,hs=>by
  obtain⟨R,h0,h⟩:=U9 B hB n (tl F) hs.tl;obtain⟨M,m0,hM⟩:=Jq B hB n (pd (tl F));refine⟨M+B*R,by have:=Rat.mul_nonneg hB h0;grind,fun x y hx hy=>?_⟩;obtain⟨r,hr,e⟩:=h x y hx hy;refine⟨CV n (pd (tl F)) x+y*r,?_,?_⟩
  ·have h1:=FO (CV n (pd (tl F)) x) (y*r)
   have h2:ab (y*r)≤B*R:=by rw[Cm];exact EZ hy hr (Av _) hB
   have h3:=hM x hx;grind
  ·have e1:CV (n+1) (pd F) x=CV n (tl F) x+x*CV n (pd (tl F)) x:=by
    rw[Wm];congr 1;exact M5 hs.tl (Nat.le_succ n) x
   rw[e1,DZ,DZ];grind
theorem Gv{F:Nat→Rat}(h:Af F){B:Rat}(hB:0≤B):∃ M,0≤M∧∀ x,ab x≤B→ab (ev F x)≤M:=Jq B hB (pl F) F
theorem P7{F:Nat→Rat}(h:Af F){B:Rat}(hB:0≤B):∃ L,0≤L∧∀ x y,ab x≤B→ab y≤B→ab (ev F x - ev F y)≤L*ab (x - y):=TC B hB (pl F) F
theorem fI{F:Nat→Rat}(h:Af F){B:Rat}(hB:0≤B):∃ R,0≤R∧∀ x y,ab x≤B→ab y≤B→∃ r,ab r≤R∧ev F y - ev F x=(y - x)*(ev (pd F) x+(y - x)*r):=by
 obtain⟨R,h0,k⟩:=U9 B hB (pl F) F (AU h);refine⟨R,h0,fun x y hx hy=>?_⟩;obtain⟨r,hr,e⟩:=k x y hx hy;refine⟨r,hr,?_⟩;have e1:ev (pd F) x=CV (pl F) (pd F) x:=F6 (Q0 ((AU h).mono (Nat.le_succ _))) x;rw[e1];exact e
theorem Us(P:Nat→Rat→Prop)(mono:∀ i s t,P i s→s≤t→P i t):∀ m,(∀ i,i < m→∃ T,P i T)→∃ T,1≤T∧∀ i,i < m→P i T
 | 0,_=>⟨1,Ab,fun i hi=>Aa⟩
 | m+1,h=>by
  obtain⟨T,h1,h2⟩:=Us P mono m fun i hi=>h i Aa;obtain⟨S,hS⟩:=h m Aa;refine⟨T+ab S,by have:=Av S;grind,fun i hi=>?_⟩;by_cases e:i=m
  ·subst e;exact mono _ _ _ hS (by have:=TY S;grind)
  ·exact mono _ _ _ (h2 i Aa) (by have:=Av S;grind)
/-! ### the chain -/
theorem PX{F:Nat→Rat}(zF:ZI F)(fF:Af F)(h0:F≠pz):∃ c:Rat,0 < c∧rd F=psc c F:=by
 have h1:=IW zF fF h0;have h2:(0:Rat) < ((cn F:Nat):Rat):=by
  have:0 < cn F:=Nat.pos_of_ne_zero h1;exact_mod_cast this
 refine⟨1 / ((cn F:Nat):Rat),?_,rfl⟩;have h3:((cn F:Nat):Rat)*(1 / ((cn F:Nat):Rat))=1:=by grind
 rcases Std.lt_trichotomy 0 (1 / ((cn F:Nat):Rat))with a | a | a
 ·exact a
 ·rw[←a,Rat.mul_zero]at h3;exact absurd h3 Ab
 ·exfalso
  have:=JL h2 a;grind
theorem gM{A B:Nat→Rat}(fA:Af A)(fB:Af B)(h0:B≠pz):nx A B=pz↔pr A B=pz:=by
 constructor
 ·intro h
  have:=(K3 fA fB h0).2.2.1;rw[h,Ca]at this;exact(BG (EQ fA fB)).1 this.symm
 ·exact Jb
theorem Fg.dv{F0 G0 A B:Nat→Rat}{D S:Nat}(h:Fg F0 G0 D S A B){E:Nat→Rat}(hE:Af E):(Dv E A∧Dv E B)↔(Dv E F0∧Dv E G0):=by
 obtain⟨A',B',e,d,h,rfl,rfl,he,hd⟩:=h;rw[FK (JH he),FK (JH hd)];exact h.dv E hE
theorem Le{F G E:Nat→Rat}(c:Ec F G)(hE:Af E)(h1:Dv E F)(h2:Dv E G):pl E=1:=Ec.self hE ((c.dv h1).symm.dv h2)
theorem Fg.cop{F0 G0 A B:Nat→Rat}{D S:Nat}(h:Fg F0 G0 D S A B)(c:Ec F0 G0):Ec A B:=by
 obtain⟨fA,fB,-⟩:=h.facts;obtain⟨U,V,E,fU,fV,hg,e⟩:=Xc (pl B) fA fB (Nat.le_refl _);obtain⟨d1,d2⟩:=(h.dv hg.1).1 ⟨hg.2.2.1,hg.2.2.2.1⟩;have h1:=Le c hg.1 d1 d2;have hne:E≠pz:=fun q=>by rw[q,Ca]at h1;omega
 have hl:=hg.2.1 hne;have hE:E=pone:=by
  funext i
  match i with
  | 0 =>
   have:ld E=E 0:=by unfold ld;rw[h1]
   rw[←this,hl];rfl
  | i+1=>exact(AU hg.1) (i+1) Aa
 exact⟨U,V,fU,fV,by rw[e,hE]⟩
noncomputable def vx(F:Nat→Rat)(K:Nat)(x:Rat):Nat:=VO (fun i=>ev (Co F (pd F) i) x) K
noncomputable def IA(F:Nat→Rat)(x y:Rat):Nat:=open Classical in if ev F x≠0∧BM (ev F y)≠BM (ev F x)then 1 else 0
theorem Gh{c q:Rat}(h:0 < c):BM (c*q)=BM q:=by
 unfold BM;rcases Std.lt_trichotomy q 0 with a | a | a
 ·have:=JL h a
  rw[if_neg (show ¬ 0 < c*q by grind),if_pos this,if_neg (show ¬ 0 < q by grind),if_pos a]
 ·rw[a,Rat.mul_zero]
 ·have:=Rat.mul_pos h a
  rw[if_pos this,if_pos a]
section
variable{F:Nat→Rat}{K:Nat}
structure Eu(F:Nat→Rat)(K:Nat):Prop where
 z:ZI F
 f:Af F
 n:F≠pz
 c:Ec F (pd F)
 k:NN F (pd F) K
theorem Eu.st(h:Eu F K){S:Nat}(hS:∀ i,qsz (F i)≤S)(hS2:∀ i,qsz (pd F i)≤S)(i:Nat)(hi:i < K):Fg F (pd F) (pl F+pl (pd F)) S (Co F (pd F) i) (Co F (pd F) (i+1)):=
 JK h.f (Cb h.f) h.z (EL h.z) hS hS2 i fun j a b=>h.k.2.2 j a Aa
theorem Eu.room(h:Eu F K):∃ S,(∀ i,qsz (F i)≤S)∧∀ i,qsz (pd F i)≤S:=by
 obtain⟨S,hS⟩:=Eo h.f;obtain⟨T,hT⟩:=Eo (Cb h.f);exact⟨max S T,fun i=>Nat.le_trans (hS i) (Nat.le_max_left _ _),fun i=>Nat.le_trans (hT i) (Nat.le_max_right _ _)⟩
theorem Eu.ne0(h:Eu F K):Co F (pd F) 0≠pz:=by
 obtain⟨c,hc,e⟩:=PX h.z h.f h.n;intro q;have e2:Co F (pd F) 0=rd F:=rfl;rw[e2,e]at q;have:=DX (show c≠0 by grind) h.f;rw[q,Ca]at this;exact h.n ((BG h.f).1 this.symm)
theorem Eu.ne(h:Eu F K){i:Nat}(hi:i < K):Co F (pd F) i≠pz:=by
 match i with
 | 0=>exact h.ne0
 | i+1=>exact h.k.2.2 (i+1) Aa hi
theorem Eu.fin(h:Eu F K){i:Nat}(hi:i < K):Af (Co F (pd F) i):=by
 obtain⟨S,a,b⟩:=h.room;exact(h.st a b i hi).facts.1
theorem Eu.last(h:Eu F K):pl (Co F (pd F) (K - 1))=1:=by
 obtain⟨S,a,b⟩:=h.room;have hK:=h.k.1;have h1:=h.st a b (K - 1) Aa;have e:K - 1+1=K:=by omega
 rw[e,h.k.2.1]at h1;obtain⟨fA,-⟩:=h1.facts;exact Le h.c fA ((h1.dv fA).1 ⟨Dv.refl _,Dv.zero _⟩).1 ((h1.dv fA).1 ⟨Dv.refl _,Dv.zero _⟩).2
theorem Eu.recr(h:Eu F K){i:Nat}(hi:i+2 < K):∃ q c,Af q∧0 < c∧∀ x,ev (Co F (pd F) i) x=ev q x*ev (Co F (pd F) (i+1)) x - c*ev (Co F (pd F) (i+2)) x:=by
 have f0:=h.fin (show i < K by omega);have f1:=h.fin (show i+1 < K by omega);have n1:=h.ne (show i+1 < K by omega);have n2:=h.ne hi;have hp:pr (Co F (pd F) i) (Co F (pd F) (i+1))≠pz:=fun q=>n2 ((gM f0 f1 n1).2 q);obtain⟨-,fx,-,-,hc⟩:=K3 f0 f1 n1;obtain⟨c,hc0,e⟩:=hc hp;refine⟨pq (Co F (pd F) i) (Co F (pd F) (i+1)),c,DJ _ _,hc0,fun x=>?_⟩;have e2:=Ko (Co F (pd F) i) (Co F (pd F) (i+1));have e3:ev (Co F (pd F) i) x=ev (pad (cv (pq (Co F (pd F) i) (Co F (pd F) (i+1))) (Co F (pd F) (i+1))) (pr (Co F (pd F) i) (Co F (pd F) (i+1)))) x:=by rw[←e2]
 rw[e3,JR ((DJ _ _).cv f1) (EQ f0 f1),Gm (DJ _ _) f1,e,Gu _ fx];show _ + -c*ev (nx (Co F (pd F) i) (Co F (pd F) (i+1))) x=_ - c*ev (Co F (pd F) (i+2)) x;rw[Ku];grind
theorem Ir{c:Rat}(h:0 < c):0 < 1 / c∧1 / c*c=1:=by
 have e:1 / c*c=1:=by grind
 refine⟨?_,e⟩;rcases Std.lt_trichotomy 0 (1 / c)with p | p | p
 ·exact p
 ·rw[←p,Rat.zero_mul]at e;exact absurd e Ab
 ·have:=JL h p;grind
theorem QJ{p q t s:Rat}(h1:p≤t*q)(h2:0≤q)(h3:t≤s):p≤s*q:=Std.le_trans h1 (Rat.mul_le_mul_of_nonneg_right h3 h2)
theorem YP{a b c d:Rat}(ha:1≤a)(hb:1≤b)(hc:1≤c):a≤a+b+c+ab d∧b≤a+b+c+ab d∧c≤a+b+c+ab d∧d≤a+b+c+ab d∧1≤a+b+c+ab d:=by
 have h1:=Av d;have h2:=TY d;refine⟨?_,?_,?_,?_,?_⟩<;>grind
theorem Ev{a b c:Rat}(h:a≤b)(hc:0≤c):a≤b+c:=by grind
theorem DC{a b c:Rat}(h:a≤c)(hb:0≤b):a≤b+c:=by grind
theorem Eu.lipT(h:Eu F K){B:Rat}(hB:0≤B):∃ T,1≤T∧∀ i,i < K→∀ x y,ab x≤B→ab y≤B→ab (ev (Co F (pd F) i) x - ev (Co F (pd F) i) y)≤T*ab (x - y):=
 Us (fun i T=>∀ x y,ab x≤B→ab y≤B→ab (ev (Co F (pd F) i) x - ev (Co F (pd F) i) y)≤T*ab (x - y)) (fun i s t p q x y hx hy=>QJ (p x y hx hy) (Av _) q) K fun i hi=>by
  obtain⟨L,-,hL⟩:=P7 (h.fin hi) hB;exact⟨L,hL⟩
theorem Eu.bezT(h:Eu F K){B:Rat}(hB:0≤B):∃ T,1≤T∧∀ i,i < K→∃ U W,Af U∧Af W∧pad (cv U (Co F (pd F) i)) (cv W (Co F (pd F) (i+1)))=pone∧∀ x,ab x≤B→ab (ev U x)≤T∧ab (ev W x)≤T:=by
 obtain⟨S,a,b⟩:=h.room;refine Us (fun i T=>∃ U W,Af U∧Af W∧pad (cv U (Co F (pd F) i)) (cv W (Co F (pd F) (i+1)))=pone∧∀ x,ab x≤B→ab (ev U x)≤T∧ab (ev W x)≤T) (fun i s t p q=>?_) K fun i hi=>?_
 ·obtain⟨U,W,c1,c2,c3,c4⟩:=p
  exact⟨U,W,c1,c2,c3,fun x hx=>⟨Std.le_trans (c4 x hx).1 q,Std.le_trans (c4 x hx).2 q⟩⟩
 ·obtain⟨U,W,c1,c2,c3⟩:=(h.st a b i hi).cop h.c
  obtain⟨M,m0,hM⟩:=Gv c1 hB;obtain⟨N,n0,hN⟩:=Gv c2 hB;exact⟨M+N,U,W,c1,c2,c3,fun x hx=>⟨Ev (hM x hx) n0,DC (hN x hx) m0⟩⟩
theorem Eu.recT(h:Eu F K){B:Rat}(hB:0≤B):∃ T,1≤T∧∀ i,i < K→i+2 < K→∃ q c,Af q∧0 < c∧(∀ x,ev (Co F (pd F) i) x=ev q x*ev (Co F (pd F) (i+1)) x - c*ev (Co F (pd F) (i+2)) x)∧(∀ x,ab x≤B→ab (ev q x)≤T)∧1≤T*c:=by
 refine Us (fun i T=>i+2 < K→∃ q c,Af q∧0 < c∧(∀ x,ev (Co F (pd F) i) x=ev q x*ev (Co F (pd F) (i+1)) x - c*ev (Co F (pd F) (i+2)) x)∧(∀ x,ab x≤B→ab (ev q x)≤T)∧1≤T*c) (fun i s t p q hi=>?_) K fun i hi=>?_
 ·obtain⟨u,c,c1,c2,c3,c4,c5⟩:=p hi
  exact⟨u,c,c1,c2,c3,fun x hx=>Std.le_trans (c4 x hx) q,QJ c5 (Std.le_of_lt c2) q⟩
 ·by_cases hi2:i+2 < K
  ·obtain⟨q,c,c1,c2,c3⟩:=h.recr hi2
   obtain⟨M,m0,hM⟩:=Gv c1 hB;obtain⟨hp,e⟩:=Ir c2;refine⟨M+1 / c,fun _=>⟨q,c,c1,c2,c3,fun x hx=>Ev (hM x hx) (Std.le_of_lt hp),?_⟩⟩;have h1:=Rat.mul_nonneg m0 (Std.le_of_lt c2);rw[Rat.add_mul,e];exact DC (Std.le_refl _) h1
  ·exact⟨0,fun q=>absurd q hi2⟩
theorem Eu.topT(h:Eu F K){B:Rat}(hB:0≤B)(hK1:1 < K):∃ k T4:Rat,0 < k∧1≤T4*k∧∀ x y,ab x≤B→ab y≤B→∃ r,ab r≤T4∧ev (Co F (pd F) 0) y - ev (Co F (pd F) 0) x=(y - x)*(k*ev (Co F (pd F) 1) x+(y - x)*r):=by
 obtain⟨c0,hc0,e0⟩:=PX h.z h.f h.n;obtain⟨R,hR0,hR⟩:=fI h.f hB;have e00:Co F (pd F) 0=rd F:=rfl;have e01:Co F (pd F) 1=rd (pd F):=rfl;have n1:pd F≠pz:=fun q=>h.ne hK1 (by rw[e01,q,XW]);obtain⟨c1,hc1,e1⟩:=PX (EL h.z) (Cb h.f) n1;obtain⟨hp1,i1⟩:=Ir hc1;have hk:0 < c0*(1 / c1):=Rat.mul_pos hc0 hp1;obtain⟨hp2,i2⟩:=Ir hk;have hcR:=Rat.mul_nonneg (Std.le_of_lt hc0) hR0;obtain⟨k,hkd⟩:∃ k,k=c0*(1 / c1):=⟨_,rfl⟩
 rw[←hkd]at hk hp2 i2;refine⟨k,1 / k+c0*R,hk,?_,fun x y hx hy=>?_⟩
 ·rw[Rat.add_mul,i2]
  exact Ev (Std.le_refl _) (Rat.mul_nonneg hcR (Std.le_of_lt hk))
 ·obtain⟨r,hr,e⟩:=hR x y hx hy
  refine⟨c0*r,?_,?_⟩
  ·rw[Cm,DV (Std.le_of_lt hc0)]
   exact DC (Rat.mul_le_mul_of_nonneg_left hr (Std.le_of_lt hc0)) (Std.le_of_lt hp2)
  ·rw[e00,e01,e0,e1,Gu _ h.f,Gu _ h.f,Gu _ (Cb h.f)]
   obtain⟨P,hP⟩:∃ P,P=ev (pd F) x:=⟨_,rfl⟩
   rw[←hP]at e ⊢;have e6:c0*ev F y - c0*ev F x=c0*(ev F y - ev F x):=by rw[Rat.sub_eq_add_neg,Rat.sub_eq_add_neg,Rat.mul_add,Rat.mul_neg]
   rw[e6,e,hkd];clear hR hr e hx hy hcR h hk hp2 i2 e6;have e7:c0*(1 / c1)*(c1*P)=c0*P*(1 / c1*c1):=by grind
   rw[e7,i1];grind
theorem Eu.cells(h:Eu F K){B:Rat}(hB:0≤B):∃ T,1≤T∧∀ x y,ab x≤B→ab y≤B→x < y→4*(T*(T*(T*(T*(y - x))))) < 1→K9 (K - 1) (fun i=>ev (Co F (pd F) i) x) (fun i=>ev (Co F (pd F) i) y) T (y - x):=by
 have hK:=h.k.1;obtain⟨T1,t1,h1⟩:=h.lipT hB;obtain⟨T2,t2,h2⟩:=h.bezT hB;obtain⟨T3,t3,h3⟩:=h.recT hB;obtain⟨k,T4,h4⟩:∃ k T4:Rat,1 < K→0 < k∧1≤T4*k∧∀ x y,ab x≤B→ab y≤B→∃ r,ab r≤T4∧ev (Co F (pd F) 0) y - ev (Co F (pd F) 0) x=(y - x)*(k*ev (Co F (pd F) 1) x+(y - x)*r):=by
  by_cases hK1:1 < K
  ·obtain⟨k,T4,q⟩:=h.topT hB hK1;exact⟨k,T4,fun _=>q⟩
  ·exact⟨0,0,fun q=>absurd q hK1⟩
 obtain⟨l1,l2,l3,l4,l5⟩:=YP (d:=T4) t1 t2 t3;obtain⟨T,hT⟩:∃ T,T=T1+T2+T3+ab T4:=⟨_,rfl⟩
 rw[←hT]at l1 l2 l3 l4 l5;refine⟨T,l5,fun x y hx hy hxy hsm=>?_⟩;have hlast:=h.last;have hcl:∀ z,ev (Co F (pd F) (K - 1)) z=Co F (pd F) (K - 1) 0:=fun z=>by
  unfold ev;rw[hlast,DZ];show _+z*0=_;rw[Rat.mul_zero,Rat.add_zero]
 have hd0:0 < y - x:=by clear hsm h1 h2 h3 h4 hcl;grind
 have hdxy:ab (x - y)=y - x:=by
  clear hsm h1 h2 h3 h4 hcl;unfold ab;rw[if_pos Au];grind
 have hfin:∀ i,i < K→Af (Co F (pd F) i):=fun i hi=>h.fin hi;have hne:=D8 (hfin (K - 1) Aa) (h.ne (show K - 1 < K by omega));have hbz:∀ z,ab z≤B→∀ i,i+1 < K→∃ U W,U*ev (Co F (pd F) i) z+W*ev (Co F (pd F) (i+1)) z=1∧ab U≤T∧ab W≤T:=fun z hz i hi=>by
  obtain⟨U,W,c1,c2,c3,c4⟩:=h2 i Aa;refine⟨ev U z,ev W z,?_,Std.le_trans (c4 z hz).1 l2,Std.le_trans (c4 z hz).2 l2⟩;rw[←Gm c1 (hfin i Aa),←Gm c2 (hfin (i+1) hi),←JR (c1.cv (hfin i Aa)) (c2.cv (hfin (i+1) hi)),c3,OT]
 have hrc:∀ z,ab z≤B→∀ i,i+2 < K→∃ q c,ev (Co F (pd F) i) z=q*ev (Co F (pd F) (i+1)) z - c*ev (Co F (pd F) (i+2)) z∧ab q≤T∧0 < c∧1≤T*c:=fun z hz i hi=>by
  obtain⟨q,c,c1,c2,c3,c4,c5⟩:=h3 i Aa hi;exact⟨ev q z,c,c3 z,Std.le_trans (c4 z hz) l3,c2,QJ c5 (Std.le_of_lt c2) l3⟩
 refine⟨l5,hd0,hsm,fun i hi=>?_,fun i hi=>hbz x hx i Aa,fun i hi=>hbz y hy i Aa,fun i hi=>hrc x hx i Aa,fun i hi=>hrc y hy i Aa,⟨by rw[hcl,hcl],?_⟩,fun hm=>?_⟩
 ·have:=h1 i Aa x y hx hy
  rw[hdxy]at this;exact QJ this (Std.le_of_lt hd0) l1
 ·show ev (Co F (pd F) (K - 1)) x≠0
  rw[hcl];unfold ld at hne;rw[hlast]at hne;exact hne
 ·obtain⟨g1,g2,g3⟩:=h4 Aa
  obtain⟨r,hr,e⟩:=g3 x y hx hy;exact⟨k,r,e,g1,QJ g2 (Std.le_of_lt g1) l4,Std.le_trans hr l4⟩
theorem Sd{T:Rat}(hT:1≤T):∃ δ:Rat,0 < δ∧∀ d,d≤δ→4*(T*(T*(T*(T*d)))) < 1:=by
 have hT0:0 < T:=by grind
 have p2:=Rat.mul_pos hT0 hT0;have p3:=Rat.mul_pos hT0 p2;have p4:=Rat.mul_pos hT0 p3;obtain⟨P,hP⟩:∃ P,P=T*(T*(T*T)):=⟨_,rfl⟩
 rw[←hP]at p4;obtain⟨hδ,hi⟩:=Ir (show 0 < 8*P by grind);refine⟨1 / (8*P),hδ,fun d hd=>?_⟩;have e:T*(T*(T*(T*d)))=P*d:=by rw[hP];grind
 rw[e];have h1:=Rat.mul_le_mul_of_nonneg_left hd (show 0≤P by grind);obtain⟨X,hX⟩:∃ X,X=1 / (8*P):=⟨_,rfl⟩
 rw[←hX]at h1 hi;have h2:X*(8*P)=8*(P*X):=by grind
 rw[h2]at hi;clear h2 hX e hP p2 p3 hδ;grind
theorem Eu.local_(h:Eu F K){B:Rat}(hB:0≤B):∃ δ:Rat,0 < δ∧∀ x y,ab x≤B→ab y≤B→x < y→y - x≤δ→vx F K x=vx F K y+IA F x y:=by
 obtain⟨T,hT,hc⟩:=h.cells hB;obtain⟨δ,hδ,hs⟩:=Sd hT;refine⟨δ,hδ,fun x y hx hy hxy hd=>?_⟩;have hs:=(hc x y hx hy hxy (hs _ hd)).sturm;have hK:=h.k.1;rw[show K - 1+1=K by omega]at hs;obtain⟨c0,hc0,e0⟩:=PX h.z h.f h.n;have e00:∀ z,ev (Co F (pd F) 0) z=c0*ev F z:=fun z=>by
  show ev (rd F) z=_;rw[e0,Gu _ h.f]
 have e2:(if BM (ev (Co F (pd F) 0) x)≠0∧BM (ev (Co F (pd F) 0) y)≠BM (ev (Co F (pd F) 0) x)then 1 else 0)=IA F x y:=by
  rw[e00,e00,Gh hc0,Gh hc0];unfold IA;have hz:BM (ev F x)≠0↔ev F x≠0:=by rw[Ne,Dw]
  by_cases c:ev F x≠0∧BM (ev F y)≠BM (ev F x)
  ·rw[if_pos ⟨hz.2 c.1,c.2⟩,if_pos c]
  ·rw[if_neg (fun q=>c ⟨hz.1 q.1,q.2⟩),if_neg c]
 rw[e2]at hs;exact hs
end
theorem jH(q:Rat):∃ n:Nat,0 < n∧q≤(n:Rat):=by
 refine⟨q.num.natAbs+1,Aa,?_⟩;have h1:(0:Rat)≤((q.num.natAbs:Nat):Rat):=by exact_mod_cast Nat.zero_le _
 have h2:(((q.num.natAbs+1:Nat)):Rat)=((q.num.natAbs:Nat):Rat)+1:=by push_cast;rfl
 rw[h2];rcases Std.lt_trichotomy 0 q with a | a | a
 ·have hd:(1:Rat)≤((q.den:Nat):Rat):=by
   have:=q.den_pos;exact_mod_cast this
  have e:q*((q.den:Nat):Rat)=((q.num:Int):Rat):=by
   have h3:=K6 q;have hd0:((q.den:Nat):Rat)≠0:=Ju q.den_pos
   conv=>lhs;rw[h3]
   grind
  have h4:q*1≤q*((q.den:Nat):Rat):=Rat.mul_le_mul_of_nonneg_left hd (Std.le_of_lt a);have h5:((q.num:Int):Rat)≤((q.num.natAbs:Nat):Rat):=by
   have h6:q.num≤((q.num.natAbs:Nat):Int):=by omega
   have h7:((q.num:Int):Rat)≤((((q.num.natAbs:Nat):Int)):Rat):=by exact_mod_cast h6
   exact h7
  grind
 ·rw[←a];grind
 ·grind
theorem EW{a b z B:Rat}(ha:ab a≤B)(hb:ab b≤B)(h1:a≤z)(h2:z≤b):ab z≤B:=by
 rw[IV]at *;exact⟨Std.le_trans ha.1 h1,Std.le_trans h2 hb.2⟩
noncomputable def UY(F:Nat→Rat)(a s:Rat):Nat→Nat
 | 0=>0
 | n+1=>UY F a s n+IA F (a+((n:Nat):Rat)*s) (a+((n+1:Nat):Rat)*s)
section
variable{F:Nat→Rat}{K:Nat}
theorem CR(n:Nat):((n+1:Nat):Rat)=((n:Nat):Rat)+1:=by push_cast;rfl
theorem Er(n:Nat):(0:Rat)≤((n:Nat):Rat):=by exact_mod_cast Nat.zero_le n
theorem XQ{V:Rat→Nat}{B δ:Rat}(hl:∀ x y,ab x≤B→ab y≤B→x < y→y - x≤δ→V x=V y+IA F x y){a s:Rat}(hs:0 < s)(hsδ:s≤δ):∀ n,(∀ j,j≤n→ab (a+((j:Nat):Rat)*s)≤B)→V a=V (a+((n:Nat):Rat)*s)+UY F a s n
 | 0,_=>by
  have e:a+((0:Nat):Rat)*s=a:=by show a+0*s=a;rw[Rat.zero_mul,Rat.add_zero]
  rw[e];rfl
 | n+1,hj=>by
  have h1:=XQ hl hs hsδ n fun j h=>hj j Aa;have e:a+((n+1:Nat):Rat)*s=a+((n:Nat):Rat)*s+s:=by rw[CR];grind
  have h2:=hl (a+((n:Nat):Rat)*s) (a+((n+1:Nat):Rat)*s) (hj n Aa) (hj (n+1) (Nat.le_refl _)) (by rw[e];grind) (by rw[e];grind);rw[h1,h2];show _=_+(UY F a s n+IA F _ _);omega
theorem cut{a b δ:Rat}(hab:a < b)(hδ:0 < δ):∃ n s,0 < n∧0 < s∧s≤δ∧a+((n:Nat):Rat)*s=b∧∀ j,j≤n→a≤a+((j:Nat):Rat)*s∧a+((j:Nat):Rat)*s≤b:=by
 obtain⟨hi,ei⟩:=Ir hδ;obtain⟨n,hn,hq⟩:=jH ((b - a)*(1 / δ));have hn0:(0:Rat) < ((n:Nat):Rat):=by exact_mod_cast hn
 obtain⟨hm,em⟩:=Ir hn0;have hba:0 < b - a:=by grind
 obtain⟨s,hs⟩:∃ s,s=(b - a)*(1 / ((n:Nat):Rat)):=⟨_,rfl⟩
 have hs0:0 < s:=by rw[hs];exact Rat.mul_pos hba hm
 have ens:((n:Nat):Rat)*s=b - a:=by rw[hs];grind
 refine⟨n,s,hn,hs0,?_,by rw[ens];grind,fun j hj=>?_⟩
 ·-- b - a≤n δ
  have h1:=Rat.mul_le_mul_of_nonneg_right hq (show 0≤δ by grind);have e1:(b - a)*(1 / δ)*δ=b - a:=by grind
  rw[e1,←ens]at h1;rcases Std.lt_trichotomy s δ with c | c | c
  ·exact Std.le_of_lt c
  ·rw[c];exact Std.le_refl _
  ·exfalso
   have:=Rat.mul_lt_mul_of_pos_left c hn0;grind
 ·have h0:=Rat.mul_nonneg (Er j) (Std.le_of_lt hs0)
  have hjn:((j:Nat):Rat)≤((n:Nat):Rat):=by exact_mod_cast hj
  have h1:=Rat.mul_le_mul_of_nonneg_right hjn (Std.le_of_lt hs0);rw[ens]at h1;refine⟨Au,Au⟩
theorem Eu.sums(h:Eu F K){a b:Rat}(hab:a < b){ε:Rat}(hε:0 < ε):∃ n s,0 < n∧0 < s∧s≤ε∧a+((n:Nat):Rat)*s=b∧(∀ j,j≤n→a≤a+((j:Nat):Rat)*s∧a+((j:Nat):Rat)*s≤b)∧vx F K a=vx F K b+UY F a s n:=by
 have hB:0≤ab a+ab b:=by have:=Av a;have:=Av b;grind
 obtain⟨δ,hδ,hl⟩:=h.local_ hB;have hm:∃ μ:Rat,0 < μ∧μ≤δ∧μ≤ε:=by
  rcases Std.lt_trichotomy δ ε with c | c | c
  ·exact⟨δ,hδ,Std.le_refl _,Std.le_of_lt c⟩
  ·exact⟨δ,hδ,Std.le_refl _,by rw[c];exact Std.le_refl _⟩
  ·exact⟨ε,hε,Std.le_of_lt c,Std.le_refl _⟩
 obtain⟨μ,hμ,h1,h2⟩:=hm;obtain⟨n,s,hn,hs,hsμ,e,hj⟩:=cut hab hμ;refine⟨n,s,hn,hs,Std.le_trans hsμ h2,e,hj,?_⟩;have:=XQ hl hs (Std.le_trans hsμ h1) n fun j hjn=>EW (Ev (Std.le_refl _) (Av b)) (DC (Std.le_refl _) (Av a)) (hj j hjn).1 (hj j hjn).2;rw[e]at this;exact this
theorem Eu.mono(h:Eu F K){a b:Rat}(hab:a≤b):vx F K b≤vx F K a:=by
 rcases Std.lt_trichotomy a b with c | c | c
 ·obtain⟨n,s,-,-,-,-,-,e⟩:=h.sums c (ε:=1) Ab
  omega
 ·rw[c];exact Nat.le_refl _
 ·exfalso;grind
theorem Oi{a s:Rat}:∀ n,(∀ j,j < n→IA F (a+((j:Nat):Rat)*s) (a+((j+1:Nat):Rat)*s)=0)→UY F a s n=0
 | 0,_=>rfl
 | n+1,hj=>by
  show UY F a s n+IA F _ _=0;rw[Oi n fun j h=>hj j Aa,hj n Aa]
theorem Eu.flat(h:Eu F K){a b ε:Rat}(hab:a≤b)(hε:0 < ε)(hf:∀ z,a≤z→z≤b→ε≤ab (ev F z)):vx F K a=vx F K b:=by
 rcases Std.lt_trichotomy a b with c | c | c
 ·have hB:0≤ab a+ab b:=by have:=Av a;have:=Av b;grind
  obtain⟨L,hL0,hL⟩:=P7 h.f hB;obtain⟨hi,ei⟩:=Ir (show 0 < L+1 by grind);have hμ:0 < ε*(1 / (L+1))*(1 / 2):=Rat.mul_pos (Rat.mul_pos hε hi) Au;obtain⟨n,s,hn,hs,hsμ,e,hj,hv⟩:=h.sums c hμ;have hLs:L*s < ε:=by
   have h1:=Rat.mul_le_mul_of_nonneg_left hsμ (show 0≤L+1 by grind);have e1:(L+1)*(ε*(1 / (L+1))*(1 / 2))=ε*(1 / 2):=by grind
   rw[e1]at h1;grind
  have hz:=Oi (F:=F) (a:=a) (s:=s) n fun j hjn=>by
   unfold IA;refine if_neg fun q=>?_;obtain⟨x1,x2⟩:=hj j Aa;obtain⟨y1,y2⟩:=hj (j+1) Aa;have bx:=EW (Ev (Std.le_refl (ab a)) (Av b)) (DC (Std.le_refl _) (Av a)) x1 x2;have by_:=EW (Ev (Std.le_refl (ab a)) (Av b)) (DC (Std.le_refl _) (Av a)) y1 y2;have hl:=hL _ _ bx by_;have ed:ab (a+((j:Nat):Rat)*s - (a+((j+1:Nat):Rat)*s))=s:=by
    have:a+((j:Nat):Rat)*s - (a+((j+1:Nat):Rat)*s) = - s:=by rw[CR];grind
    rw[this,Ic,DV (Std.le_of_lt hs)]
   rw[ed]at hl;have:=(Gl hl (fun t=>q.2 t.1.symm)).1;have h3:=hf _ x1 x2;grind
  rw[hz]at hv;exact hv
 ·rw[c]
 ·exfalso;grind
theorem dP{f:Nat→Rat}(hf:Af f)(h0:f≠pz){B z:Rat}(hB:1≤B)(hc:∀ i,i < pl f - 1→ab (f i)≤ab (ld f)*(B - 1))(hz:B≤ab z):ab (ld f)≤ab (ev f z):=by
 have hp:=Be hf h0;have hl:=Av (ld f);have key:∀ k,k < pl f→ab (ld f)≤ab (hor f z (pl f) (pl f - 1 - k)):=by
  intro k;induction k with
  | zero =>
   intro _;have e:=KJ f z (show pl f - 1 < pl f by omega);rw[show pl f - 1+1=pl f by omega,Pi,Rat.zero_mul,Rat.zero_add]at e;rw[Nat.sub_zero,e];exact Std.le_refl _
  | succ k ih =>
   intro hk;have h1:=ih Aa;have e:=KJ f z (show pl f - 1 - (k+1) < pl f by omega);rw[show pl f - 1 - (k+1)+1=pl f - 1 - k by omega]at e;have h2:=hc (pl f - 1 - (k+1)) Aa;have h3:ab (ld f)*ab z≤ab (hor f z (pl f) (pl f - 1 - k)*z):=by rw[Cm];exact Rat.mul_le_mul_of_nonneg_right h1 (Av _)
   have h4:ab (hor f z (pl f) (pl f - 1 - k)*z)≤ab (hor f z (pl f) (pl f - 1 - (k+1)))+ab (f (pl f - 1 - (k+1))):=by
    have:=Xz (hor f z (pl f) (pl f - 1 - (k+1))) (f (pl f - 1 - (k+1)));have e2:hor f z (pl f) (pl f - 1 - (k+1)) - f (pl f - 1 - (k+1))=hor f z (pl f) (pl f - 1 - k)*z:=by rw[e];grind
    rw[e2]at this;exact this
   have h5:ab (ld f)*B≤ab (ld f)*ab z:=Rat.mul_le_mul_of_nonneg_left hz hl;have h6:ab (ld f)*(B - 1)=ab (ld f)*B - ab (ld f):=by grind
   rw[h6]at h2;clear hc ih e h0 hf;grind
 have:=key (pl f - 1) Aa;rw[show pl f - 1 - (pl f - 1)=0 by omega,N9]at this;exact this
theorem Eu.beyond(h:Eu F K){f q:Nat→Rat}(hf:Af f)(h0:f≠pz)(fq:Af q)(e:f=cv q F){B:Rat}(hB:1≤B)(hc:∀ i,i < pl f - 1→ab (f i)≤ab (ld f)*(B - 1)){a b:Rat}(hab:a≤b)(hout:∀ z,a≤z→z≤b→B≤ab z):vx F K a=vx F K b:=by
 have hBn:0≤ab a+ab b:=by have:=Av a;have:=Av b;grind
 obtain⟨M,hM0,hM⟩:=Gv fq hBn;obtain⟨hi,ei⟩:=Ir (show 0 < M+1 by grind);have hl:0 < ab (ld f):=Ti.2 (D8 hf h0);refine h.flat hab (Rat.mul_pos hl hi) fun z h1 h2=>?_;have hc1:=dP hf h0 hB hc (hout z h1 h2);have hb:=hM z (EW (Ev (Std.le_refl (ab a)) (Av b)) (DC (Std.le_refl _) (Av a)) h1 h2);rw[e,Gm fq h.f,Cm,←e]at hc1;have hz:=Av (ev F z);have h3:ab (ev q z)*ab (ev F z)≤(M+1)*ab (ev F z):=Rat.mul_le_mul_of_nonneg_right Au hz
 have h4:=Std.le_trans hc1 h3;have h5:=Rat.mul_le_mul_of_nonneg_right h4 (Std.le_of_lt hi);have e2:(M+1)*ab (ev F z)*(1 / (M+1))=ab (ev F z):=by grind
 rw[e2]at h5;exact h5
theorem Eu.total(h:Eu F K){f q:Nat→Rat}(hf:Af f)(h0:f≠pz)(fq:Af q)(e:f=cv q F){B:Rat}(hB:1≤B)(hc:∀ i,i < pl f - 1→ab (f i)≤ab (ld f)*(B - 1)){a b:Rat}(hab:a≤b):vx F K a+vx F K B≤vx F K (-B)+vx F K b:=by
 -- the ends outside
 have h1:vx F K a≤vx F K (-B):=by
  rcases Std.lt_trichotomy a (-B)with c | c | c
  ·have:=h.beyond hf h0 fq e hB hc (Std.le_of_lt c) (fun z _ z2=>by
    unfold ab;rw[if_pos Au];grind)
   omega
  ·rw[c];exact Nat.le_refl _
  ·exact h.mono (Std.le_of_lt c)
 have h2:vx F K B≤vx F K b:=by
  rcases Std.lt_trichotomy B b with c | c | c
  ·have:=h.beyond hf h0 fq e hB hc (Std.le_of_lt c) (fun z z1 _=>by
    unfold ab;rw[if_neg Au];exact z1)
   omega
  ·rw[c];exact Nat.le_refl _
  ·exact h.mono (Std.le_of_lt c)
 omega
end
theorem Nv{P:Rat→Rat→Prop}{a b δ:Rat}(hδ:0 < δ)(hab:a < b)(hc:∀ x y,a≤x→x < y→y≤b→y - x≤δ→P x y)
  (ht:∀ x y z,a≤x→x < y→y < z→z≤b→P x y→P y z→P x z):P a b:=by
 obtain⟨n,s,hn,hs,hsδ,e,hj⟩:=cut hab hδ;have key:∀ k,k < n→P a (a+((k+1:Nat):Rat)*s):=by
  intro k;induction k with
  | zero =>
   intro h;have e1:a+((0+1:Nat):Rat)*s=a+s:=by rw[CR];show a+(0+1)*s=_;grind
   have:=(hj 1 Aa).2;rw[show((1:Nat):Rat)=((0+1:Nat):Rat)from rfl]at this;rw[e1]at this ⊢;exact hc a (a+s) (Std.le_refl _) Au this Au
  | succ k ih =>
   intro h;have e1:a+((k+1+1:Nat):Rat)*s=a+((k+1:Nat):Rat)*s+s:=by rw[CR];grind
   have h1:=hj (k+1) Aa;have h2:=hj (k+1+1) Aa;have h3:a < a+((k+1:Nat):Rat)*s:=by
    have:=Rat.mul_nonneg (Er k) (Std.le_of_lt hs);rw[CR];grind
   refine ht a (a+((k+1:Nat):Rat)*s) _ (Std.le_refl _) h3 (by rw[e1];grind) h2.2 (ih Aa) ?_;exact hc _ _ h1.1 (by rw[e1];grind) h2.2 (by rw[e1];grind)
 have:=key (n - 1) Aa;rw[show n - 1+1=n by omega,e]at this;exact this
noncomputable def rt(F:Nat→Rat)(K:Nat)(p q:Rat):Int:=(vx F K p:Int) - (vx F K q:Int)
section
variable{F:Nat→Rat}{K:Nat}
theorem IU(F:Nat→Rat)(K:Nat)(p q r:Rat):rt F K p q+rt F K q r=rt F K p r:=by unfold rt;omega
theorem Mc(F:Nat→Rat)(K:Nat)(p:Rat):rt F K p p=0:=by unfold rt;omega
theorem Eu.rt_nonneg(h:Eu F K){p q:Rat}(hpq:p≤q):0≤rt F K p q:=by have:=h.mono hpq;unfold rt;omega
theorem Eu.rt_sub(h:Eu F K){p x y q:Rat}(h1:p≤x)(h2:x≤y)(h3:y≤q):rt F K x y≤rt F K p q:=by
 have:=h.rt_nonneg h1;have:=h.rt_nonneg h3;have:=IU F K p x y;have:=IU F K p y q;omega
theorem Eu.loc(h:Eu F K)(a b:Rat):∃ δ:Rat,0 < δ∧∀ x y,a≤x→x < y→y≤b→y - x≤δ→rt F K x y=IA F x y:=by
 have hB:0≤ab a+ab b:=by have:=Av a;have:=Av b;grind
 obtain⟨δ,hδ,hl⟩:=h.local_ hB;refine⟨δ,hδ,fun x y h1 h2 h3 h4=>?_⟩;have:=hl x y (EW (Ev (Std.le_refl (ab a)) (Av b)) (DC (Std.le_refl _) (Av a)) h1 Au)
  (EW (Ev (Std.le_refl (ab a)) (Av b)) (DC (Std.le_refl _) (Av a)) Au h3) h2 h4
 unfold rt;omega
theorem IG{q:Rat}(h:BM q≠0):q≠0:=fun e=>h (Dw.2 e)
theorem PT{q:Rat}(h:q≠0):BM q≠0:=fun e=>h (Dw.1 e)
theorem Wu{x y:Rat}(h:(IA F x y:Int)=0)(hx:ev F x≠0):BM (ev F y)=BM (ev F x):=by
 unfold IA at h
 split at h
 ·omega
 ·rename_i c
  exact Classical.byContradiction fun e=>c ⟨hx,e⟩
theorem Zd{x y:Rat}(hx:ev F x≠0)(h:BM (ev F y)≠BM (ev F x)):(IA F x y:Int)=1:=by
 unfold IA;rw[if_pos ⟨hx,h⟩];rfl
theorem aX(F:Nat→Rat)(x y:Rat):0≤(IA F x y:Int)∧(IA F x y:Int)≤1:=by
 unfold IA;split<;>simp
theorem Eu.sg_const(h:Eu F K){p q:Rat}(hpq:p≤q)(h0:rt F K p q=0)(hp:ev F p≠0):BM (ev F q)=BM (ev F p):=by
 rcases Std.lt_trichotomy p q with c | c | c
 ·obtain⟨δ,hδ,hl⟩:=h.loc p q
  refine Nv (P:=fun x y=>rt F K x y=0→ev F x≠0→BM (ev F y)=BM (ev F x)) hδ c (fun x y a b c d e f=>?_) (fun x y z a b c d e f g k=>?_) h0 hp
  ·rw[hl x y a b c d]at e
   exact Wu e f
  ·have h1:=h.rt_nonneg (Std.le_of_lt b)
   have h2:=h.rt_nonneg (Std.le_of_lt c);have h3:=IU F K x y z;have e1:=e Aa k;have e2:=f Aa (IG (by rw[e1];exact PT k));rw[e2,e1]
 ·rw[c]
 ·exfalso;grind
theorem NR(hf:Af F)(h0:F≠pz){p z δ:Rat}(hp:p < z)(hδ:0 < δ):∃ x,p < x∧x < z∧z - x≤δ∧ev F x≠0:=by
 obtain⟨μ,hμ,m1,m2⟩:∃ μ:Rat,0 < μ∧μ≤δ∧μ < z - p:=by
  rcases Std.lt_trichotomy δ (z - p)with c | c | c
  ·exact⟨δ,hδ,Std.le_refl _,c⟩
  ·exact⟨δ / 2,Au,Au,Au⟩
  ·exact⟨(z - p) / 2,Au,Au,Au⟩
 refine Classical.byContradiction fun hn=>?_;have hz:∀ x,z - μ≤x→x < z→ev F x=0:=fun x a b=>Classical.byContradiction fun e=>hn ⟨x,Au,b,Au,e⟩;have hpl:=Be hf h0;obtain⟨n,hn'⟩:∃ n,n=pl F:=⟨_,rfl⟩
 have hn0:(0:Rat) < ((n:Nat):Rat):=by rw[hn'];exact_mod_cast hpl
 obtain⟨hi,ei⟩:=Ir hn0;obtain⟨s,hs⟩:∃ s,s=μ*(1 / ((n:Nat):Rat)):=⟨_,rfl⟩
 have hs0:0 < s:=by rw[hs];exact Rat.mul_pos hμ hi
 have ens:((n:Nat):Rat)*s=μ:=by rw[hs];grind
 have hlist:((List.range n).map fun j:Nat=>z - μ+((j:Nat):Rat)*s).Nodup:=by
  rw[List.nodup_iff_pairwise_ne,List.pairwise_map];refine List.Pairwise.imp ?_ List.pairwise_lt_range;intro i j hij e;have hij':((i:Nat):Rat)+1≤((j:Nat):Rat):=by rw[←CR];exact_mod_cast hij
  have:=Rat.mul_le_mul_of_nonneg_right hij' (Std.le_of_lt hs0);grind
 refine h0 (Ip (l:=(List.range n).map fun j:Nat=>z - μ+((j:Nat):Rat)*s) (by rw[List.length_map,List.length_range,hn'];exact AU hf) hlist ?_);intro x hx;obtain⟨j,hj,rfl⟩:=List.mem_map.1 hx;have hj:=List.mem_range.1 hj;have h1:=Rat.mul_nonneg (Er j) (Std.le_of_lt hs0);have hij':((j:Nat):Rat)+1≤((n:Nat):Rat):=by rw[←CR];exact_mod_cast hj
 have:=Rat.mul_le_mul_of_nonneg_right hij' (Std.le_of_lt hs0);exact hz _ Au Au
theorem Eu.zero_counts(h:Eu F K){p z q:Rat}(h1:p < z)(h2:z≤q)(hz:ev F z=0):1≤rt F K p q:=by
 obtain⟨δ,hδ,hl⟩:=h.loc p z;obtain⟨x,a,b,c,d⟩:=NR h.f h.n h1 hδ;have e1:=hl x z (Std.le_of_lt a) b (Std.le_refl _) c;rw[Zd d (by rw[hz,Dw.2 rfl];exact fun e=>PT d e.symm)]at e1;have:=h.rt_sub (Std.le_of_lt a) (Std.le_of_lt b) h2;omega
theorem Eu.change_counts(h:Eu F K){p q:Rat}(hpq:p≤q)(hp:ev F p≠0)(hc:BM (ev F q)≠BM (ev F p)):1≤rt F K p q:=by
 have h1:=h.rt_nonneg hpq;rcases Int.lt_or_le 0 (rt F K p q)with a | a
 ·exact a
 ·exact absurd (h.sg_const hpq Aa hp) hc
theorem Eu.free(h:Eu F K){p q x y:Rat}(h0:rt F K p q=0)(h1:p < x)(h2:x≤y)(h3:y≤q):ev F x≠0∧BM (ev F y)=BM (ev F x):=by
 have hx:ev F x≠0:=fun e=>by
  have:=h.zero_counts h1 (Std.le_trans h2 h3) e;omega
 have:=h.rt_sub (Std.le_of_lt h1) h2 h3;have:=h.rt_nonneg h2;exact⟨hx,h.sg_const h2 Aa hx⟩
end
theorem M6(p q:Rat):BM (p*q)=BM p*BM q:=by
 rcases Std.lt_trichotomy p 0 with a | a | a
 ·rcases Std.lt_trichotomy q 0 with b | b | b
  ·have:=Ry a b
   unfold BM;rw[if_pos this,if_neg Au,if_pos a,if_neg Au,if_pos b];rfl
  ·rw[b,Rat.mul_zero,show BM 0=0 from Dw.2 rfl];simp
  ·have:=JL b a
   rw[Rat.mul_comm]at this;unfold BM;rw[if_neg Au,if_pos this,if_neg Au,if_pos a,if_pos b];rfl
 ·rw[a,Rat.zero_mul,show BM 0=0 from Dw.2 rfl];simp
 ·rw[Gh a]
  unfold BM;rw[if_pos a];simp
theorem Ec.cell{A B:Nat→Rat}(fA:Af A)(fB:Af B)(c:Ec A B)(a b:Rat):∃ δ:Rat,0 < δ∧∀ x y,a≤x→x < y→y≤b→y - x≤δ →
  (BM (ev A y)=BM (ev A x)∧ev A x≠0)∨(BM (ev B y)=BM (ev B x)∧ev B x≠0):=by
 obtain⟨U,W,fU,fW,e⟩:=c;have hB:0≤ab a+ab b:=by have:=Av a;have:=Av b;grind
 obtain⟨M,hM0,hM⟩:=Gv fU hB;obtain⟨N,hN0,hN⟩:=Gv fW hB;obtain⟨L,hL0,hL⟩:=P7 fA hB;obtain⟨R,hR0,hR⟩:=P7 fB hB;obtain⟨T,hT⟩:∃ T,T=M*L+N*R+1:=⟨_,rfl⟩
 have hML:=Rat.mul_nonneg hM0 hL0;have hNR:=Rat.mul_nonneg hN0 hR0;obtain⟨hi,ei⟩:=Ir (show 0 < T by grind);refine⟨1 / T*(1 / 2),Au,fun x y h1 h2 h3 h4=>?_⟩;have bx:=EW (Ev (Std.le_refl (ab a)) (Av b)) (DC (Std.le_refl _) (Av a)) h1 (show x≤b by grind);have by_:=EW (Ev (Std.le_refl (ab a)) (Av b)) (DC (Std.le_refl _) (Av a)) (show a≤y by grind) h3;have eab:ab (x - y)=y - x:=by rw[show x - y = -(y - x) by grind,Ic,DV Au]
 have l1:=hL x y bx by_;have l2:=hR x y bx by_;rw[eab]at l1 l2;by_cases c1:BM (ev A x)=BM (ev A y)∧BM (ev A x)≠0
 ·exact .inl ⟨c1.1.symm,IG c1.2⟩
 by_cases c2:BM (ev B x)=BM (ev B y)∧BM (ev B x)≠0
 ·exact .inr ⟨c2.1.symm,IG c2.2⟩
 exfalso;have s1:=(Gl l1 c1).1;have s2:=(Gl l2 c2).1;have e1:ev U x*ev A x+ev W x*ev B x=1:=by
  rw[←Gm fU fA,←Gm fW fB,←JR (fU.cv fA) (fW.cv fB),e];have:ev pone x=CV 1 pone x:=F6 Ey x;rw[this];show pone 0+x*0=1;show(1:Rat)+x*0=1;grind
 have h5:ab (ev U x*ev A x)≤M*(L*(y - x)):=by rw[Cm];exact EZ (hM x bx) s1 (Av _) hM0
 have h6:ab (ev W x*ev B x)≤N*(R*(y - x)):=by rw[Cm];exact EZ (hN x bx) s2 (Av _) hN0
 have h7:=FO (ev U x*ev A x) (ev W x*ev B x);rw[e1,show ab 1=1 from by decide]at h7;have h8:=Rat.mul_le_mul_of_nonneg_left h4 (show 0≤T by grind);have e8:T*(1 / T*(1 / 2))=1 / 2:=by grind
 rw[e8]at h8;have e9:M*(L*(y - x))+N*(R*(y - x))=T*(y - x) - (y - x):=by rw[hT];grind
 grind
theorem Eu.rt_mul{A B:Nat→Rat}{K L M:Nat}(hA:Eu A K)(hB:Eu B L)(hC:Eu (cv A B) M)(c:Ec A B){p q:Rat}(hpq:p≤q):rt (cv A B) M p q=rt A K p q+rt B L p q:=by
 rcases Std.lt_trichotomy p q with hlt | heq | hgt
 ·obtain⟨d1,g1,l1⟩:=hA.loc p q
  obtain⟨d2,g2,l2⟩:=hB.loc p q;obtain⟨d3,g3,l3⟩:=hC.loc p q;obtain⟨d4,g4,l4⟩:=c.cell hA.f hB.f p q;obtain⟨d,hd,q1,q2,q3,q4⟩:∃ d:Rat,0 < d∧d≤d1∧d≤d2∧d≤d3∧d≤d4:=by
   have two:∀ u v:Rat,0 < u→0 < v→∃ w,0 < w∧w≤u∧w≤v:=fun u v hu hv=>by
    rcases Std.lt_trichotomy u v with c | c | c
    ·exact⟨u,hu,Std.le_refl _,Std.le_of_lt c⟩
    ·exact⟨u,hu,Std.le_refl _,Au⟩
    ·exact⟨v,hv,Std.le_of_lt c,Std.le_refl _⟩
   obtain⟨u,hu,u1,u2⟩:=two d1 d2 g1 g2;obtain⟨v,hv,v1,v2⟩:=two d3 d4 g3 g4;obtain⟨w,hw,w1,w2⟩:=two u v hu hv;exact⟨w,hw,Au,Au,Au,Au⟩
  refine Nv (P:=fun x y=>rt (cv A B) M x y=rt A K x y+rt B L x y) hd hlt (fun x y a1 a2 a3 a4=>?_) (fun x y z a1 a2 a3 a4 e f=>?_)
  ·rw[l1 x y a1 a2 a3 Au,l2 x y a1 a2 a3 Au,l3 x y a1 a2 a3 Au]
   have e1:=Gm hA.f hB.f x;have e2:=Gm hA.f hB.f y;rcases l4 x y a1 a2 a3 Au with⟨s,n⟩ | ⟨s,n⟩
   ·have j1:IA A x y=0:=by unfold IA;exact if_neg fun q=>q.2 s
    have j2:IA (cv A B) x y=IA B x y:=by
     unfold IA;rw[e1,e2,M6,M6,s];have hs:=PT n;have:(ev A x*ev B x≠0∧BM (ev A x)*BM (ev B y)≠BM (ev A x)*BM (ev B x))↔(ev B x≠0∧BM (ev B y)≠BM (ev B x)):=by
      refine and_congr ⟨fun h e=>h (by rw[e,Rat.mul_zero]),fun h e=>?_⟩ ⟨fun h e=>h (by rw[e]),fun h e=>h (Int.eq_of_mul_eq_mul_left hs e)⟩;rcases Rat.mul_eq_zero.1 e with k | k
      ·exact n k
      ·exact h k
     simp only[this]
    omega
   ·have j1:IA B x y=0:=by unfold IA;exact if_neg fun q=>q.2 s
    have j2:IA (cv A B) x y=IA A x y:=by
     unfold IA;rw[e1,e2,M6,M6,s];have hs:=PT n;have:(ev A x*ev B x≠0∧BM (ev A y)*BM (ev B x)≠BM (ev A x)*BM (ev B x))↔(ev A x≠0∧BM (ev A y)≠BM (ev A x)):=by
      refine and_congr ⟨fun h e=>h (by rw[e,Rat.zero_mul]),fun h e=>?_⟩ ⟨fun h e=>h (by rw[e]),fun h e=>h (Int.eq_of_mul_eq_mul_right hs e)⟩;rcases Rat.mul_eq_zero.1 e with k | k
      ·exact h k
      ·exact n k
     simp only[this]
    omega
  ·have h1:=IU (cv A B) M x y z;have h2:=IU A K x y z;have h3:=IU B L x y z
   omega
 ·rw[heq,Mc,Mc,Mc];rfl
 ·exfalso;grind
def Jr(B:Rat)(F:Nat→Rat):Prop:=∀ i,ab (F i)≤B
theorem Df{a b c:Rat}(h:a≤b)(hc:0≤c):a*c≤b*c:=Rat.mul_le_mul_of_nonneg_right h hc
theorem D5{a b c:Rat}(h:a≤b)(hc:0≤c):c*a≤c*b:=Rat.mul_le_mul_of_nonneg_left h hc
theorem Jr.lin{F:Nat→Rat}{B R a:Rat}(h:Jr B F)(ha:ab a≤R):Jr (B*(1+R)) (cv F (Hp.lin a)):=by
 intro i;have hB:0≤B:=by have:=h 0;have:=Av (F 0);grind
 have e:cv F (Hp.lin a)=pad (psc (-a) F) (cs 0 F):=by rw[Bw];unfold Hp.lin;rw[LA,Db]
 have e2:cv F (Hp.lin a) i = -a*F i+cs 0 F i:=by rw[e];rfl
 have h1:ab (cs 0 F i)≤B:=by
  cases i with
  | zero=>show ab 0≤B;rw[show ab 0=0 from by decide];exact hB
  | succ i=>exact h i
 rw[e2];have h2:=FO (-a*F i) (cs 0 F i);have h3:ab (-a*F i)=ab a*ab (F i):=by rw[Cm,Ic]
 have h4:ab a*ab (F i)≤R*B:=by
  have:=Df ha (Av (F i));have h0:0≤R:=by have:=Av a;grind
  have:=D5 (h i) h0;grind
 grind
theorem dL:ab 1=1:=by decide
theorem DD:ab 0=0:=by decide
theorem Jr.lgp{X:Nat→Rat}{R:Rat}(i:Nat)(h0:0≤R):∀ n,(∀ k,k < n→ab (X k)≤R)→Jr ((1+R)^n) (lgp X i n)
 | 0,_=>fun j=>by
  rw[Rat.pow_zero];show ab (pone j)≤1;unfold pone;cases j with
  | zero=>show ab 1≤1;rw[dL];grind
  | succ j=>show ab 0≤1;rw[DD];grind
 | n+1,h=>by
  have ih:=Jr.lgp i h0 n fun k hk=>h k Aa;rw[FH,Rat.pow_succ]
  split
  ·intro j
   have h1:=ih j;have h2:0≤(1+R)^n:=by have:=ih 0;have:=Av (Hp.lgp X i n 0);grind
   have h3:(1+R)^n*0≤(1+R)^n*R:=D5 h0 h2;grind
  ·exact ih.lin (h n Aa)
theorem TL{a b:Rat}(h0:0≤a)(h:a≤b):∀ n:Nat,0≤a^n∧a^n≤b^n
 | 0=>by rw[Rat.pow_zero,Rat.pow_zero];exact⟨Ab,Au⟩
 | n+1=>by
  have ih:=TL h0 h n;rw[Rat.pow_succ,Rat.pow_succ];have h1:=Df ih.2 h0;have h2:0≤b^n:=by grind
  have h3:=D5 h h2;have h4:=Df ih.1 h0;exact⟨Au,Au⟩
theorem Jr.psc{F:Nat→Rat}{B:Rat}(h:Jr B F){a A:Rat}(ha:ab a≤A):Jr (A*B) (psc a F):=fun i=>by
 show ab (a*F i)≤_;rw[Cm];have h1:=Df ha (Av (F i));have h0:0≤A:=by have:=Av a;grind
 have h2:=D5 (h i) h0;grind
theorem Jr.pad{F G:Nat→Rat}{A B:Rat}(h:Jr A F)(k:Jr B G):Jr (A+B) (pad F G):=fun i=>by
 show ab (F i+G i)≤_;have:=FO (F i) (G i);have:=h i;have:=k i;grind
theorem Q4{F:Nat→Rat}{B R x:Rat}(h:Jr B F)(h0:0≤R)(hx:ab x≤R):∀ n,ab (CV n F x)≤B*(n:Rat)*(1+R)^n
 | 0=>by
  have hB:0≤B:=by have:=h 0;have:=Av (F 0);grind
  show ab 0≤_;rw[DD,Rat.pow_zero];show(0:Rat)≤B*0*1;grind
 | n+1=>by
  have hB:0≤B:=by have:=h 0;have:=Av (F 0);grind
  have ih:=Q4 (F:=tl F) (fun i=>h (i+1)) h0 hx n;rw[DZ,Rat.pow_succ];have h1:=FO (F 0) (x*CV n (tl F) x);have h2:=h 0;have h3:ab (x*CV n (tl F) x)=ab x*ab (CV n (tl F) x):=Cm _ _;have h4:=Df hx (Av (CV n (tl F) x));have h5:=D5 ih h0;have hp:=TL (a:=1) (b:=1+R) Ab Au n;have hp2:(1:Rat)^n=1:=by
   clear ih h1 h2 h3 h4 h5 hp;induction n with
   | zero=>rfl
   | succ n ih=>rw[Rat.pow_succ,ih];grind
  rw[hp2]at hp;have hn0:(0:Rat)≤(n:Rat):=by exact_mod_cast Nat.zero_le n
  obtain⟨P,hP⟩:∃ P,P=(1+R)^n:=⟨_,rfl⟩
  rw[←hP]at h5 hp ⊢;have hc:(((n+1:Nat):Rat))=(n:Rat)+1:=by push_cast;rfl
  rw[hc];have hBn:0≤B*(n:Rat):=by have:=D5 hn0 hB;grind
  have q1:R*(B*(n:Rat)*P)≤B*(n:Rat)*P*(1+R):=by
   have:0≤B*(n:Rat)*P:=by have:=D5 (show(0:Rat)≤P by grind) hBn;grind
   grind
  have q2:B*1≤B*(P*(1+R)):=D5 (by
   have:=Df hp.2 (show 0≤1+R by grind);grind) hB
  grind
theorem K4(x:Int):ab (x:Rat)=((x.natAbs:Nat):Rat):=by
 unfold ab
 split
 ·rename_i h
  have:x < 0:=by exact_mod_cast h
  have e:((x.natAbs:Nat):Int) = -x:=by omega
  rw[show((x.natAbs:Nat):Rat)=(((x.natAbs:Nat):Int):Rat)from rfl,e];simp
 ·rename_i h
  have:0≤x:=Int.not_lt.1 fun h'=>h (by exact_mod_cast h');have e:((x.natAbs:Nat):Int)=x:=by omega
  rw[show((x.natAbs:Nat):Rat)=(((x.natAbs:Nat):Int):Rat)from rfl,e]
theorem VP{y z Y:Rat}(hy:ab y≤Y)(hz:1≤ab z):ab (y / z)≤Y:=by
 have hne:z≠0:=fun e=>by rw[e,DD]at hz;exact absurd hz Ab
 have h1:ab (y / z)*ab z=ab y:=by rw[←Cm,show y / z*z=y by grind]
 have h2:=D5 hz (Av (y / z));grind
theorem ZI.lgp{X:Nat→Rat}(i:Nat):∀ n,(∀ k,k < n→∃ m:Int,X k=(m:Rat))→ZI (lgp X i n)
 | 0,_=>fun j=>by cases j with | zero=>exact⟨1,rfl⟩ | succ j=>exact⟨0,rfl⟩
 | n+1,h=>by
  have ih:=ZI.lgp i n fun k hk=>h k Aa;rw[FH]
  split
  ·exact ih
  ·obtain⟨m,hm⟩:=h n Aa
   have e:Hp.cv (Hp.lgp X i n) (lin (X n))=Hp.pad (Hp.psc (-X n) (Hp.lgp X i n)) (cs 0 (Hp.lgp X i n)):=by rw[Bw];unfold lin;rw[LA,Db]
   intro j;rw[e];obtain⟨a,ha⟩:=ih j;obtain⟨b,hb⟩:∃ b:Int,cs 0 (Hp.lgp X i n) j=(b:Rat):=by
    cases j with
    | zero=>exact⟨0,rfl⟩
    | succ j=>exact ih j
   refine⟨-m*a+b,?_⟩;show -X n*Hp.lgp X i n j+cs 0 (Hp.lgp X i n) j=_;rw[ha,hb,hm]
   push_cast
   rfl
theorem Zl{F D:Nat→Rat}{n:Nat}{B:Rat}(zF:ZI F)(fF:Af F)(h0:F≠pz)(zD:ZI D)(fD:Af D)(hd:GZ F D)(hn:pl F≤n)(hB:Jr B F) :
  Jr ((n:Rat)*(B*(n:Rat)*(1+2*(n:Rat))^n*(1+2*(n:Rat))^n)) D:=by
 obtain⟨X,hA,hX⟩:=Od fF h0 hn;obtain⟨Q,zQ,fQ,e⟩:=hd;obtain⟨R,hR⟩:∃ R:Rat,R=2*(n:Rat):=⟨_,rfl⟩
 have hR0:0≤R:=by
  have:(0:Rat)≤(n:Rat):=by exact_mod_cast Nat.zero_le n
  grind
 rw[←hR];have hXi:∀ k,k < n→∃ m:Int,X k=(m:Rat):=fun k hk=>by obtain⟨-,m,-,h2⟩:=hX k hk;exact⟨m,h2⟩
 have hXR:∀ k,k < n→ab (X k)≤R:=fun k hk=>by
  obtain⟨-,m,h1,h2⟩:=hX k hk;rw[h2,K4,hR];have:((((m:Nat):Int).natAbs:Nat):Rat)=((m:Nat):Rat):=by simp
  rw[this];have h3:((m:Nat):Rat)≤((2*n:Nat):Rat):=by exact_mod_cast Nat.le_of_lt h1
  have h4:((2*n:Nat):Rat)=2*(n:Rat):=by push_cast;rfl
  grind
 obtain⟨YY,hYY⟩:∃ YY,YY=B*(n:Rat)*(1+R)^n:=⟨_,rfl⟩
 rw[←hYY];have hY:∀ k,k < n→ab (ev D (X k))≤YY:=fun k hk=>by
  obtain⟨h3,m,-,h4⟩:=hX k hk;have h1:=Q4 hB hR0 (hXR k hk) n;rw[←F6 ((AU fF).mono hn),←hYY]at h1;have h5:ev F (X k)=ev Q (X k)*ev D (X k):=by rw[e,Gm fQ fD]
  rw[h4]at h1 h3 h5 ⊢;obtain⟨a,ha⟩:=Ml zF (m:Int);obtain⟨b,hb⟩:=Ml zQ (m:Int);obtain⟨c,hc⟩:=Ml zD (m:Int);rw[ha]at h1 h3;rw[ha,hb,hc]at h5;rw[hc];have h6:a=b*c:=by exact_mod_cast h5
  have h7:a≠0:=fun e=>h3 (by rw[e];rfl);have h8:c.natAbs≤a.natAbs:=Nat.le_of_dvd Aa (Int.natAbs_dvd_natAbs.2 ⟨b,by rw[h6,Int.mul_comm]⟩);rw[K4]at h1 ⊢;have:((c.natAbs:Nat):Rat)≤((a.natAbs:Nat):Rat):=by exact_mod_cast h8
  grind
 have hDn:D≠pz:=fun e2=>h0 (by rw[e,e2,Kk]);have hDl:pl D≤pl F:=Dv.le fD fF h0 ⟨Q,fQ,e⟩;obtain⟨Y,hYe⟩:∃ Y,Y=fun k=>ev D (X k):=⟨_,rfl⟩
 have hD:D=Z4 X Y n n:=Kl hA ((AU fD).mono Aa) (Ps X Y n n (Nat.le_refl _)) fun k hk=>by
  rw[Yl hA hk n (Nat.le_refl _),if_pos hk,hYe]
 have hc:∀ j,j < n→Jr (YY*(1+R)^n) (dY X Y n j):=fun j hj=>by
  refine(Jr.lgp (R:=R) j hR0 n hXR).psc (VP (by rw[hYe];exact hY j hj) ?_);have h1:=WE X (i:=j) (n:=n) (x:=X j) fun k hk hne=>hA.ne hj hk hne;obtain⟨m,hm⟩:=hXi j hj;rw[hm]at h1 ⊢;obtain⟨y,hy⟩:=Ml (ZI.lgp j n hXi) m;rw[hy]at h1 ⊢;rw[K4];have:y≠0:=fun e=>h1 (by rw[e];rfl);have h2:1≤y.natAbs:=by omega
  exact_mod_cast h2
 have hl:∀ m,m≤n→Jr ((m:Rat)*(YY*(1+R)^n)) (Z4 X Y n m):=by
  intro m;induction m with
  | zero =>
   intro _ i;show ab 0≤(0:Rat)*_;rw[DD];grind
  | succ m ih =>
   intro h i;have h1:=((ih Aa).pad (hc m h)) i;have hc:(((m+1:Nat):Rat))=(m:Rat)+1:=by push_cast;rfl
   rw[hc];show ab (Hp.pad (Z4 X Y n m) (dY X Y n m) i)≤_;grind
 rw[hD];exact hl n (Nat.le_refl _)
noncomputable def Et(F:Nat→Rat):Nat→Rat
 | 0=>0
 | k+1=>if Et F k < ab (F k / ld F)then ab (F k / ld F)else Et F k
theorem EP(F:Nat→Rat):∀ k,0≤Et F k
 | 0=>by show(0:Rat)≤0;decide
 | k+1=>by
  rw[Et]
  split
  ·exact Av _
  ·exact EP F k
theorem Xf(F:Nat→Rat){i:Nat}:∀ {k},i < k→ab (F i / ld F)≤Et F k
 | 0,h=>by omega
 | k+1,h=>by
  rw[Et];rcases Nat.lt_or_ge i k with a | a
  ·have:=Xf F (k:=k) a
   split<;>grind
  ·obtain rfl:i=k:=by omega
   split<;>grind
theorem Lu(q:Rat):qsz (ab q)=qsz q:=by
 unfold ab
 split
 ·exact G6 q
 ·rfl
theorem Jl{F:Nat→Rat}{s:Nat}(h:∀ i,qsz (F i)≤s)(hs:1≤s):∀ k,qsz (Et F k)≤2*s
 | 0=>by show qsz 0≤_;rw[GJ];omega
 | k+1=>by
  rw[Et]
  split
  ·rw[Lu]
   have h1:=Fu (F k) (ld F);have h2:=h k;have h3:qsz (ld F)≤s:=h _;omega
  ·exact Jl h hs k
def P2(r:Rat)(j:Nat):Prop:=r < 2^j∧∀ i,i < j→(2:Rat)^i≤r
theorem P2.uniq{r:Rat}{i j:Nat}(h:P2 r i)(k:P2 r j):i=j:=by
 rcases Nat.lt_trichotomy i j with a | a | a
 ·have:=k.2 i a;have:=h.1;grind
 ·exact a
 ·have:=h.2 j a;have:=k.1;grind
theorem BH(n:Nat):((2:Rat)^n)=((2^n:Nat):Rat):=by
 induction n with
 | zero=>rfl
 | succ n ih=>rw[Rat.pow_succ,ih,Nat.pow_succ];push_cast;rfl
theorem P2.ex{r:Rat}{N:Nat}(h:r≤(N:Rat)):∃ j,P2 r j∧j≤N:=by
 have hN:r < 2^N:=by
  have h1:N < 2^N:=Nat.lt_two_pow_self;have h2:(N:Rat) < ((2^N:Nat):Rat):=by exact_mod_cast h1
  rw[BH];grind
 have key:∀ n,r < 2^n→∃ j,P2 r j∧j≤n:=by
  intro n;induction n with
  | zero=>intro h;exact⟨0,⟨h,fun i hi=>Aa⟩,Nat.le_refl _⟩
  | succ n ih =>
   intro hn;by_cases h1:r < 2^n
   ·obtain⟨j,a,b⟩:=ih h1
    exact⟨j,a,Aa⟩
   ·refine⟨n+1,⟨hn,fun i hi=>?_⟩,Nat.le_refl _⟩
    have h3:(2:Nat)^i≤2^n:=Nat.pow_le_pow_right Ab Aa;have h4:((2^i:Nat):Rat)≤((2^n:Nat):Rat):=by exact_mod_cast h3
    rw[←BH,←BH]at h4;grind
 exact key N hN
theorem M0{m n:Nat}(h:m≤n):((m:Nat):Rat)≤((n:Nat):Rat):=by exact_mod_cast h
theorem Cq(n:Nat):(0:Rat) < 2^n:=by rw[BH];exact_mod_cast Nat.two_pow_pos n
theorem OZ(n:Nat):(1:Rat)≤2^n:=by rw[BH];exact_mod_cast Nat.one_le_two_pow
theorem NF{m n:Nat}(h:m≤n):(2:Rat)^m≤2^n:=by rw[BH,BH];exact_mod_cast Nat.pow_le_pow_right Ab h
theorem E8(m n:Nat):(2:Rat)^(m+n)=2^m*2^n:=by rw[BH,BH,BH,Nat.pow_add];push_cast;rfl
theorem Ov(n:Nat):((n:Nat):Rat)≤2^n:=by rw[BH];exact_mod_cast Nat.le_of_lt Nat.lt_two_pow_self
theorem RQ{a b c d:Rat}(h1:a≤b)(h2:c≤d)(hc:0≤c)(hb:0≤b):a*c≤b*d:=EZ h1 h2 hc hb
theorem NC{q:Rat}{s:Nat}(h:qsz q≤s):ab q≤2^(32*s)∧(q≠0→1≤ab q*2^(32*s)):=by
 have hn:q.num.natAbs≤2^(32*s):=by
  have:=EU.1 (Nat.le_trans (Ht q) h);rw[Cw]at this;omega
 have hd:q.den≤2^(32*s):=by
  have:=EU.1 (Nat.le_trans (Fh q) h);rw[Cw,Int.natAbs_natCast]at this;omega
 have hd0:(0:Rat) < ((q.den:Nat):Rat):=by exact_mod_cast q.den_pos
 have hd1:(1:Rat)≤((q.den:Nat):Rat):=by exact_mod_cast q.den_pos
 have e:q*((q.den:Nat):Rat)=(q.num:Rat):=by
  have:=K6 q;have h0:((q.den:Nat):Rat)≠0:=by grind
  grind
 have e2:ab q*((q.den:Nat):Rat)=((q.num.natAbs:Nat):Rat):=by
  rw[←K4,←e,Cm,DV (Std.le_of_lt hd0)]
 have hq:=Av q;rw[BH];constructor
 ·have h1:((q.num.natAbs:Nat):Rat)≤((2^(32*s):Nat):Rat):=M0 hn
  have h2:=RQ (Std.le_refl (ab q)) hd1 Ab hq;grind
 ·intro hq0
  have h1:(1:Rat)≤((q.num.natAbs:Nat):Rat):=by
   have:1≤q.num.natAbs:=by
    have:q.num≠0:=fun e=>hq0 (Rat.num_eq_zero.1 e);omega
   exact_mod_cast this
  have h2:=RQ (Std.le_refl (ab q)) (M0 hd) (Std.le_of_lt hd0) hq;grind
theorem dB{F:Nat→Rat}(z:ZI F){i:Nat}(h:F i≠0):1≤ab (F i):=by
 obtain⟨m,hm⟩:=z i;rw[hm,K4];have:m≠0:=fun e=>h (by rw[hm,e];rfl);have:1≤m.natAbs:=by omega
 exact_mod_cast this
theorem YW{F:Nat→Rat}(h:F≠pz):∃ i,F i≠0:=Classical.byContradiction fun e=>h (funext fun i=>Classical.byContradiction fun k=>e ⟨i,k⟩)
theorem Ld(m:Nat):∀ n:Nat,((m:Nat):Rat)^n=((m^n:Nat):Rat)
 | 0=>rfl
 | n+1=>by rw[Rat.pow_succ,Ld m n,Nat.pow_succ];push_cast;rfl
theorem Tg{F:Nat→Rat}{a b n:Nat}(h:Jr (2^a) F){x:Rat}(hx:ab x≤2^b - 1):ab (CV n F x)≤2^(a+n+b*n):=by
 have h1:=Q4 h (show(0:Rat)≤2^b - 1 by have:=OZ b;grind) hx n;have e:(1:Rat)+(2^b - 1)=2^b:=by grind
 have e2:((2:Rat)^b)^n=2^(b*n):=by
  rw[BH,BH,Nat.pow_mul];exact Ld (2^b) n
 rw[e,e2]at h1;rw[E8,E8];have h2:=RQ (RQ (Std.le_refl ((2:Rat)^a)) (Ov n) (Er n) (Std.le_of_lt (Cq a))) (Std.le_refl ((2:Rat)^(b*n))) (Std.le_of_lt (Cq _)) (Rat.mul_nonneg (Std.le_of_lt (Cq a)) (Std.le_of_lt (Cq n)));exact Std.le_trans h1 h2
theorem Jr.tl{F:Nat→Rat}{B:Rat}(h:Jr B F):Jr B (Hp.tl F):=fun i=>h (i+1)
theorem Re{a b:Nat}{x y:Rat}(hx:ab x≤2^b - 1)(hy:ab y≤2^b - 1):∀(n:Nat) (F:Nat→Rat),Jr (2^a) F→ab (CV n F x - CV n F y)≤2^(a+2*n+b*n)*ab (x - y)
 | 0,F,_=>by
  show ab (0 - 0)≤_;rw[show(0:Rat) - 0=0 by grind,DD];exact Rat.mul_nonneg (Std.le_of_lt (Cq _)) (Av _)
 | n+1,F,h=>by
  have ih:=Re hx hy n (tl F) h.tl;have hv:=Tg (n:=n) h.tl hx;have hd:=Av (x - y);have e:F 0+x*CV n (tl F) x - (F 0+y*CV n (tl F) y)=(x - y)*CV n (tl F) x+y*(CV n (tl F) x - CV n (tl F) y):=by grind
  rw[DZ,DZ,e];have h1:=FO ((x - y)*CV n (tl F) x) (y*(CV n (tl F) x - CV n (tl F) y));have h2:ab ((x - y)*CV n (tl F) x)≤2^(a+n+b*n)*ab (x - y):=by
   rw[Cm,Rat.mul_comm];exact Df hv hd
  have hy2:ab y≤2^b:=by grind
  have h3:ab (y*(CV n (tl F) x - CV n (tl F) y))≤2^b*(2^(a+2*n+b*n)*ab (x - y)):=by
   rw[Cm];exact RQ hy2 ih (Av _) (Std.le_of_lt (Cq b))
  have h4:(2:Rat)^(a+n+b*n)≤2^(a+2*n+b*n+b):=NF Aa;have h5:=Df h4 hd;have e3:(2:Rat)^b*(2^(a+2*n+b*n)*ab (x - y))=2^(a+2*n+b*n+b)*ab (x - y):=by rw[E8 _ b];grind
  have e4:(2:Rat)^(a+2*(n+1)+b*(n+1))=4*2^(a+2*n+b*n+b):=by
   rw[show a+2*(n+1)+b*(n+1)=2+(a+2*n+b*n+b) by rw[Nat.mul_succ,Nat.mul_succ];omega,E8 2];congr 1
  rw[e4];have h6:=Rat.mul_nonneg (Std.le_of_lt (Cq (a+2*n+b*n+b))) hd;grind
theorem Jr.pd{F:Nat→Rat}{a n:Nat}(h:Jr (2^a) F)(hs:BB (n+1) F):Jr (2^(a+n)) (Hp.pd F):=fun i=>by
 show ab (((i+1:Nat):Rat)*F (i+1))≤_;by_cases hi:i+1≤n
 ·rw[Cm,DV (Er _),E8,Rat.mul_comm ((2:Rat)^a)]
  refine RQ (Std.le_trans (M0 hi) (Ov n)) (h _) (Av _) (Std.le_of_lt (Cq n))
 ·rw[hs (i+1) Aa,Rat.mul_zero,DD]
  exact Std.le_of_lt (Cq _)
theorem Qg{a b:Nat}{x y:Rat}(hx:ab x≤2^b - 1)(hy:ab y≤2^b - 1):∀(n:Nat) (F:Nat→Rat),Jr (2^a) F→BB n F →
  ∃ r,ab r≤2^(a+3*n+b*n)∧CV n F y - CV n F x=(y - x)*(CV n (pd F) x+(y - x)*r)
 | 0,F,_,_=>⟨0,by rw[DD];exact Std.le_of_lt (Cq _),by show(0:Rat) - 0=_*(0+_*0);grind⟩
 | n+1,F,h,hs=>by
  obtain⟨r,hr,e⟩:=Qg hx hy n (tl F) h.tl hs.tl;have hpd:Jr (2^(a+n)) (pd (tl F)):=Jr.pd h.tl (hs.tl.mono (Nat.le_succ n));have hv:=Tg (n:=n) hpd hx;refine⟨CV n (pd (tl F)) x+y*r,?_,?_⟩
  ·have h1:=FO (CV n (pd (tl F)) x) (y*r)
   have hy2:ab y≤2^b:=by grind
   have h2:ab (y*r)≤2^b*2^(a+3*n+b*n):=by rw[Cm];exact RQ hy2 hr (Av _) (Std.le_of_lt (Cq b))
   have h3:(2:Rat)^(a+n+n+b*n)≤2^(a+3*n+b*n+b):=NF Aa;have e3:(2:Rat)^b*2^(a+3*n+b*n)=2^(a+3*n+b*n+b):=by rw[E8 _ b];grind
   have e4:(2:Rat)^(a+3*(n+1)+b*(n+1))=8*2^(a+3*n+b*n+b):=by
    rw[show a+3*(n+1)+b*(n+1)=3+(a+3*n+b*n+b) by rw[Nat.mul_succ,Nat.mul_succ];omega,E8 3];congr 1
   have h6:=Cq (a+3*n+b*n+b);grind
  ·have e1:CV (n+1) (pd F) x=CV n (tl F) x+x*CV n (pd (tl F)) x:=by
    rw[Wm];congr 1;exact M5 hs.tl (Nat.le_succ n) x
   rw[e1,DZ,DZ];grind
/-! ### two polynomials without a common root are not small together -/
def K8(S D b:Nat):Nat:=96*(2*((S+1)*2^D)+(D+1)*((S+1)*2^D+1))+(D+1)+b*(D+1)+1
section
variable{F0 G0 A B:Nat→Rat}{D S:Nat}
theorem Fg.low1(h:Fg F0 G0 D S A B)(h0:B≠pz){b:Nat}{x e:Rat}(hx:ab x≤2^b - 1)(hA:ab (ev A x)≤e)(hB:ab (ev B x)≤e):ab (ev (nx A B) x)≤e*2^(K8 S D b):=by
 obtain⟨fA,fB,zA,zB,hd,qA,qB⟩:=h.facts;obtain⟨M,hM⟩:∃ M,M=(S+1)*2^D:=⟨_,rfl⟩
 have he0:0≤e:=Std.le_trans (Av _) hA;obtain⟨cA,cB,cR⟩:=h.clear h0 (M:=M) Aa;obtain⟨zN,fN,-,-,hN⟩:=K3 fA fB h0;by_cases hR:pr A B=pz
 ·rw[Jb hR,Qa,DD]
  exact Rat.mul_nonneg he0 (Std.le_of_lt (Cq _))
 obtain⟨c,hc,ec⟩:=hN hR;have hq:∀ i,qsz (pq A B i)≤2*M+(D+1)*(M+1):=fun i=>by
  have h1:=MV (n:=pl A+1 - pl B) ((AU fA).mono (by have:=Be fB h0;omega)) fB h0 cA cB i;have h2:(pl A+1 - pl B)*(M+1)≤(D+1)*(M+1):=Nat.mul_le_mul_right _ Aa;omega
 obtain⟨X,hX⟩:∃ X,X=2*M+(D+1)*(M+1):=⟨_,rfl⟩
 rw[←hX]at hq
 -- the factor c
 have hcl:1≤c*2^(64*X):=by
  obtain⟨i,hi⟩:=YW hR;have e1:pr A B i = -c*nx A B i:=by rw[ec];rfl
  have hni:nx A B i≠0:=fun q=>hi (by rw[e1,q,Rat.mul_zero]);have h1:=(NC (Nat.le_trans (cR.elem i) (show _≤X by omega))).2 hi;have h2:ab (nx A B i)≤2^(32*X):=(NC (Nat.le_trans ((h.step h0).facts.2.2.2.2.2.2 i) (show _≤X by omega))).1;rw[e1,Cm,Ic,DV (Std.le_of_lt hc)]at h1;have h3:=RQ (RQ (Std.le_refl c) h2 (Av _) (Std.le_of_lt hc)) (Std.le_refl ((2:Rat)^(32*X))) (Std.le_of_lt (Cq _)) (Rat.mul_nonneg (Std.le_of_lt hc) (Std.le_of_lt (Cq _)))
  rw[show 64*X=32*X+32*X by omega,E8];grind
 -- the quotient's value
 have hqv:ab (ev (pq A B) x)≤2^(32*X+(D+1)+b*(D+1)):=by
  have hsup:BB (D+1) (pq A B):=(Lm (n:=pl A+1 - pl B) ((AU fA).mono (by have:=Be fB h0;omega)) fB h0).mono Aa;rw[F6 hsup];exact Tg (fun i=>(NC (hq i)).1) hx
 have e2:c*ev (nx A B) x=ev (pq A B) x*ev B x - ev A x:=by
  have e3:ev A x=ev (pq A B) x*ev B x+ev (pr A B) x:=by
   conv=>lhs;rw[Ko A B]
   rw[JR ((DJ A B).cv fB) (EQ fA fB),Gm (DJ A B) fB]
  rw[ec,Gu _ fN]at e3;grind
 obtain⟨Q,hQ⟩:∃ Q:Rat,Q=2^(32*X+(D+1)+b*(D+1)):=⟨_,rfl⟩
 rw[←hQ]at hqv;have hQ1:1≤Q:=by rw[hQ];exact OZ _
 have h5:c*ab (ev (nx A B) x)≤2*(Q*e):=by
  have h6:=Xz (ev (pq A B) x*ev B x) (ev A x);rw[←e2,Cm,DV (Std.le_of_lt hc),Cm]at h6;have h7:=RQ hqv hB (Av _) Au;have h8:=RQ hQ1 (Std.le_refl e) he0 Au;grind
 have h9:=RQ (Std.le_refl (ab (ev (nx A B) x))) hcl Ab (Av _);have h10:=Df h5 (Std.le_of_lt (Cq (64*X)));have e11:(2:Rat)^(K8 S D b)=2*Q*2^(64*X):=by
  rw[hQ,show K8 S D b=1+(32*X+(D+1)+b*(D+1))+64*X by unfold K8;rw[←hM,←hX];omega,E8,E8 1];congr 1
 rw[e11];grind
theorem Fg.low(c:Ec F0 G0){b:Nat}{x:Rat}(hx:ab x≤2^b - 1):∀(n:Nat) {A B:Nat→Rat} {e:Rat},Fg F0 G0 D S A B→pl B≤n→ab (ev A x)≤e→ab (ev B x)≤e→1≤e*2^(n*K8 S D b):=by
 intro n;induction n with
 | zero =>
  intro A B e h hn hA hB;obtain⟨fA,fB,zA,zB,hd,qA,qB⟩:=h.facts;have hBz:B=pz:=(BG fB).1 Aa;have hc:=h.cop c;rw[hBz]at hc;have hA1:pl A=1:=Le hc fA (Dv.refl A) (Dv.zero A);have e1:ev A x=A 0:=by unfold ev;rw[hA1];show A 0+x*0=A 0;grind
  have hA0:A 0≠0:=by have:=Ex fA Aa;rwa[hA1]at this
  have h1:=dB zA hA0;rw[e1]at hA;rw[Nat.zero_mul,Rat.pow_zero];grind
 | succ n ih =>
  intro A B e h hn hA hB;have hY:=OZ (K8 S D b);have he0:0≤e:=Std.le_trans (Av _) hA;have hgrow:e≤e*2^K8 S D b:=by have:=RQ (Std.le_refl e) hY Ab he0;grind
  have e3:(2:Rat)^((n+1)*K8 S D b)=2^K8 S D b*2^(n*K8 S D b):=by rw[Nat.succ_mul,Nat.add_comm,E8]
  by_cases h0:B=pz
  ·have:=ih h (by rw[h0,Ca];omega) hA hB
   have h2:=Df hgrow (Std.le_of_lt (Cq (n*K8 S D b)));rw[e3];grind
  ·have hN:=h.low1 h0 hx hA hB
   obtain⟨fA,fB,zA,zB,hd,qA,qB⟩:=h.facts;have hlt:=(K3 fA fB h0).2.2.2.1;have:=ih (h.step h0) Aa (Std.le_trans hB hgrow) hN;rw[e3];grind
end
theorem aJ{F:Nat→Rat}(zF:ZI F)(fF:Af F)(x:Rat):ab (ev (rd F) x)≤ab (ev F x):=by
 unfold rd;rw[Gu _ fF,Cm];have h1:ab (1 / ((cn F:Nat):Rat))≤1:=by
  rcases Nat.eq_zero_or_pos (cn F)with h | h
  ·rw[h,show(1:Rat) / ((0:Nat):Rat)=0 from by rw[Rat.div_def];show 1*(0:Rat)⁻¹ = 0;rw[Rat.inv_zero,Rat.mul_zero],DD];decide
  ·have hp:(0:Rat) < ((cn F:Nat):Rat):=by exact_mod_cast h
   have h1':(1:Rat)≤((cn F:Nat):Rat):=by exact_mod_cast h
   obtain⟨hi,ei⟩:=Ir hp;rw[DV (Std.le_of_lt hi)];have:=RQ (Std.le_refl (1 / ((cn F:Nat):Rat))) h1' Ab (Std.le_of_lt hi);grind
 have:=Df h1 (Av (ev F x));grind
def Xl(S D b:Nat):Nat:=D*K8 S D b
theorem Ec.low{F G:Nat→Rat}{S D b:Nat}(c:Ec F G)(fF:Af F)(fG:Af G)(zF:ZI F)(zG:ZI G)(qF:∀ i,qsz (F i)≤S)(qG:∀ i,qsz (G i)≤S)(hD:pl F+pl G=D)
  {x e:Rat} (hx:ab x≤2^b - 1) (h1:ab (ev F x)≤e) (h2:ab (ev G x)≤e):1≤e*2^(Xl S D b):=by
 have hs:=Fg.start fF fG zF zG qF qG;rw[hD]at hs;have he0:0≤e:=Std.le_trans (Av _) h1;refine hs.low c hx D ?_ (Std.le_trans (aJ zF fF x) h1) (Std.le_trans (aJ zG fG x) h2);have:=hs.facts.2.2.2.2.1;omega
structure SF(F:Nat→Rat):Prop where
 p:BP F
 c:Ec F (pd F)
theorem BP.eq_dv{F G:Nat→Rat}(h:BP F)(k:BP G)(a:Dv F G)(b:Dv G F):F=G:=by
 have e:mn F=mn G:=Ul (Lb h.f) (Lb k.f) (fun _=>TV h.f h.n) (fun _=>TV k.f k.n) ((LC h.f).trans (a.trans (LJ G))) ((LC k.f).trans (b.trans (LJ F)));have hl:=D8 h.f h.n;have kl:=D8 k.f k.n;have e1:F=psc (ld F) (mn F):=by unfold mn;rw[Cu,show ld F*(1 / ld F)=1 by grind,Cn]
 have e2:mn G=psc (1 / ld G) G:=rfl;have e3:F=psc (ld F*(1 / ld G)) G:=by
  conv=>lhs;rw[e1,e,e2,Cu]
 have e4:Hp.pp F=Hp.pp G:=TU h.z k.z k.f k.n (by
  intro q;have:=Mv kl;rcases Rat.mul_eq_zero.1 q with x | x
  ·exact hl x
  ·exact this x) e3
 rw[h.self,k.self]at e4;exact e4
theorem iE{H A B:Nat→Rat}(h:Dv H A)(k:Dv H B):Dv (cv H H) (cv A B):=by
 obtain⟨Q1,f1,rfl⟩:=h;obtain⟨Q2,f2,rfl⟩:=k;refine⟨cv Q1 Q2,f1.cv f2,?_⟩;rw[AJ,AJ,←AJ H Q2 H,Bw H Q2,AJ]
theorem iO{g:Nat→Rat}(h:BP g):SF (y0 g):=by
 obtain⟨hC,hW,e,-,-⟩:=EO h;refine⟨hW,?_⟩;refine Classical.byContradiction fun hn=>?_;obtain⟨hE,hP,e2,-,-⟩:=EO hW;have h1:1 < pl (yc (y0 g)):=by
  rcases Nat.lt_or_ge 1 (pl (yc (y0 g)))with a | a
  ·exact a
  ·exact absurd (Ec.of_gcd hW (EL hW.z) (Cb hW.f) a) hn
 obtain⟨N,hN⟩:=ZW hW;by_cases hc:pl (GR (yc (y0 g)) (y0 (y0 g)))≤1
 ·have c1:=Ec.of_gcd hE hP.z hP.f hc
  have c2:=(Ec.pw hE.f hP.f c1 N).symm.symm;have:=Ec.self hE.f (((c2.symm).dv hN));omega
 ·obtain⟨hH,-,-,d1,d2,-⟩:=hE.gcd hP.z hP.f
  have h2:Dv (cv (GR (yc (y0 g)) (y0 (y0 g))) (GR (yc (y0 g)) (y0 (y0 g)))) (y0 g):=by
   have:=iE d2 d1;rw[←e2]at this;exact this
  have:=ZN h hH h2;omega
theorem SF.stf{F:Nat→Rat}(h:SF F):∃ K,Eu F K:=by
 obtain⟨S,hS⟩:=Eo h.p.f;obtain⟨T,hT⟩:=Eo (Cb h.p.f);obtain⟨K,hK,-⟩:=FN h.p.f (Cb h.p.f) h.p.z (EL h.p.z) (S:=max S T) (fun i=>Nat.le_trans (hS i) (Nat.le_max_left _ _)) (fun i=>Nat.le_trans (hT i) (Nat.le_max_right _ _));exact⟨K,h.p.z,h.p.f,h.p.n,h.c,hK⟩
noncomputable def kn(F:Nat→Rat):Nat:=open Classical in if h:∃ K,NN F (pd F) K then Classical.choose h else 0
theorem NN.kn{F:Nat→Rat}{K:Nat}(h:NN F (pd F) K):Hp.kn F=K:=by
 have hx:∃ K,NN F (pd F) K:=⟨K,h⟩
 unfold Hp.kn;rw[dif_pos hx];exact(Classical.choose_spec hx).uniq h
theorem SF.st{F:Nat→Rat}(h:SF F):Eu F (kn F):=by
 obtain⟨K,hK⟩:=h.stf;rw[hK.k.kn];exact hK
noncomputable def rc(F:Nat→Rat)(p q:Rat):Int:=rt F (kn F) p q
theorem T9(F:Nat→Rat)(p q r:Rat):rc F p q+rc F q r=rc F p r:=IU F _ p q r
theorem Zh(F:Nat→Rat)(p:Rat):rc F p p=0:=Mc F _ p
theorem SF.nonneg{F:Nat→Rat}(h:SF F){p q:Rat}(hpq:p≤q):0≤rc F p q:=h.st.rt_nonneg hpq
theorem SF.sub{F:Nat→Rat}(h:SF F){p x y q:Rat}(h1:p≤x)(h2:x≤y)(h3:y≤q):rc F x y≤rc F p q:=h.st.rt_sub h1 h2 h3
theorem SF.free{F:Nat→Rat}(h:SF F){p q x y:Rat}(h0:rc F p q=0)(h1:p < x)(h2:x≤y)(h3:y≤q):ev F x≠0∧BM (ev F y)=BM (ev F x):=h.st.free h0 h1 h2 h3
theorem SF.mul{A B:Nat→Rat}(hA:SF A)(hB:SF B)(hC:SF (cv A B))(c:Ec A B){p q:Rat}(hpq:p≤q):rc (cv A B) p q=rc A p q+rc B p q:=Eu.rt_mul hA.st hB.st hC.st c hpq
theorem SF.split{A B:Nat→Rat}(hA:BP A)(hB:BP B)(h:SF (cv A B)):SF A∧SF B∧Ec A B:=by
 have half:∀ {A B:Nat→Rat},BP A→BP B→Ec (cv A B) (pd (cv A B))→Ec A (pd A)∧Ec A B:=by
  intro A B hA hB ⟨U,V,fU,fV,e⟩;have fA':=Cb hA.f;have fB':=Cb hB.f;rw[Lv]at e;constructor
  ·refine⟨pad (cv U B) (cv V (pd B)),cv V B,(fU.cv hB.f).pad (fV.cv fB'),fV.cv hB.f,?_⟩
   rw[←e,Dk,FW];have e1:cv (cv U B) A=cv U (cv A B):=by rw[AJ,Bw B A]
   have e2:cv (cv V (pd B)) A=cv V (cv A (pd B)):=by rw[AJ,Bw (pd B) A]
   have e3:cv (cv V B) (pd A)=cv V (cv (pd A) B):=by rw[AJ,Bw B (pd A)]
   rw[e1,e2,e3]
   funext n;simp only[pad];grind
  ·refine⟨pad (cv U B) (cv V (pd B)),cv V (pd A),(fU.cv hB.f).pad (fV.cv fB'),fV.cv fA',?_⟩
   rw[←e,Dk,FW];have e1:cv (cv U B) A=cv U (cv A B):=by rw[AJ,Bw B A]
   have e2:cv (cv V (pd B)) A=cv V (cv A (pd B)):=by rw[AJ,Bw (pd B) A]
   have e3:cv (cv V (pd A)) B=cv V (cv (pd A) B):=by rw[AJ]
   rw[e1,e2,e3]
   funext n;simp only[pad];grind
 obtain⟨a1,a2⟩:=half hA hB h.c;obtain⟨b1,-⟩:=half hB hA (by rw[Bw];exact h.c);exact⟨⟨hA,a1⟩,⟨hB,b1⟩,a2⟩
theorem SF.factor{W A:Nat→Rat}(h:SF W)(hA:BP A)(hd:GZ W A):SF A∧SF (pq W A)∧Ec A (pq W A)∧W=cv A (pq W A):=by
 obtain⟨q1,q2⟩:=h.p.quot hA hd;have e:W=cv A (pq W A):=by rw[Bw];exact q2
 have hs:SF (cv A (pq W A)):=by rw[←e];exact h
 obtain⟨a,b,c⟩:=SF.split hA q1 hs;exact⟨a,b,c,e⟩
theorem BP.zdv{F D:Nat→Rat}(h:BP F)(k:BP D)(hd:Dv D F):GZ F D:=by
 obtain⟨Q,fQ,e⟩:=hd;exact⟨Q,TB h.z h.f k.z k.f k.n fQ e (by rw[k.c];exact Nat.one_dvd _),fQ,e⟩
theorem dF{E D:Nat→Rat}(hE:SF E)(hD:BP D)(h:Dv E D):Dv E (y0 D):=by
 obtain⟨hC,hW,e,-,-⟩:=EO hD;obtain⟨N,hN⟩:=ZW hD;have h1:Dv E (pw (y0 D) (N+1)):=by
  obtain⟨Q,fQ,eQ⟩:=hN;refine h.trans ⟨Q,fQ,?_⟩;show cv (pw (y0 D) N) (y0 D)=_
  conv=>rhs;rw[e]
  rw[eQ,AJ,Bw (yc D)]
 obtain⟨hH,z1,z2,d1,d2,-⟩:=hE.p.gcd hW.z hW.f;obtain⟨f1,f2,f3,f4⟩:=hE.factor hH z1
 -- the rest of E is coprime to the square-free part
 have h2:Ec (pq E (GR E (y0 D))) (y0 D):=by
  refine Ec.of_gcd f2.p hW.z hW.f ?_;obtain⟨kG,-,-,g1,g2,-⟩:=f2.p.gcd hW.z hW.f;have g3:Dv (GR (pq E (GR E (y0 D))) (y0 D)) E:=g1.trans ⟨GR E (y0 D),hH.f,f4⟩;have g4:Dv (GR (pq E (GR E (y0 D))) (y0 D)) (GR E (y0 D)):=by
   have:=(Xy hE.p.f hW.f hE.p.z hW.z).2.2.2.2.2.2.2.2 _ kG.f g3 g2;exact this.trans (LC hH.f)
  have:=Ec.self kG.f ((f3.dv g4).symm.dv g1);omega
 have h3:=Ec.pw f2.p.f hW.f h2 (N+1);have h4:Dv (pq E (GR E (y0 D))) (pw (y0 D) (N+1)):=Dv.trans ⟨GR E (y0 D),hH.f,f4⟩ h1;have h5:=f2.p.one (by have:=Ec.self f2.p.f (h3.symm.dv h4);omega);rw[h5,KQ]at f4;have:Dv (GR E (y0 D)) (y0 D):=d2;rw[←f4]at this;exact this
noncomputable def CL(F:Nat→Rat):Nat→Rat:=y0 (pp F)
theorem I7{F:Nat→Rat}(z:ZI F)(f:Af F)(h0:F≠pz):SF (CL F):=iO (BP.pp z f h0)
theorem eZ{F:Nat→Rat}(z:ZI F)(f:Af F)(h0:F≠pz):Dv (CL F) F:=by
 obtain⟨hC,hW,e,-,-⟩:=EO (BP.pp z f h0);have h1:Dv (CL F) (pp F):=⟨yc (pp F),hC.f,by rw[Bw];exact e⟩
 conv=>arg 2;rw[O6 z f h0]
 exact h1.psc _
def Qq(S D b:Nat):Nat:=32*S+(3+b)*D
def OY(S D b:Nat):Nat:=Qq S D b+Xl S D b+2
theorem TR{F:Nat→Rat}{S:Nat}(h:∀ i,qsz (F i)≤S):Jr (2^(32*S)) F:=fun i=>(NC (h i)).1
theorem RD{F:Nat→Rat}{S D b:Nat}(qF:∀ i,qsz (F i)≤S)(hD:pl F≤D){x y:Rat}(hx:ab x≤2^b - 1)(hy:ab y≤2^b - 1):ab (ev F x - ev F y)≤2^(Qq S D b)*ab (x - y):=by
 have h:=Re hx hy (pl F) F (TR qF);refine Std.le_trans h (Df (NF ?_) (Av _));unfold Qq;have h1:b*pl F≤b*D:=Nat.mul_le_mul_left _ hD;rw[Nat.add_mul];omega
theorem bS{F:Nat→Rat}{S D b:Nat}(fF:Af F)(qF:∀ i,qsz (F i)≤S)(hD:pl F≤D){x y:Rat}(hx:ab x≤2^b - 1)(hy:ab y≤2^b - 1):∃ r,ab r≤2^(Qq S D b)∧ev F y - ev F x=(y - x)*(ev (pd F) x+(y - x)*r):=by
 obtain⟨r,hr,e⟩:=Qg hx hy (pl F) F (TR qF) (AU fF);refine⟨r,Std.le_trans hr (NF ?_),?_⟩
 ·unfold Qq
  have h1:b*pl F≤b*D:=Nat.mul_le_mul_left _ hD;rw[Nat.add_mul];omega
 ·have e1:ev (pd F) x=CV (pl F) (pd F) x:=F6 (Q0 ((AU fF).mono (Nat.le_succ _))) x
  rw[e1];exact e
theorem Eu.small_pt{F:Nat→Rat}{K:Nat}(h:Eu F K){x y ε:Rat}(hxy:x≤y)(hε:0 < ε)(hr:1≤rt F K x y):∃ z,x≤z∧z≤y∧ab (ev F z) < ε:=by
 refine Classical.byContradiction fun hn=>?_;have:=h.flat hxy hε fun z a b=>by
  rcases Std.lt_trichotomy ε (ab (ev F z))with c | c | c
  ·exact Std.le_of_lt c
  ·rw[c];exact Std.le_refl _
  ·exact absurd ⟨z,a,b,c⟩ hn
 unfold rt at hr;omega
theorem OD{q:Rat}(h:0 < q):BM q=1:=by unfold BM;rw[if_pos h]
theorem OA{q:Rat}(h:q < 0):BM q = -1:=by unfold BM;rw[if_neg Au,if_pos h]
theorem QB:BM 0=0:=by decide
theorem YU{F:Nat→Rat}{u v w:Rat}(h:(ev F u < ev F v∧ev F v < ev F w)∨(ev F w < ev F v∧ev F v < ev F u)):IA F u w=IA F u v+IA F v w:=by
 unfold IA;generalize ev F u=a at *;generalize ev F v=b at *;generalize ev F w=c at *;rcases Std.lt_trichotomy a 0 with ha | ha | ha<;>rcases Std.lt_trichotomy b 0 with hb | hb | hb<;>rcases Std.lt_trichotomy c 0 with hc | hc | hc
 all_goals first
  | (exfalso;grind)
  | skip
 all_goals(try have ea:=OA ha);(try have ea:=OD ha);(try have eb:=OA hb);(try have eb:=OD hb);(try have ec:=OA hc);(try have ec:=OD hc)
 all_goals(try(have na:a≠0:=by grind));(try(have nb:b≠0:=by grind));(try(have nc:c≠0:=by grind))
 all_goals(try subst ha);(try subst hb);(try subst hc);simp_all [QB]
theorem Eu.sep{F:Nat→Rat}{K S D b:Nat}(h:Eu F K)(qF:∀ i,qsz (F i)≤S)(qG:∀ i,qsz (pd F i)≤S)(hD:pl F+pl (pd F)=D){x y:Rat}(hx:ab x≤2^b - 1)(hy:ab y≤2^b - 1)(hxy:x < y)(hd:(y - x)*2^(OY S D b)≤1):rt F K x y≤1:=by
 refine Classical.byContradiction fun hn=>?_;obtain⟨d,hdd⟩:∃ d,d=y - x:=⟨_,rfl⟩
 have hd0:0 < d:=by grind
 obtain⟨L,hL⟩:∃ L:Rat,L=2^(Qq S D b):=⟨_,rfl⟩
 have hL0:0 < L:=by rw[hL];exact Cq _
 obtain⟨E,hE⟩:∃ E:Rat,E=2^(Xl S D b):=⟨_,rfl⟩
 have hE0:0 < E:=by rw[hE];exact Cq _
 have hLd:=Rat.mul_pos hL0 hd0;have hsmall:4*(L*d*E)≤1:=by
  have e:(2:Rat)^(OY S D b)=L*E*4:=by
   unfold OY;rw[E8,E8,←hL,←hE];congr 1
  rw[e,←hdd]at hd;grind
 have hin:∀ z,x≤z→z≤y→ab z≤2^b - 1:=fun z a c=>EW hx hy a c;have hdist:∀ z z',x≤z→z≤y→x≤z'→z'≤y→ab (z - z')≤d:=fun z z' a c a' c'=>IV.2 ⟨Au,Au⟩;have lF:∀ z z',x≤z→z≤y→x≤z'→z'≤y→ab (ev F z - ev F z')≤L*d:=fun z z' a c a' c'=>by
  have:=RD qF (show pl F≤D by omega) (hin z a c) (hin z' a' c');rw[←hL]at this;exact Std.le_trans this (D5 (hdist z z' a c a' c') (Std.le_of_lt hL0))
 have lG:∀ z z',x≤z→z≤y→x≤z'→z'≤y→ab (ev (pd F) z - ev (pd F) z')≤L*d:=fun z z' a c a' c'=>by
  have:=RD qG (show pl (pd F)≤D by omega) (hin z a c) (hin z' a' c');rw[←hL]at this;exact Std.le_trans this (D5 (hdist z z' a c a' c') (Std.le_of_lt hL0))
 obtain⟨z0,z1,z2,z3⟩:=h.small_pt (Std.le_of_lt hxy) hLd Aa;have hall:∀ z,x≤z→z≤y→ab (ev F z)≤2*(L*d):=fun z a c=>by
  have h1:=lF z z0 a c z1 z2;have h2:=FO (ev F z - ev F z0) (ev F z0);have e:ev F z - ev F z0+ev F z0=ev F z:=by grind
  rw[e]at h2;grind
 have hbig:∀ z,x≤z→z≤y→L*d < ab (ev (pd F) z):=fun z a c=>by
  rcases Std.lt_trichotomy (L*d) (ab (ev (pd F) z))with q | q | q
  ·exact q
  all_goals
   exfalso;have:=Ec.low h.c h.f (Cb h.f) h.z (EL h.z) qF qG hD (hin z a c) (hall z a c) (show ab (ev (pd F) z)≤2*(L*d) by grind);rw[←hE]at this;grind
 have hs0:BM (ev (pd F) x)≠0:=by
  have:=hbig x (Std.le_refl _) (Std.le_of_lt hxy);intro q;rw[Dw.1 q,DD]at this;grind
 have hmono:∀ u v,x≤u→u < v→v≤y→BM (ev F v - ev F u)=BM (ev (pd F) x):=fun u v a c a'=>by
  have hu:u≤y:=by grind
  have b1:=hbig u a hu;have s1:=OW (p:=ev (pd F) u) (q:=ev (pd F) x) (by
   have:=lG u x a hu (Std.le_refl _) (Std.le_of_lt hxy);grind)
  obtain⟨r,hr,e⟩:=bS h.f qF (show pl F≤D by omega) (hin u a hu) (hin v Au a');rw[e,Gh (show 0 < v - u by grind),←s1.1];refine(OW ?_).1.symm;have e2:ev (pd F) u - (ev (pd F) u+(v - u)*r) = -((v - u)*r):=by grind
  rw[e2,Ic,Cm];rw[←hL]at hr;have h4:=RQ (show ab (v - u)≤d from IV.2 ⟨Au,Au⟩) hr (Av _) (Std.le_of_lt hd0);grind
 obtain⟨δ,hδ,hl⟩:=h.loc x y;have key:rt F K x y=IA F x y:=by
  refine Nv (P:=fun u v=>rt F K u v=IA F u v) hδ hxy (fun u v a1 a2 a3 a4=>hl u v a1 a2 a3 a4) (fun u v w a1 a2 a3 a4 e f=>?_);have m1:=hmono u v a1 a2 Au;have m2:=hmono v w Au a3 a4;have m3:=IU F K u v w;have m4:IA F u w=IA F u v+IA F v w:=by
   refine YU ?_;rcases Std.lt_trichotomy (ev (pd F) x) 0 with c | c | c
   ·rw[OA c]at m1 m2
    refine .inr ⟨?_,?_⟩
    ·rcases Std.lt_trichotomy (ev F w - ev F v) 0 with q | q | q
     ·grind
     ·rw[q,QB]at m2;exact absurd m2 Ab
     ·rw[OD q]at m2;exact absurd m2 Ab
    ·rcases Std.lt_trichotomy (ev F v - ev F u) 0 with q | q | q
     ·grind
     ·rw[q,QB]at m1;exact absurd m1 Ab
     ·rw[OD q]at m1;exact absurd m1 Ab
   ·exact absurd (Dw.2 c) hs0
   ·rw[OD c]at m1 m2
    refine .inl ⟨?_,?_⟩
    ·rcases Std.lt_trichotomy (ev F v - ev F u) 0 with q | q | q
     ·rw[OA q]at m1;exact absurd m1 Ab
     ·rw[q,QB]at m1;exact absurd m1 Ab
     ·grind
    ·rcases Std.lt_trichotomy (ev F w - ev F v) 0 with q | q | q
     ·rw[OA q]at m2;exact absurd m2 Ab
     ·rw[q,QB]at m2;exact absurd m2 Ab
     ·grind
  omega
 have:=(aX F x y).2;omega
theorem Ec.sep{A B:Nat→Rat}{S D b:Nat}(hA:SF A)(hB:SF B)(c:Ec A B)(qA:∀ i,qsz (A i)≤S)(qB:∀ i,qsz (B i)≤S)(hD:pl A+pl B=D){x y:Rat}(hx:ab x≤2^b - 1)(hy:ab y≤2^b - 1)(hxy:x < y)(hd:(y - x)*2^(OY S D b)≤1) :
  rc A x y=0∨rc B x y=0:=by
 refine Classical.byContradiction fun hn=>?_;have n1:=hA.nonneg (Std.le_of_lt hxy);have n2:=hB.nonneg (Std.le_of_lt hxy);obtain⟨d,hdd⟩:∃ d,d=y - x:=⟨_,rfl⟩
 have hd0:0 < d:=by grind
 obtain⟨L,hL⟩:∃ L:Rat,L=2^(Qq S D b):=⟨_,rfl⟩
 have hL0:0 < L:=by rw[hL];exact Cq _
 obtain⟨E,hE⟩:∃ E:Rat,E=2^(Xl S D b):=⟨_,rfl⟩
 have hE0:0 < E:=by rw[hE];exact Cq _
 have hLd:=Rat.mul_pos hL0 hd0;have hsmall:4*(L*d*E)≤1:=by
  have e:(2:Rat)^(OY S D b)=L*E*4:=by
   unfold OY;rw[E8,E8,←hL,←hE];congr 1
  rw[e,←hdd]at hd;grind
 have one:∀ {P:Nat→Rat},SF P→(∀ i,qsz (P i)≤S)→pl P≤D→1≤rc P x y→ab (ev P x)≤2*(L*d):=fun {P} hP qP hp h1=>by
  obtain⟨z,z1,z2,z3⟩:=hP.st.small_pt (Std.le_of_lt hxy) hLd h1;have h2:=RD qP hp hx (EW hx hy z1 z2);rw[←hL]at h2;have h3:=D5 (show ab (x - z)≤d from IV.2 ⟨Au,Au⟩) (Std.le_of_lt hL0);have h4:=FO (ev P x - ev P z) (ev P z);have e:ev P x - ev P z+ev P z=ev P x:=by grind
  rw[e]at h4;grind
 have a1:=one hA qA Aa Aa;have a2:=one hB qB Aa Aa;have:=Ec.low c hA.p.f hB.p.f hA.p.z hB.p.z qA qB hD hx a1 a2;rw[←hE]at this;grind
open Go.RowKit
section
variable{P:Program}
theorem O3(w:World)(k base:Nat)(t ty e:TypeId)(i:TypeInfo)(z:Value)(bytes:Nat)(ht:P.underlying t=some (.slice e))(hi:P.info? e=some i)(hz:i.zero=some z)
  (hsize:i.size=k) (hby:i.bytes=bytes) (hzs:z.cells.size=k) (hzd:nodig z.cells=true) (hsz:0 < k)
  (v:Value) (n:Nat) (xs:List Value) (hown:LQ k base e w v n xs)
  (a:Addr) (c:Nat) (news:List Value) (hl:news.length=k) (hnews:∀ j u,news[j]? = some u→w.cell? (a.add j)=some u) (h1:∀ u∈news,u.oneCell'=true) (hnd:∀ u∈news,Ag u=false)
  (h63:n+1≤maxLen) (hbytes:(n+1)*bytes≤140737488355328) (hbase:base≤w.heap.size) :
  ∃ v' w',(Builtin.append_ #[t,t] ty #[v,.slice (some a) 1 c]).run P w = .ok v' w'∧LQ k base e w' v' (n+1) (xs ++ news)∧Cs (blk v) w w'∧∀ g∈blk v',g∈blk v∨w.heap.size≤g:=by
 subst hsize;subst hby;have hl':news.length=1*i.size:=by rw[Nat.one_mul];exact hl
 have hlen:(xs ++ news).length=(n+1)*i.size:=by rw[List.length_append,hown.1,hl,Nat.succ_mul]
 have hsmall:n+1≤9223372036854775807:=by simp only[maxLen]at h63;omega
 have hzl:=C9.1 hzd;have hzc:∀ m,∀ u∈(Builtin.zeroCells z.cells m).toList,Ag u=false:=by
  intro m u hu;simp only[Builtin.zeroCells,Array.toList_map,Array.toList_range,List.mem_map,List.mem_range]at hu;obtain⟨j,hj,rfl⟩:=hu;have:j % z.cells.size < z.cells.size:=Nat.mod_lt _ Aa;rw[getElem!_pos z.cells _ this];exact hzl _ Ac
 have hxd:∀ u∈xs,Ag u=false:=by
  rcases hown.2 with⟨_,h0⟩ | ⟨g,cap,cur,_,_,hb,_,_,_,htake⟩
  ·intro u hu
   have:xs=[]:=List.eq_nil_of_length_eq_zero (by rw[hown.1,h0,Nat.zero_mul]);rw[this]at hu;cases hu
  ·intro u hu
   rw[←htake]at hu;exact C9.1 hb.2 _ (List.mem_of_mem_take hu)
 have grown:∀(old:Nat),old < n+1 →
   LQ i.size base e (w.drew.alloc (.cells (xs.toArray ++ news.toArray ++ Builtin.zeroCells z.cells (grownCap w (n+1) old e - (n+1))) e)) (.slice (some ⟨w.heap.size,0,none⟩) (n+1) (grownCap w (n+1) old e)) (n+1) (xs ++ news) ∧
   ∀ G,Cs G w (w.drew.alloc (.cells (xs.toArray ++ news.toArray ++ Builtin.zeroCells z.cells (grownCap w (n+1) old e - (n+1))) e)):=by
  intro old ho;have hge:=grownCap_ge w (n+1) old e;have hcm:grownCap w (n+1) old e≤maxLen:=grownCap_le_maxLen w (n+1) old e h63;refine⟨⟨hlen,.inr ⟨w.heap.size,_,_,rfl,hbase,⟨heap_alloc_new w.drew _,?_⟩,hge,hcm,?_,?_⟩⟩,fun G=>Cs.of_ext ((Ext.refl w).drew.alloc _)⟩
  ·rw[C9]
   intro u hu;simp only[Array.toList_append,List.mem_append]at hu;rcases hu with(hu | hu) | hu
   ·exact hxd u (by simpa using hu)
   ·exact hnd u (by simpa using hu)
   ·exact hzc _ u hu
  ·simp only[Array.size_append,List.size_toArray,size_zeroCells,hzs,hown.1,hl]
   rw[←Nat.succ_mul,←Nat.add_mul];congr 1;omega
  ·simp only[Array.toList_append,List.append_assoc]
   rw[←List.append_assoc,←hlen];exact List.take_left
 rcases hown.2 with⟨rfl,rfl⟩ | ⟨g,cap,cur,rfl,hbg,hb,hnc,hcm,hcs,htake⟩
 ·have hx:xs=[]:=List.eq_nil_of_length_eq_zero (by simpa using hown.1)
  subst hx;have hr:=run_append_nil (P:=P) w t ty e i z ht hi hz a 1 c news hl' hnews Aa Aa (by have hb:=hbytes;simp only[Nat.zero_add]at hb;omega);have hgr:=grown 0 Aa;simp only[Nat.zero_add,List.nil_append,Array.empty_append]at hgr ⊢;exact⟨_,_,hr,hgr.1,hgr.2 _,fun g' hg' => .inr (by simp[blk,Value.ownBlock]at hg';omega)⟩
 ·have hg:=hb.1
  by_cases hroom:n+1≤cap
  ·have hfit:n*i.size+news.length≤cur.size:=by rw[hl,hcs,←Nat.succ_mul];exact Nat.mul_le_mul_right _ hroom
   have hr:=run_append_room (P:=P) w t ty e i ht hi g n cap cur hg a 1 c news hl' hnews h1 hroom hfit;have hnew:∀ u∈cur.toList.take (n*i.size) ++ news ++ cur.toList.drop (n*i.size+news.length),Ag u=false:=by
    intro u hu;simp only[List.mem_append]at hu;rcases hu with(hu | hu) | hu
    ·exact C9.1 hb.2 _ (List.mem_of_mem_take hu)
    ·exact hnd u hu
    ·exact C9.1 hb.2 _ (List.mem_of_mem_drop hu)
   have hbx:Bj (w.setRow g (cur.toList.take (n*i.size) ++ news ++ cur.toList.drop (n*i.size+news.length)).toArray) g e _:=⟨setRow_heap w g cur _ e _ hg,C9.2 (by simpa using hnew)⟩
   refine⟨_,_,hr,⟨hlen,.inr ⟨g,cap,_,rfl,hbg,hbx,hroom,hcm,?_,?_⟩⟩,⟨fun g' o hg' ho=>?_,MP hb fun h hne _=>setRow_other w g h _ hne,fun a' ha hG=>?_⟩,fun g' hg' => .inl hg'⟩
   ·simp only[List.size_toArray,List.length_append,List.length_take,List.length_drop,Array.length_toList]
    omega
   ·rw[htake,←hlen]
    exact List.take_left
   ·rw[setRow_other w g g' _ (fun e=>hg' (by simp[blk,Value.ownBlock,e]))];exact ho
   ·have hga:a'.heap.size≤g:=hG g (by simp[blk,Value.ownBlock])
    exact ha.grown (row:=some g) ⟨rfl,rfl,rfl,by simp[World.setRow],fun k _ hk=>setRow_other w g k _ (fun e=>hk (by rw[e]))⟩ (fun k hk=>by cases hk;exact hga)
  ·have holds:∀ j u,xs[j]? = some u→w.cell? ((⟨g,0,none⟩:Addr).add j)=some u:=hown.owns.cells (g:=g) rfl
   have hr:=run_append_grow (P:=P) w t ty e i z ht hi hz ⟨g,0,none⟩ n cap xs hown.1 holds a 1 c news hl' hnews Aa Aa (growslice_fits Aa hbytes);have hgr:=grown cap Aa;exact⟨_,_,hr,hgr.1,hgr.2 _,fun g' hg' => .inr (by simp[blk,Value.ownBlock]at hg';omega)⟩
end
section
variable{α:Type}{k:Nat}{rd:World→Value→α→Prop}{base:Nat}{e:TypeId}{w w':World}{v:Value}{l:List α}
theorem BI.append_at{P:Program}(h:BI k rd base e w v l)(t ty:TypeId)(i:TypeInfo)(z:Value)(bytes:Nat)(ht:P.underlying t=some (.slice e))(hi:P.info? e=some i)(hz:i.zero=some z)
  (hsize:i.size=k) (hby:i.bytes=bytes) (hzs:z.cells.size=k) (hzd:nodig z.cells=true) (hsz:0 < k) {x:α}
  (a:Addr) (c:Nat) (news:Array Value) (hl:news.size=k) (hx:rd w (.agg news) x) (hnews:∀ j u,news.toList[j]? = some u→w.cell? (a.add j)=some u) (h1:∀ u∈news.toList,u.oneCell'=true) (hnd:nodig news=true)
  (h63:l.length+1≤maxLen) (hbytes:(l.length+1)*bytes≤140737488355328) (hbase:base≤w.heap.size) (hr:∀ w' u y,KD w w'→rd w u y→rd w' u y) :
  ∃ v' w',(Builtin.append_ #[t,t] ty #[v,.slice (some a) 1 c]).run P w = .ok v' w'∧BI k rd base e w' v' (l ++ [x])∧Cs (blk v) w w'∧∀ g∈blk v',g∈blk v∨w.heap.size≤g:=by
 obtain⟨ess,g1,g2,g3,g5⟩:=h;obtain⟨v',w',hrun,hown,hupd,hat⟩:=O3 (P:=P) w k base t ty e i z bytes ht hi hz hsize hby hzs hzd hsz v l.length _ g3 a c news.toList (by simpa using hl) hnews h1 (C9.1 hnd) h63 hbytes hbase;refine⟨v',w',hrun,⟨ess ++ [news],by simp[g1],?_,?_,?_⟩,hupd,hat⟩
 ·intro d hd
  rcases List.mem_append.1 hd with hd | hd
  ·exact g2 d hd
  ·simp at hd;subst hd;exact hl
 ·have e1:(ess ++ [news]).flatMap Array.toList=ess.flatMap Array.toList ++ news.toList:=by simp
  rw[e1,List.length_append];exact hown
 ·intro j hj hj'
  rcases Nat.lt_or_ge j l.length with hlt | hge
  ·rw[List.getElem_append_left hlt,List.getElem_append_left Aa]
   exact hr _ _ _ hupd.kd (g5 j hlt Aa)
  ·have:j=l.length:=by simp at hj;omega
   subst this;rw[List.getElem_append_right Aa,List.getElem_append_right Aa];simpa using hr _ _ _ hupd.kd hx
end
theorem Cs.new_trans{G G':List Nat}{w w' w'':World}(h:Cs G w w')(k:Cs G' w' w'')(hG:∀ g∈G',g∈G∨w.heap.size≤g):Cs G w w'':=by
 refine⟨fun g o hg ho=>k.1 g o (fun hm=>?_) (h.1 g o hg ho),h.kd.trans k.kd,fun a e hg=>k.2.2 a (h.2.2 a e hg) fun g hm=>?_⟩
 ·rcases hG g hm with q | q
  ·exact hg q
  ·have:=(Array.getElem?_eq_some_iff.1 ho).1;omega
 ·rcases hG g hm with q | q
  ·exact hg g q
  ·have:=e.size;omega
theorem Cs.none{w w':World}(x:Ext w w')(G:List Nat):Cs G w w':=Cs.of_ext x
theorem K5.kd{w w':World}{v:Value}{p q:Rat}(h:K5 w v p q)(k:KD w w'):K5 w' v p q:=by
 obtain⟨b1,A1,n1,c1,b2,A2,n2,c2,b3,A3,n3,c3,b4,A4,n4,c4,h1,h2,h3⟩:=h;exact⟨b1,A1,n1,c1,b2,A2,n2,c2,b3,A3,n3,c3,b4,A4,n4,c4,h1,h2.kd k,h3.kd k⟩
theorem Rb.kd{w w':World}{v:Value}{p q:Rat}(h:Rb w v p q)(k:KD w w'):Rb w' v p q:=by
 obtain⟨b1,A1,n1,c1,b2,A2,n2,c2,b3,A3,n3,c3,b4,A4,n4,c4,h1,h2,h3⟩:=h;exact⟨b1,A1,n1,c1,b2,A2,n2,c2,b3,A3,n3,c3,b4,A4,n4,c4,h1,h2.kd k,h3.kd k⟩
def jK:World→Value→Rat×Rat→Prop:=fun w u y=>K5 w u y.1 y.2
def Ff(base:Nat)(e:TypeId)(w:World)(v:Value)(l:List (Rat×Rat)):Prop:=BI 8 jK base e w v l
theorem Ff.ext{base:Nat}{e:TypeId}{w w':World}{v:Value}{l:List (Rat×Rat)}(h:Ff base e w v l)(x:Ext w w'):Ff base e w' v l:=BI.ext h x fun _ _ q=>q.ext x
theorem Ff.upd{base:Nat}{e:TypeId}{w w':World}{v:Value}{l:List (Rat×Rat)}{G:List Nat}(h:Ff base e w v l)(U:Cs G w w')(hg:∀ g∈blk v,g∉G):Ff base e w' v l:=
 BI.upd h U hg fun _ _ q=>q.kd U.kd
theorem Ff.nil(base:Nat)(e:TypeId)(w:World):Ff base e w (.slice none 0 0) []:=BI.nil 8 jK base e w
theorem Ff.len{base:Nat}{e:TypeId}{w:World}{v:Value}{l:List (Rat×Rat)}(h:Ff base e w v l):∃ A c,v = .slice A l.length c:=BI.len h
theorem K5.cells{w:World}{v:Value}{p q:Rat}(h:K5 w v p q):∃ b1 A1 n1 c1 b2 A2 n2 c2 b3 A3 n3 c3 b4 A4 n4 c4,v = .agg #[.bool b1,.slice A1 n1 c1,.bool b2,.slice A2 n2 c2,.bool b3,.slice A3 n3 c3,.bool b4,.slice A4 n4 c4]:=by
 obtain⟨b1,A1,n1,c1,b2,A2,n2,c2,b3,A3,n3,c3,b4,A4,n4,c4,h1,h2,h3⟩:=h;exact⟨b1,A1,n1,c1,b2,A2,n2,c2,b3,A3,n3,c3,b4,A4,n4,c4,h1⟩
noncomputable def Jw(R:Rat→Rat→Int):Nat→Rat→Rat→List (Rat×Rat)
 | 0,p,q=>if R p q=0 then [] else [(p,q)]
 | n+1,p,q=>if R p q=0 then [] else if R p q=1 then [(p,q)] else Jw R n p ((p+q) / 2) ++ Jw R n ((p+q) / 2) q
theorem MQ{R:Rat→Rat→Int}{p q:Rat}(h:R p q=0):∀ n,Jw R n p q=[]
 | 0=>by unfold Jw;rw[if_pos h]
 | n+1=>by unfold Jw;rw[if_pos h]
theorem Kw{R:Rat→Rat→Int}{p q:Rat}(h:R p q=1):∀ n,Jw R n p q=[(p,q)]
 | 0=>by unfold Jw;rw[if_neg Aa]
 | n+1=>by unfold Jw;rw[if_neg Aa,if_pos h]
theorem Mi{R:Rat→Rat→Int}{p q:Rat}{n:Nat}(h0:R p q≠0)(h1:R p q≠1):Jw R (n+1) p q=Jw R n p ((p+q) / 2) ++ Jw R n ((p+q) / 2) q:=by
 rw[Jw,if_neg h0,if_neg h1]
def Node(P Q:Rat)(d:Nat)(p q:Rat):Prop:=∃ k:Nat,k < 2^d∧p=P+(Q - P)*(((k:Nat):Rat) / 2^d)∧q=P+(Q - P)*(((k+1:Nat):Rat) / 2^d)
theorem Wo{k d:Nat}(h:k≤2^d):qsz (((k:Nat):Rat) / 2^d)≤d+1:=by
 have e:((k:Nat):Rat) / 2^d=Rat.divInt ((k:Nat):Int) ((2^d:Nat):Int):=by
  rw[BH,Rat.divInt_eq_div];rfl
 rw[e];have h2:sz (2^d)≤d+1:=by
  have:=Gf 2 1 Ab d;rw[Int.natAbs_pow]at this;have e3:((2:Int).natAbs)^d=2^d:=rfl;rw[e3]at this;omega
 refine Dl ?_ ?_ Aa
 ·rw[Int.natAbs_natCast];exact Nat.le_trans (Bp h) h2
 ·rw[Int.natAbs_natCast];exact h2
theorem Node.root(P Q:Rat):Node P Q 0 P Q:=by
 refine⟨0,Ab,?_,?_⟩
 ·rw[show((0:Nat):Rat)=0 from rfl,Rat.pow_zero];grind
 ·rw[show((0+1:Nat):Rat)=1 from rfl,Rat.pow_zero];grind
theorem Node.half{P Q p q:Rat}{d:Nat}(h:Node P Q d p q):Node P Q (d+1) p ((p+q) / 2)∧Node P Q (d+1) ((p+q) / 2) q:=by
 obtain⟨k,hk,rfl,rfl⟩:=h;have h2:(2:Rat)^d≠0:=by have:=Cq d;grind
 have e1:(2:Rat)^(d+1)=2^d*2:=Rat.pow_succ _ _;have c1:((2*k:Nat):Rat)=2*((k:Nat):Rat):=by push_cast;rfl
 have c2:((2*k+1:Nat):Rat)=2*((k:Nat):Rat)+1:=by rw[CR,c1]
 have c3:((2*k+1+1:Nat):Rat)=2*((k:Nat):Rat)+2:=by rw[CR,c2];grind
 have c4:((k+1:Nat):Rat)=((k:Nat):Rat)+1:=CR k;have hkk:2*k+1 < 2^(d+1):=by rw[Nat.pow_succ];omega
 constructor
 ·refine⟨2*k,Aa,?_,?_⟩
  ·rw[e1,c1];grind
  ·rw[e1,c2,c4];grind
 ·refine⟨2*k+1,hkk,?_,?_⟩
  ·rw[e1,c2,c4];grind
  ·rw[e1,c3,c4];grind
theorem Node.width{P Q p q:Rat}{d:Nat}(h:Node P Q d p q):(q - p)*2^d=Q - P:=by
 obtain⟨k,hk,rfl,rfl⟩:=h;have h2:(2:Rat)^d≠0:=by have:=Cq d;grind
 rw[CR];grind
theorem Node.within{P Q p q:Rat}{d:Nat}(h:Node P Q d p q)(hPQ:P < Q):P≤p∧p < q∧q≤Q:=by
 obtain⟨k,hk,rfl,rfl⟩:=h;have h2:=Cq d;obtain⟨hi,ei⟩:=Ir h2;have hd:0 < Q - P:=by grind
 obtain⟨z,hz⟩:∃ z:Rat,z=1 / 2^d:=⟨_,rfl⟩
 rw[←hz]at hi ei;have e:∀ x:Rat,x / 2^d=x*z:=fun x=>by rw[hz];grind
 rw[e,e];have k0:=Er k;have k1:((k+1:Nat):Rat)≤((2^d:Nat):Rat):=M0 hk;rw[←BH]at k1;have a0:=Rat.mul_nonneg (Std.le_of_lt hd) (Rat.mul_nonneg k0 (Std.le_of_lt hi));have a1:=Df k1 (Std.le_of_lt hi);have a2:(2:Rat)^d*z=1:=by grind
 rw[a2]at a1;have a3:=D5 a1 (Std.le_of_lt hd);have a4:=Rat.mul_pos hd hi;rw[CR]at a3 ⊢;refine⟨Au,Au,Au⟩
theorem Node.qsz{P Q p q:Rat}{d a:Nat}(h:Node P Q d p q)(hP:Hp.qsz P≤a)(hQ:Hp.qsz Q≤a):Hp.qsz p≤3*a+d+4∧Hp.qsz q≤3*a+d+4:=by
 obtain⟨k,hk,rfl,rfl⟩:=h;have key:∀ m:Nat,m≤2^d→Hp.qsz (P+(Q - P)*(((m:Nat):Rat) / 2^d))≤3*a+d+4:=fun m hm=>by
  have h1:=Py Q P;have h2:=BR (Q - P) (((m:Nat):Rat) / 2^d);have h3:=Wo hm;have h4:=EB P ((Q - P)*(((m:Nat):Rat) / 2^d));omega
 exact⟨key k Aa,key (k+1) hk⟩
theorem UN{F:Nat→Rat}(hF:SF F){P Q:Rat}(hPQ:P < Q){N:Nat}(hdeep:∀ d p q,Node P Q d p q→N≤d→rc F p q≤1) :
  ∀(n d:Nat) (p q:Rat),Node P Q d p q→N≤n+d→(∀ x∈Jw (rc F) n p q,rc F x.1 x.2=1∧(∃ d',d≤d'∧d'≤n+d∧Node P Q d' x.1 x.2)∧p≤x.1∧x.2≤q) ∧
   ((Jw (rc F) n p q).length:Int)=rc F p q∧(Jw (rc F) n p q).Pairwise fun x y=>x.2≤y.1:=by
 intro n;induction n with
 | zero =>
  intro d p q hn hN;have h1:=hdeep d p q hn Aa;have hw:=hn.within hPQ;have h0:=hF.nonneg (Std.le_of_lt hw.2.1);by_cases hz:rc F p q=0
  ·rw[MQ hz];exact⟨fun x hx=>by simp at hx,by simp[hz],List.Pairwise.nil⟩
  ·rw[Kw (show rc F p q=1 by omega)]
   refine⟨fun x hx=>?_,D7,Ac⟩;have:x=(p,q):=by simpa using hx
   subst this;exact⟨show rc F p q=1 by omega,⟨d,Nat.le_refl _,Aa,hn⟩,Std.le_refl _,Std.le_refl _⟩
 | succ n ih =>
  intro d p q hn hN;have hw:=hn.within hPQ;have h0:=hF.nonneg (Std.le_of_lt hw.2.1);by_cases hz:rc F p q=0
  ·rw[MQ hz];exact⟨fun x hx=>by simp at hx,by simp[hz],List.Pairwise.nil⟩
  by_cases ho:rc F p q=1
  ·rw[Kw ho]
   refine⟨fun x hx=>?_,by simp[ho],Ac⟩;have:x=(p,q):=by simpa using hx
   subst this;exact⟨ho,⟨d,Nat.le_refl _,Aa,hn⟩,Std.le_refl _,Std.le_refl _⟩
  ·rw[Mi hz ho]
   obtain⟨n1,n2⟩:=hn.half;obtain⟨a1,a2,a3⟩:=ih (d+1) _ _ n1 Aa;obtain⟨b1,b2,b3⟩:=ih (d+1) _ _ n2 Aa;have w1:=(n1.within hPQ).2.1;have w2:=(n2.within hPQ).2.1;have hsum:=T9 F p ((p+q) / 2) q;refine⟨fun x hx=>?_,?_,?_⟩
   ·rcases List.mem_append.1 hx with hx | hx
    ·obtain⟨c1,⟨d',c2,c3,c4⟩,c5,c6⟩:=a1 x hx
     exact⟨c1,⟨d',Aa,Aa,c4⟩,c5,Au⟩
    ·obtain⟨c1,⟨d',c2,c3,c4⟩,c5,c6⟩:=b1 x hx
     exact⟨c1,⟨d',Aa,Aa,c4⟩,Au,c6⟩
   ·rw[List.length_append];push_cast;omega
   ·rw[List.pairwise_append]
    refine⟨a3,b3,fun x hx y hy=>?_⟩;obtain⟨-,-,-,c6⟩:=a1 x hx;obtain⟨-,-,c5,-⟩:=b1 y hy;exact Std.le_trans c6 c5
theorem eU(W:Nat→Rat)(K:Nat)(p q:Rat):rts W K p q=rt W K p q:=by
 have e:∀ x,V (EA W (pd W) K) x=vx W K x:=fun x=>by
  unfold V vx VO EA;rw[List.map_map];rfl
 unfold rts rt;rw[e,e]
theorem JZ{W:Nat→Rat}{K:Nat}(hK:NN W (pd W) K)(p q:Rat):rts W K p q=rc W p q:=by rw[eU];unfold rc;rw[hK.kn]
theorem VM{G:List Nat}{X Y:World}(U:Cs G X Y){g i:Nat}{x:Value}(hg:g∉G)(h:X.cell? ⟨g,i,none⟩=some x):Y.cell? ⟨g,i,none⟩=some x:=by
 have hb:=World.block_lt_of_cell? X _ h;have ho:X.heap[g]? = some X.heap[g]:=Array.getElem?_eq_getElem hb;have:=U.1 g _ hg ho;rw[World.cell?_of_block (this.trans ho.symm)];exact h
def Tn(base:Nat)(t:TypeId)(w:World)(o:Value)(l:List (Rat×Rat))(e:Ending)(w':World):Prop:=∃ r,e = .returned r∧Ff base t w' r l∧Cs (blk o) w w'∧∀ g∈blk r,g∈blk o∨w.heap.size≤g
end Go.Hp
namespace Go.Proofs.YtmhgnigpmompmaaGreat
open Go.RowKit Go.Hp
theorem aY:(Tryz.prog.info? 30).map (fun i=>(i.zero,i.size,i.bytes))=some (some (.agg #[.bool false,.slice none 0 0,.bool false,.slice none 0 0,.bool false,.slice none 0 0,.bool false,.slice none 0 0]),8,128):=by kernel_rfl
theorem VQ(W:World)(base ty g:Nat)(v:Value)(l:List (Rat×Rat))(p q:Rat){b1 b2 b3 b4:Bool}{A1 A2 A3 A4:Option Addr}{n1 n2 n3 n4 c1 c2 c3 c4:Nat}(h:Ff base 30 W v l)
  (hq:K5 W (.agg #[.bool b1,.slice A1 n1 c1,.bool b2,.slice A2 n2 c2,.bool b3,.slice A3 n3 c3,.bool b4,.slice A4 n4 c4]) p q) (hn:l.length≤1000000) (hb:base≤W.heap.size) (hg:g=W.heap.size) :
  ∃ v' w',(Builtin.append_ #[51,51] ty #[v,.slice (some ⟨g,0,none⟩) 1 1]).run Tryz.prog (W.alloc (.cells #[.bool b1,.slice A1 n1 c1,.bool b2,.slice A2 n2 c2,.bool b3,.slice A3 n3 c3,.bool b4,.slice A4 n4 c4] 30)) = .ok v' w' ∧
   (Ff base 30 w' v' (l ++ [(p,q)])∧Cs (blk v) W w'∧∀ g∈blk v',g∈blk v∨W.heap.size≤g):=by
 subst hg;obtain⟨i0,hi,hz0,hz1,hz2⟩:=info_parts aY;have hB:=Bj.new W 30 #[.bool b1,.slice A1 n1 c1,.bool b2,.slice A2 n2 c2,.bool b3,.slice A3 n3 c3,.bool b4,.slice A4 n4 c4] (by simp[Ag]);have hx:=(Ext.refl W).alloc (.cells #[.bool b1,.slice A1 n1 c1,.bool b2,.slice A2 n2 c2,.bool b3,.slice A3 n3 c3,.bool b4,.slice A4 n4 c4] 30);obtain⟨v',w',a,b,c,d⟩:=BI.append_at (P:=Tryz.prog) (x:=(p,q)) (Ff.ext h hx) 51 ty i0 _ 128 Tryz.underlying51 hi hz0 hz1 hz2 rfl (by simp[nodig,Ag,Value.cells]) Ab ⟨W.heap.size,0,none⟩ 1
  #[.bool b1,.slice A1 n1 c1,.bool b2,.slice A2 n2 c2,.bool b3,.slice A3 n3 c3,.bool b4,.slice A4 n4 c4] rfl (hq.ext hx) hB.news (by simp[Value.oneCell']) (by simp[nodig,Ag]) (by simp only[maxLen];omega) Aa (Nat.le_trans hb hx.size) (fun _ _ _ k hq=>K5.kd hq k)
 refine⟨v',w',a,b,(Cs.of_ext hx).trans c,fun g hg=>?_⟩;rcases d g hg with q | q
 ·exact .inl q
 ·right;have:=hx.size;omega
set_option maxRecDepth 20000 in
theorem VC(a:World)(v:Value)(W:Nat→Rat)(P Q:Rat)(base S D M K N aP:Nat)(hv:Q5 base 23 a v W)(hC:Mm W S D M)(hK:NN W (pd W) K)(hPQ:P < Q)(hP:qsz P≤aP)(hQ:qsz Q≤aP)
  (hdeep:∀ d p q,Hp.Node P Q d p q→N≤d→rc W p q≤1) (h0:∀ d p q,Hp.Node P Q d p q→0≤rc W p q) (ht:1+D*(M+(3*aP+N+4)+1)+M+(3*aP+N+4)+1≤100000000000) :
  ∀(n d:Nat) (p q:Rat) (u o:Value) (l:List (Rat×Rat)) (w:World),Hp.Node P Q d p q→N≤n+d→d≤N→Ext a w→Rb w u p q→Ff a.heap.size 30 w o l→l.length+(Jw (rc W) n p q).length≤1000 →
   Calls Tryz.prog 64 #[v,o,u] w (Tn a.heap.size 30 w o (l ++ Jw (rc W) n p q)):=by
 intro nn;induction nn using Nat.strongRecOn with
 | _ nn ih =>
  intro d p q u o l w hn hN hd hx hu ho hl;obtain⟨hp,hq⟩:=hn.qsz hP hQ;have hin:∀ X (x:Ext w X) y z,BQ X y p→BQ X z q→Bh 51 #[v,y,z] X (fun r _=>r = .int .i64 (rc W p q)):=fun X x y z hy hz=>by
   have:=eD v y z W p q base S D M (3*aP+N+4) K X (hv.ext (hx.trans x)) hy hz hC hK Aa Aa Aa;have e:((V (EA W (pd W) K) p:Nat):Int) - (V (EA W (pd W) K) q:Nat)=rc W p q:=JZ hK p q;rw[e]at this;exact this
  obtain⟨A0,n0,c0,rfl⟩:=hv.cell;have hu':=hu;obtain⟨d1,A1,n1,c1,d2,A2,n2,c2,d3,A3,n3,c3,d4,A4,n4,c4,rfl,hu1,hu2⟩:=hu;obtain⟨Ao,co,rfl⟩:=ho.len;obtain⟨R,hR⟩:∃ R,R=rc W p q:=⟨_,rfl⟩
  have hR0:=h0 d p q hn;have hRd:=hdeep d p q hn;rw[←hR]at hin hR0 hRd;have HC:=Ad (Ak hin (Ak hu1 (Ak hu2 (Ak hR (Ak ho (Ak hu' hx))))));clear hin hu1 hu2 hR ho hu' hx
  go_enter Tryz.func64,Tryz.ntmps64
  obtain⟨W1,eW1,ec,y1⟩:=Bj.made w 92 #[.slice A0 n0 c0] (by simp[Ag]);obtain⟨W2,eW2,ea,y2⟩:=Bj.made W1 30 #[.bool d1,.slice A1 n1 c1,.bool d2,.slice A2 n2 c2,.bool d3,.slice A3 n3 c3,.bool d4,.slice A4 n4 c4] (by simp[Ag]);have s1:W1.heap.size=w.heap.size+1:=by rw[eW1,World.size_alloc]
  rw[s1]at ea;have hx:=y1.trans y2;replace ec:=ec.ext y2
  go_upto_region 1 with(fail)
  rw[←eW1,←eW2];clear eW1 eW2 y1 y2 s1;obtain⟨cea0,cea1,cea2,cea3,cea4,cea5,cea6,cea7⟩:=ea.cells8;have fea:=ea.frozen;have cec0:=ec.cells1
  go_wp2_with fail
  refine AL (HC.out.1 _ hx _ _ (HC.out.2.1.ext hx) (HC.out.2.2.1.ext hx)) ?_;rintro r4 w4 rfl hx4;clear cea0 cea1 cea2 cea3 cea4 cea5 cea6 cea7 fea cec0;replace ea:=ea.ext hx4;replace ec:=ec.ext hx4;replace hx:=hx.trans hx4;clear hx4;have fin0:R=0→Tn a.heap.size 30 w (.slice Ao l.length co) (l ++ Jw (rc W) nn p q) (.returned (.slice Ao l.length co)) w4:=fun h=>by
   rw[MQ (by rw[←HC.out.2.2.2.1];exact h),List.append_nil];exact⟨_,rfl,HC.out.2.2.2.2.1.ext hx,Cs.of_ext hx,fun g hg => .inl hg⟩
  have H0:=Ad fin0;clear fin0;by_cases hz:R=0
  ·have hb:(R==0)=true:=by simpa using hz
   have HF:=Ad (H0.out hz);clear hz;go_wp2
   go_ret
   exact HF.out
  clear H0;have hb0:(R==0)=false:=by simpa using hz
  by_cases hone:R=1
  ·have hb1:(R==1)=true:=by simpa using hone
   have H1:=Ad hone;have hl9:l.length≤1000000:=by omega
   clear hone hz hl;have hsz4:=hx.size;have has:=HC.out.2.2.2.2.2.2.size;obtain⟨cea0,cea1,cea2,cea3,cea4,cea5,cea6,cea7⟩:=ea.cells8;have fea:=ea.frozen
   go_wp2_with fail
   refine AL (Wn _ _ p q _ (HC.out.2.1.ext hx) (HC.out.2.2.1.ext hx)) ?_;rintro r5 w5 hr5 hx5;have hx6:=hx.trans hx5;clear cea0 cea1 cea2 cea3 cea4 cea5 cea6 cea7 fea ea ec hx5 hx;obtain⟨e1,B1,m1,k1,e2,B2,m2,k2,e3,B3,m3,k3,e4,B4,m4,k4,rfl⟩:=hr5.cells;have H5:=Ad hr5;clear hr5;have hsz5:=hx6.size
   go_wp2_with (at_builtin;refine AB rfl _ _ 51 rfl (.slice Ao l.length co) (.slice (some ⟨w5.heap.size,0,none⟩) 1 1) rfl rfl (VQ w5 a.heap.size _ _ _ l p q (HC.out.2.2.2.2.1.ext hx6) H5.out hl9 Aa rfl) ?_)
   intro v' w7 hown U hat;have HF:Tn a.heap.size 30 w (.slice Ao l.length co) (l ++ Jw (rc W) nn p q) (.returned v') w7:=by
    rw[Kw (by rw[←HC.out.2.2.2.1];exact H1.out)];exact⟨_,rfl,hown,(Cs.of_ext hx6).trans U,fun g hg=>(hat g hg).imp id fun q=>Aa⟩
   have HF:=Ad HF;clear hown U hat;go_wp2
   go_ret
   exact HF.out
  ·have hb1:(R==1)=false:=by simpa using hone
   have hR2:2≤R:=by omega
   have hdN:d < N:=by
    rcases Nat.lt_or_ge d N with q | q
    ·exact q
    ·have:=hRd q;omega
   obtain⟨n,rfl⟩:∃ n,nn=n+1:=⟨nn - 1,Aa⟩
   replace ih:=ih n Aa;obtain⟨m,hm⟩:∃ m,m=(p+q) / 2:=⟨_,rfl⟩
   have hiso:Jw (rc W) (n+1) p q=Jw (rc W) n p m ++ Jw (rc W) n m q:=by
    rw[hm];exact Mi (by rw[←HC.out.2.2.2.1];exact hz) (by rw[←HC.out.2.2.2.1];exact hone)
   obtain⟨n1',n2'⟩:=hn.half;rw[←hm]at n1' n2';obtain⟨hmq,-⟩:=n2'.qsz hP hQ;have hmid:∀ X (x:Ext w X),Bh 112 #[.agg #[.bool d1,.slice A1 n1 c1,.bool d2,.slice A2 n2 c2,.bool d3,.slice A3 n3 c3,.bool d4,.slice A4 n4 c4]] X (fun r w'=>BD w' r m):=fun X x=>by
    have:=XI _ p q (3*aP+N+4) X (HC.out.2.2.2.2.2.1.ext x) Aa Aa Aa;rw[←hm]at this;exact this
   have HM:=Ad (Ak hmid (Ak hiso (Ak n1' (Ak n2' (show qsz m≤274877906944 by omega)))));clear hmid hiso n1' n2' hmq hm;have HL:=Ad hl;clear hR0 hRd hz hone hl hp hq hn hR2;obtain⟨cea0,cea1,cea2,cea3,cea4,cea5,cea6,cea7⟩:=ea.cells8;have fea:=ea.frozen
   go_wp2_with fail
   refine AL (HM.out.1 _ hx) ?_;rintro r5 w5 hr5 hx5;obtain⟨e1,B1,m1,k1,e2,B2,m2,k2,rfl⟩:=hr5.cells;clear cea0 cea1 cea2 cea3 cea4 cea5 cea6 cea7 fea;replace ea:=ea.ext hx5;replace ec:=ec.ext hx5;replace hx:=hx.trans hx5;clear hx5;obtain⟨W6,eW6,em,y6⟩:=Bj.made w5 28 #[.bool e1,.slice B1 m1 k1,.bool e2,.slice B2 m2 k2] (by simp[Ag]);have hmm:=(hr5.ext y6).has HM.out.2.2.2.2;have hgm:=ea.lt;replace ea:=ea.ext y6
   replace ec:=ec.ext y6;replace hx:=hx.trans y6;clear y6
   go_upto_region 7 with(fail)
   rw[←eW6];clear eW6 hr5;generalize w5.heap.size=gm at *;have HX:=Ad (Ak hmm hx);clear hmm;have hos:∀ g∈blk (.slice Ao l.length co),g < w.heap.size:=fun g hg=>(BI.blk_ge HC.out.2.2.2.2.1 g hg).2;have HO:=Ad hos;clear hos;have hsz6:=hx.size;have ha6:=HC.out.2.2.2.2.2.2.size;have hlen:(Jw (rc W) n p m).length+(Jw (rc W) n m q).length+l.length≤1000:=by
    have h1:=HL.out;rw[HM.out.2.1,List.length_append]at h1;omega
   have HLn:=Ad hlen;clear hlen;have hcall1:∀ X,Ext W6 X→Calls Tryz.prog 64 #[.agg #[.slice A0 n0 c0],.slice Ao l.length co,.agg #[.bool d1,.slice A1 n1 c1,.bool d2,.slice A2 n2 c2,.bool e1,.slice B1 m1 k1,.bool e2,.slice B2 m2 k2]] X
     (Tn a.heap.size 30 X (.slice Ao l.length co) (l ++ Jw (rc W) n p m)):=fun X x =>
    ih (d+1) p m _ _ l X HM.out.2.2.1 Aa Aa (HC.out.2.2.2.2.2.2.trans (HX.out.2.trans x)) ⟨_,_,_,_,_,_,_,_,_,_,_,_,_,_,_,_,rfl,HC.out.2.1.ext (HX.out.2.trans x),HX.out.1.ext x⟩ (HC.out.2.2.2.2.1.ext (HX.out.2.trans x)) (by have:=HLn.out;omega)
   have hcall2:∀ X r,KD W6 X→Ext a X→Ff a.heap.size 30 X r (l ++ Jw (rc W) n p m)→Calls Tryz.prog 64 #[.agg #[.slice A0 n0 c0],r,.agg #[.bool e1,.slice B1 m1 k1,.bool e2,.slice B2 m2 k2,.bool d3,.slice A3 n3 c3,.bool d4,.slice A4 n4 c4]] X
     (Tn a.heap.size 30 X r (l ++ Jw (rc W) n p m ++ Jw (rc W) n m q)):=fun X r k x hr =>
    ih (d+1) m q _ _ _ X HM.out.2.2.2.1 Aa Aa x ⟨_,_,_,_,_,_,_,_,_,_,_,_,_,_,_,_,rfl,HX.out.1.kd k,(HC.out.2.2.1.ext HX.out.2).kd k⟩ hr (by have:=HLn.out;rw[List.length_append];omega)
   have HK:=Ad (Ak hcall1 hcall2);clear hcall1 hcall2;obtain⟨cea0,cea1,cea2,cea3,cea4,cea5,cea6,cea7⟩:=ea.cells8;have fea:=ea.frozen;obtain⟨cem0,cem1,cem2,cem3⟩:=em.cells4;have fem:=em.frozen;have cec0:=ec.cells1;have hkeep:∀(G:List Nat) (X Y:World),Cs G X Y→(∀ g∈G,g < w.heap.size∨W6.heap.size≤g)→(X.cell? ⟨w.heap.size+1,0,none⟩=some (.bool d1)∧X.cell? ⟨w.heap.size+1,1,none⟩=some (.slice A1 n1 c1)∧X.cell? ⟨w.heap.size+1,2,none⟩=some (.bool d2)∧X.cell? ⟨w.heap.size+1,3,none⟩=some (.slice A2 n2 c2)∧X.cell? ⟨w.heap.size+1,4,none⟩=some (.bool d3)∧X.cell? ⟨w.heap.size+1,5,none⟩=some (.slice A3 n3 c3)∧X.cell? ⟨w.heap.size+1,6,none⟩=some (.bool d4)∧X.cell? ⟨w.heap.size+1,7,none⟩=some (.slice A4 n4 c4)∧X.cell? ⟨gm,0,none⟩=some (.bool e1)∧X.cell? ⟨gm,1,none⟩=some (.slice B1 m1 k1)∧X.cell? ⟨gm,2,none⟩=some (.bool e2)∧X.cell? ⟨gm,3,none⟩=some (.slice B2 m2 k2)∧X.cell? ⟨w.heap.size,0,none⟩=some (.slice A0 n0 c0))→(Y.cell? ⟨w.heap.size+1,0,none⟩=some (.bool d1)∧Y.cell? ⟨w.heap.size+1,1,none⟩=some (.slice A1 n1 c1)∧Y.cell? ⟨w.heap.size+1,2,none⟩=some (.bool d2)∧Y.cell? ⟨w.heap.size+1,3,none⟩=some (.slice A2 n2 c2)∧Y.cell? ⟨w.heap.size+1,4,none⟩=some (.bool d3)∧Y.cell? ⟨w.heap.size+1,5,none⟩=some (.slice A3 n3 c3)∧Y.cell? ⟨w.heap.size+1,6,none⟩=some (.bool d4)∧Y.cell? ⟨w.heap.size+1,7,none⟩=some (.slice A4 n4 c4)∧Y.cell? ⟨gm,0,none⟩=some (.bool e1)∧Y.cell? ⟨gm,1,none⟩=some (.slice B1 m1 k1)∧Y.cell? ⟨gm,2,none⟩=some (.bool e2)∧Y.cell? ⟨gm,3,none⟩=some (.slice B2 m2 k2)∧Y.cell? ⟨w.heap.size,0,none⟩=some (.slice A0 n0 c0)):=fun G X Y U hG ⟨a0,a1,a2,a3,a4,a5,a6,a7,b0,b1,b2,b3,c0⟩=>by
    have gl1:=ea.lt;have gl2:=em.lt;have gl3:=ec.lt;have q:∀ g i x,(w.heap.size≤g∧g < W6.heap.size)→X.cell? ⟨g,i,none⟩=some x→Y.cell? ⟨g,i,none⟩=some x:=fun g i x hg hc=>VM U (fun hm=>by rcases hG g hm with z | z<;>omega) hc;exact⟨q _ _ _ Aa a0,q _ _ _ Aa a1,q _ _ _ Aa a2,q _ _ _ Aa a3,q _ _ _ Aa a4,q _ _ _ Aa a5,q _ _ _ Aa a6,q _ _ _ Aa a7,q _ _ _ Aa b0,q _ _ _ Aa b1,q _ _ _ Aa b2,q _ _ _ Aa b3,q _ _ _ Aa c0⟩
   have HE:=Ad hkeep;clear hkeep;have hS0:W6.cell? ⟨w.heap.size+1,0,none⟩=some (.bool d1)∧W6.cell? ⟨w.heap.size+1,1,none⟩=some (.slice A1 n1 c1)∧W6.cell? ⟨w.heap.size+1,2,none⟩=some (.bool d2)∧W6.cell? ⟨w.heap.size+1,3,none⟩=some (.slice A2 n2 c2)∧W6.cell? ⟨w.heap.size+1,4,none⟩=some (.bool d3)∧W6.cell? ⟨w.heap.size+1,5,none⟩=some (.slice A3 n3 c3)∧W6.cell? ⟨w.heap.size+1,6,none⟩=some (.bool d4)∧W6.cell? ⟨w.heap.size+1,7,none⟩=some (.slice A4 n4 c4)∧W6.cell? ⟨gm,0,none⟩=some (.bool e1)∧W6.cell? ⟨gm,1,none⟩=some (.slice B1 m1 k1)∧W6.cell? ⟨gm,2,none⟩=some (.bool e2)∧W6.cell? ⟨gm,3,none⟩=some (.slice B2 m2 k2)∧W6.cell? ⟨w.heap.size,0,none⟩=some (.slice A0 n0 c0):=⟨cea0,cea1,cea2,cea3,cea4,cea5,cea6,cea7,cem0,cem1,cem2,cem3,cec0⟩
   have hS1:W6.drew.cell? ⟨w.heap.size+1,0,none⟩=some (.bool d1)∧W6.drew.cell? ⟨w.heap.size+1,1,none⟩=some (.slice A1 n1 c1)∧W6.drew.cell? ⟨w.heap.size+1,2,none⟩=some (.bool d2)∧W6.drew.cell? ⟨w.heap.size+1,3,none⟩=some (.slice A2 n2 c2)∧W6.drew.cell? ⟨w.heap.size+1,4,none⟩=some (.bool d3)∧W6.drew.cell? ⟨w.heap.size+1,5,none⟩=some (.slice A3 n3 c3)∧W6.drew.cell? ⟨w.heap.size+1,6,none⟩=some (.bool d4)∧W6.drew.cell? ⟨w.heap.size+1,7,none⟩=some (.slice A4 n4 c4)∧W6.drew.cell? ⟨gm,0,none⟩=some (.bool e1)∧W6.drew.cell? ⟨gm,1,none⟩=some (.slice B1 m1 k1)∧W6.drew.cell? ⟨gm,2,none⟩=some (.bool e2)∧W6.drew.cell? ⟨gm,3,none⟩=some (.slice B2 m2 k2)∧W6.drew.cell? ⟨w.heap.size,0,none⟩=some (.slice A0 n0 c0):=HE.out [] W6 W6.drew (Cs.of_ext (Ext.refl W6).drew) (fun g hg=>by cases hg) hS0
   clear hS0 cea0 cea1 cea2 cea3 cea4 cea5 cea6 cea7 cem0 cem1 cem2 cem3 cec0 fea fem;clear ih hC hK hPQ hP hQ hdeep h0 ht hN hd hdN hv
   go_region_held3 (fun w'=>w'.cell? ⟨w.heap.size+1,0,none⟩=some (.bool d1)∧w'.cell? ⟨w.heap.size+1,1,none⟩=some (.slice A1 n1 c1)∧w'.cell? ⟨w.heap.size+1,2,none⟩=some (.bool d2)∧w'.cell? ⟨w.heap.size+1,3,none⟩=some (.slice A2 n2 c2)∧w'.cell? ⟨w.heap.size+1,4,none⟩=some (.bool d3)∧w'.cell? ⟨w.heap.size+1,5,none⟩=some (.slice A3 n3 c3)∧w'.cell? ⟨w.heap.size+1,6,none⟩=some (.bool d4)∧w'.cell? ⟨w.heap.size+1,7,none⟩=some (.slice A4 n4 c4)∧w'.cell? ⟨gm,0,none⟩=some (.bool e1)∧w'.cell? ⟨gm,1,none⟩=some (.slice B1 m1 k1)∧w'.cell? ⟨gm,2,none⟩=some (.bool e2)∧w'.cell? ⟨gm,3,none⟩=some (.slice B2 m2 k2)∧w'.cell? ⟨w.heap.size,0,none⟩=some (.slice A0 n0 c0))
    (first | (exact HE.out _ _ _ U2 hG2 (by assumption)) | (exact HE.out _ _ _ U1 hG1 (by assumption)) | (exact hS1))
    ((first
     | (have hU1:=U1;clear hU1;go_at_call 64;refine Calls.mono (HK.out.2 _ _ (((KD.refl W6).drew).trans U1.kd) (U1.from_ (HC.out.2.2.2.2.2.2.trans hx).drew fun g hg=>(BI.blk_ge HC.out.2.2.2.2.1 g hg).1) hown1) ?_;rintro e w2 ⟨r2,rfl,hown2,U2,hat2⟩;have hG2:∀ g∈blk r1,g < w.heap.size∨W6.heap.size≤g:=fun g hg=>(hat1 g hg).imp (HO.out g) id)
     | (go_at_call 64;refine Calls.mono (HK.out.1 W6.drew (Ext.refl W6).drew) ?_;rintro e w1 ⟨r1,rfl,hown1,U1,hat1⟩;have hG1:∀ g∈blk (.slice Ao l.length co),g < w.heap.size∨W6.heap.size≤g:=fun g hg=>Or.inl (HO.out g hg))))
   have hgm1:w1.heap.size > gm:=by
    have hne:gm∉blk (.slice Ao l.length co):=fun hm=>by have:=HO.out _ hm;omega
    exact(Array.getElem?_eq_some_iff.1 (U1.1 gm _ hne em.1)).1
   have UA:Cs (blk (.slice Ao l.length co)) w w1:=(Cs.of_ext hx.drew).trans U1;have HF:Tn a.heap.size 30 w (.slice Ao l.length co) (l ++ Jw (rc W) (n+1) p q) (.returned r2) w2:=by
    rw[HM.out.2.1,←List.append_assoc];refine⟨r2,rfl,hown2,UA.new_trans U2 fun g hg=>(hat1 g hg).imp id fun z=>Nat.le_trans hsz6 z,fun g hg=>?_⟩;rcases hat2 g hg with z | z
    ·exact(hat1 g z).imp id fun z=>Nat.le_trans hsz6 z
    ·right;omega
   have HFF:=Ad HF;clear HF UA hown1 hown2 U1 U2 hat1 hat2 hG1 hG2;go_wp2
   go_ret
   exact HFF.out
end Go.Proofs.YtmhgnigpmompmaaGreat
namespace Go.Hp
open Go.RowKit
theorem fK(q:Rat):(ab q).num=(q.num.natAbs:Nat)∧(ab q).den=q.den:=by
 unfold ab
 split
 ·rename_i h
  have h1:=Kz (q:=-q);have h2:(-q).num = -q.num:=rfl;have h3:0 < -q:=by grind
  have:=h1.2 h3;exact⟨Aa,rfl⟩
 ·rename_i h
  have:0≤q.num:=Rat.num_nonneg.2 Au;exact⟨Aa,rfl⟩
theorem Bj.put42{w:World}{g:Nat}{t:TypeId}{a b c d:Value}(h:Bj w g t #[a,b,c,d])(u v:Value)(hu:Ag u=false)(hv:Ag v=false) :
  ∃ W,W=(w.setCell ⟨g,0,none⟩ u).setCell ⟨g,1,none⟩ v∧Bj W g t #[u,v,c,d]∧Cs [g] w W:=
 ⟨_,rfl,(h.set_ 0 hu).set_ 1 hv,(Cs.set_ h.nodig 0 u).trans (Cs.set_ (h.set_ 0 hu).nodig 1 v)⟩
end Go.Hp
namespace Go.Proofs.YtmhgnigpmompmaaGreat
open Go.RowKit Go.Hp
set_option maxRecDepth 20000 in
theorem ZT(v:Value)(q:Rat)(w:World)(hv:BQ w v q)(hs:qsz q≤274877906944):Bh 121 #[v] w (fun r w'=>BD w' r (ab q)):=by
 have HV:=Ad hv;obtain⟨b,B,m1,e1,b',B',m1',e1',x0,y0,rfl,-⟩:=hv.form;clear hv;have hsn:sz q.num.natAbs≤274877906944:=by have:=ER q;omega
 have HS:=Ad hsn;clear hs hsn
 go_enter Tryz.func121,Tryz.ntmps121
 obtain⟨W1,eW1,ea,y1⟩:=Bj.made w 28 #[.bool b,.slice B m1 e1,.bool b',.slice B' m1' e1'] (by simp[Ag]);obtain⟨W2,eW2,ez,y2⟩:=Bj.made W1 28 #[.bool false,.slice none 0 0,.bool false,.slice none 0 0] (by simp[Ag]);have s1:W1.heap.size=w.heap.size+1:=by rw[eW1,World.size_alloc]
 rw[s1]at ez;have hx:=y1.trans y2;replace ea:=ea.ext y2
 go_upto_region 1 with(fail)
 rw[←eW1,←eW2];clear eW1 eW2 y1 y2 s1;obtain⟨cea0,cea1,cea2,cea3⟩:=ea.cells4;have fea:=ea.frozen
 go_wp2_with fail
 refine AL (GN _ q _ (HV.out.ext hx)) ?_;rintro r3 w3 hr3 hx3;obtain⟨b5,A5,n5,c5,b6,A6,n6,c6,rfl⟩:=hr3.cells;clear cea0 cea1 cea2 cea3 fea;replace ea:=ea.ext hx3;replace ez:=ez.ext hx3;replace hx:=hx.trans hx3;clear hx3;obtain⟨cea0,cea1,cea2,cea3⟩:=ea.cells4;have fea:=ea.frozen
 go_upto_region 2 with(fail)
 obtain⟨W4,eW,ea',U⟩:=ea.put4 (.bool b5) (.slice A5 n5 c5) (.bool b6) (.slice A6 n6 c6) rfl rfl rfl rfl;rw[←eW];clear eW ea;replace hr3:=hr3.kd U.kd;replace ez:=ez.upd U Ai;replace hx:=U.from_ hx Ai;have ea:=ea';clear U ea';have hnd:AO W4 (.agg #[.bool b5,.slice A5 n5 c5]) q.num∧AO W4 (.agg #[.bool b6,.slice A6 n6 c6]) (q.den:Nat):=by
  obtain⟨_,_,_,_,_,_,_,_,e,h1,h2⟩:=hr3;cases e;exact⟨h1,h2⟩
 have HN:=Ad hnd;clear hnd hr3;clear cea0 cea1 cea2 cea3 fea;obtain⟨cea0,cea1,cea2,cea3⟩:=ea.cells4;have fea:=ea.frozen
 go_wp2_with fail
 refine AL (gQ _ q.num _ (HN.out.1.has (by have:=HS.out;omega))) ?_;rintro r5 w5 hr5 hx5;obtain⟨b7,A7,n7,c7,rfl⟩:=hr5.cells;have HD:=Ad (Ak hr5 (HN.out.2.ext hx5));clear cea0 cea1 cea2 cea3 fea HN hr5;replace ea:=ea.ext hx5;replace ez:=ez.ext hx5;replace hx:=hx.trans hx5;clear hx5;obtain⟨cea0,cea1,cea2,cea3⟩:=ea.cells4;have fea:=ea.frozen
 go_upto_region 3 with(fail)
 obtain⟨W6,eW6,ea',U⟩:=ea.put42 (.bool b7) (.slice A7 n7 c7) rfl rfl;rw[←eW6];have HE:=Ad (Ak (HD.out.1.kd U.kd) (HD.out.2.kd U.kd));replace ez:=ez.upd U Ac;replace hx:=U.from_ hx Ac;clear eW6 ea cea0 cea1 cea2 cea3 fea HD U;have ea:=ea';clear ea';obtain⟨cea0,cea1,cea2,cea3⟩:=ea.cells4;have fea:=ea.frozen;obtain⟨cez0,cez1,cez2,cez3⟩:=ez.cells4;have fez:=ez.frozen;have hq:BD W6 (.agg #[.bool b7,.slice A7 n7 c7,.bool b6,.slice A6 n6 c6]) (ab q):=by
  obtain⟨h1,h2⟩:=fK q;exact⟨_,_,_,_,_,_,_,_,rfl,by rw[h1];exact HE.out.1,by rw[h2];exact HE.out.2⟩
 have Hq:=Ad hq;clear hq HE;go_wp2;have hr:=Hq.out;obtain⟨W8,eW,ez',U⟩:=ez.put4 (.bool b7) (.slice A7 n7 c7) (.bool b6) (.slice A6 n6 c6) rfl rfl rfl rfl;rw[←eW];clear eW ez;replace hr:=hr.kd U.kd;replace hx:=U.from_ hx Ai;have ez:=ez';clear U ez';clear cez0 cez1 cez2 cez3 fez;obtain⟨cez0,cez1,cez2,cez3⟩:=ez.cells4;have fez:=ez.frozen;refine bodyPost_ret (v := .agg #[.bool b7,.slice A7 n7 c7,.bool b6,.slice A6 n6 c6]) (by simp[results,Tryz.results121,go_sem,cez0,cez1,cez2,cez3]) rfl ?_
 exact Ah.mk hr hx
end Go.Proofs.YtmhgnigpmompmaaGreat
namespace Go.Hp
open Go.RowKit
theorem VT(x y:Int):ab (Rat.divInt x y)=Rat.divInt (x.natAbs:Nat) (y.natAbs:Nat):=by
 have key:∀ n m:Nat,ab (Rat.divInt (n:Int) (m:Int))=Rat.divInt (n:Int) (m:Int):=fun n m=>by
  have:0≤Rat.divInt (n:Int) (m:Int):=Rat.divInt_nonneg Aa Aa;unfold ab;rw[if_neg Au]
 rcases Int.natAbs_eq x with hx | hx<;>rcases Int.natAbs_eq y with hy | hy
 ·rw[hx,hy,key];simp
 ·rw[hx,hy,Rat.divInt_neg',←Rat.neg_divInt,Ic,key];simp
 ·rw[hx,hy,←Rat.neg_divInt,Ic,key];simp
 ·rw[hx,hy,Rat.divInt_neg',←Rat.neg_divInt,←Rat.neg_divInt,Ic,Ic,key];simp
end Go.Hp
namespace Go.Proofs.YtmhgnigpmompmaaGreat
open Go.RowKit Go.Hp
theorem fO(v:Value)(q:Rat)(w:World)(hv:BQ w v q):Bh 76 #[v] w (fun r w'=>BD w' r (ab q)):=by
 obtain⟨b,A,n,c,b',A',n',c',x,y,rfl,hx,hy,sx,sy,hq⟩:=hv.form;have HX:=Ad hx;have HY:=Ad hy;clear hx hy hv;have hab:ab q=Rat.divInt (x.natAbs:Nat) (y.natAbs:Nat):=by rw[hq];exact VT x y
 rw[hab];clear hq hab
 go_enter Tryz.func76,Tryz.ntmps76
 go_wp2_with fail
 refine Ae 6 [3,4,5,6,7,8] [[],[0],[0,1],[],[3],[0,1,2,3,4],[0,1,2,3,4,5],[0,1,2,3,4,5,6]] [1] [_] [(kv ?_),(kv ?_),(fun γ=>γ 2),(kv ?_),(kv ?_),(fun γ=>γ 5)] (fun γ w'=>[True,True,AO w' (γ 2) (x.natAbs:Nat),True,True,AO w' (γ 5) (y.natAbs:Nat)]) Bn Aj Aj Bo Aj Bl Br ?hstep1 ?_
 case hstep1 =>
  iterate 6 refine⟨?_,?_⟩
  trivial
  iterate 2 focus
   intro γ w' he hf;clear hf;refine⟨by trivial,?_⟩;intro R hR;have hc:=he.cells;go_simp;refine hR _ _ (Ext.refl _) ?_ trivial;rfl
  ·intro γ w' he hf;clear hf;refine⟨trivial,?_⟩;intro R hR
   go_simp;exact Bd (Qw _ x w' (HX.out.ext he.a2)) hR
  iterate 2 focus
   intro γ w' he hf;clear hf;refine⟨by trivial,?_⟩;intro R hR;have hc:=he.cells;go_simp;refine hR _ _ (Ext.refl _) ?_ trivial;rfl
  ·intro γ w' he hf;clear hf;refine⟨trivial,?_⟩;intro R hR
   go_simp;exact Bd (Qw _ y w' (HY.out.ext he.a2)) hR
 intro γ w1 hx1 hF;have p2:AO w1 (γ 2) (x.natAbs:Nat):=AA.get hF 2 Ab;have p5:AO w1 (γ 5) (y.natAbs:Nat):=AA.get hF 5 Ab;clear hF;simp only[Bf,Nat.reduceAdd];generalize γ 2=g2 at *;generalize γ 5=g5 at *;clear γ
 go_wp2_with fail
 refine AL (Ib _ _ _ _ _ (p2.has D7) (p5.has D7) D7 D7) ?_;rintro r w2 hr hx2;replace hx1:=hx1.trans hx2;clear hx2 p2 p5;obtain⟨b5,A5,n5,c5,b6,A6,n6,c6,rfl⟩:=hr.cells;have hc1:=hx1.cells;have hf1:=hx1.frozens;have Hfin:=Ad (Cy hr hx1.a2 (AX.at_ hx1 (g:=w.heap.size+1) Ac (by simp[Ag])) Aa);clear hr;go_wp2;refine bodyPost_ret (v := .agg #[.bool b5,.slice A5 n5 c5,.bool b6,.slice A6 n6 c6]) (by simp[results,Tryz.results76,go_sem,hc1]) rfl ?_
 exact Hfin.out
end Go.Proofs.YtmhgnigpmompmaaGreat
namespace Go.Hp
theorem Xi(p q:Rat):ab (p / q)=ab p / ab q:=by
 by_cases h:q=0
 ·rw[h,DD,Rat.div_def,Rat.div_def,Rat.inv_zero,Rat.mul_zero,Rat.mul_zero];decide
 ·have h1:p / q*q=p:=by grind
  have h2:ab (p / q)*ab q=ab p:=by rw[←Cm,h1]
  have h3:ab q≠0:=fun e=>h (U4.1 e);grind
theorem NL{p q:Rat}:decide (FB (p - q)≤0)=decide (p≤q):=by
 rw[Jd];unfold BM;by_cases h:p≤q
 ·rw[if_neg Au,decide_eq_true h]
  split<;>rfl
 ·rw[decide_eq_false h,if_pos Au];rfl
theorem FX(n:Nat):(((2:Int)^n:Int):Rat)=2^n:=by push_cast;rfl
theorem Di{p q:Rat}:decide (FB (p - q) > 0)=decide (q < p):=by
 rw[Jd];unfold BM;by_cases h:q < p
 ·rw[if_pos Au,decide_eq_true h];rfl
 ·rw[decide_eq_false h,if_neg Au]
  split<;>rfl
theorem P2.qsz{r:Rat}{s:Nat}(h0:0≤r)(h:Hp.qsz r≤s):∃ J,P2 r J∧J≤32*s+1:=by
 have h1:=(NC h).1;rw[DV h0,BH]at h1;have key:∀ m,r < 2^m→∃ J,P2 r J∧J≤m:=by
  intro m;induction m with
  | zero=>intro h;exact⟨0,⟨h,fun i hi=>Aa⟩,Nat.le_refl _⟩
  | succ m ih =>
   intro h;by_cases h2:r < 2^m
   ·obtain⟨J,a,b⟩:=ih h2;exact⟨J,a,Aa⟩
   ·exact⟨m+1,⟨h,fun i hi=>by have:=NF (show i≤m by omega);grind⟩,Nat.le_refl _⟩
 refine key (32*s+1) ?_;rw[Rat.pow_succ];have:=Cq (32*s);rw[BH]at this ⊢;grind
end Go.Hp
namespace Go.Proofs.YtmhgnigpmompmaaGreat
open Go.RowKit Go.Hp
set_option maxRecDepth 20000 in
theorem YM(v:Value)(F:Nat→Rat)(s:Nat)(w:World)(hv:AP 0 w v F)(zF:ZI F)(fF:Af F)(h0:F≠pz)(hs:∀ i,qsz (F i)≤s)(hs9:s≤1000000)(hn:pl F≤1000) :
  Bh 67 #[v] w (fun r w'=>∃ j,P2 (Et F (pl F - 1)+1) j∧AO w' r (2^j)):=by
 have hp:=Be fF h0;obtain⟨A,c,l,rfl,k1,k2,hA,k3,k4,k5⟩:=hv.form;have HA:=Ad (Ak hA (Ak k3 k5));clear hA k3 k4 k5 hv
 go_enter Tryz.func67,Tryz.ntmps67
 obtain⟨W1,eW1,ez,y1⟩:=Bj.made w 26 #[.bool false,.slice none 0 0] (by simp[Ag])
 go_upto_region 1 with(fail)
 rw[←eW1];clear eW1;have hx:=y1
 go_wp2_with fail
 refine AL (Ye 1 _ Aa Aa) ?_;rintro r2 w2 hr2 hx2;obtain⟨b5,A5,n5,c5,b6,A6,n6,c6,rfl⟩:=hr2.cells;replace ez:=ez.ext hx2;replace hx:=hx.trans hx2;clear hx2;obtain⟨W3,eW3,el,y3⟩:=Bj.made w2 28 #[.bool b5,.slice A5 n5 c5,.bool b6,.slice A6 n6 c6] (by simp[Ag]);have hl:=CK.mk el (hr2.ext y3);have hgl:=ez.lt;replace ez:=ez.ext y3;replace hx:=hx.trans y3;clear y3;clear hr2 el
 go_upto_region 2 with(fail)
 rw[←eW3];clear eW3;generalize w2.heap.size=gl at *;have hld:ld F=(l[pl F - 1]'(by have:=HA.out.2.1;omega):Rat):=by rw[←Ch,HA.out.2.2];rfl
 have hls:=hs (pl F - 1);obtain⟨g,o,b,A2,n2,c2,rfl,h64,q0,q1,hq⟩:=HA.out.1.at_ (j:=pl F - 1) (by have:=HA.out.2.1;omega);have hqh:Bu w (.agg #[.bool b,.slice A2 n2 c2]) (l[pl F - 1]'(by have:=HA.out.2.1;omega)):=hq.has (by
  have h1:F (pl F - 1)=(l[pl F - 1]'(by have:=HA.out.2.1;omega):Rat):=hld;rw[h1,Bi]at hls;omega)
 have hqq:qsz ((l[pl F - 1]'(by have:=HA.out.2.1;omega):Rat))≤274877906944:=by
  have h1:F (pl F - 1)=(l[pl F - 1]'(by have:=HA.out.2.1;omega):Rat):=hld;rw[h1]at hls;omega
 obtain⟨y,hy⟩:∃ y,y=(l[pl F - 1]'(by have:=HA.out.2.1;omega)):=⟨_,rfl⟩
 rw[←hy]at hld hqh hqq;have HQ:=Ad (Ak hqh (Ak hqq hld));clear hqh hqq hld hy hq hls;replace q0:=hx.cell q0;replace q1:=hx.cell q1
 go_wp2_with fail
 refine AL (Ih _ y _ (HQ.out.1.ext hx)) ?_;rintro r4 w4 hr4 hx4;clear q0 q1;replace ez:=ez.ext hx4;replace hl:=hl.ext hx4;replace hx:=hx.trans hx4;clear hx4
 go_wp2_with fail
 refine AL (ZT _ _ _ (hr4.has HQ.out.2.1) HQ.out.2.1) ?_;rintro r5 w5 hr5 hx5;obtain⟨b7,A7,n7,c7,b8,A8,n8,c8,rfl⟩:=hr5.cells;replace ez:=ez.ext hx5;replace hl:=hl.ext hx5;replace hx:=hx.trans hx5;clear hx5;obtain⟨W6,eW6,ed,y6⟩:=Bj.made w5 28 #[.bool b7,.slice A7 n7 c7,.bool b8,.slice A8 n8 c8] (by simp[Ag]);have hd:=CK.mk ed (hr5.ext y6);rw[←HQ.out.2.2]at hd;have hgd:=hl.lt;replace ez:=ez.ext y6;replace hl:=hl.ext y6
 replace hx:=hx.trans y6;clear y6;clear hr4 hr5 ed
 go_upto_region 3 with(fail)
 rw[←eW6];clear eW6;generalize w5.heap.size=gd at *;obtain⟨N,hN⟩:∃ N,pl F=N+1:=⟨pl F - 1,Aa⟩
 have e1:Et F 0+1=((1:Int):Rat):=by show(0:Rat)+1=1;grind
 rw[←e1]at hl;have HN:=Ad hN;rw[hN]at hn k1 ⊢;rw[Nat.add_sub_cancel,show(((N+1:Nat):Int))=(N:Int)+1 from Aa,show((N:Int)+1 - 1)=(N:Int)from by omega];clear hN hp e1;go_wp2
 go_loopw [25] (fun iv wr=>∃ i:Nat,i≤N∧iv = .int .i64 (i:Nat)∧CK wr gl 28 (Et F i+1)∧CK wr gd 28 (ab (ld F))∧Bj wr w.heap.size 26 #[.bool false,.slice none 0 0]∧Ext w wr) (fun iv _=>N - (intOf iv).toNat)
 case atStart=>exact⟨0,Aa,rfl,hl,hd,ez,hx⟩
 case round =>
  clear hl hd ez hx;obtain⟨i,hi,rfl,hl,hd,ez,hx⟩:=hrel;by_cases hiN:i < N
  ·have hls:=hs i
   have hlt:i < l.length:=by have:=HA.out.2.1;have:=HN.out;omega
   have hli:F i=(l[i]:Rat):=by rw[←Ch hlt,HA.out.2.2]
   obtain⟨g',o',b3,A3,n3,c3,e3,-,q0,q1,hq⟩:=HA.out.1.at_ hlt;cases e3;have hqh:Bu w (.agg #[.bool b3,.slice A3 n3 c3]) l[i]:=hq.has (by rw[hli,Bi]at hls;omega);have hqq:qsz (l[i]:Rat)≤s:=by rw[hli]at hls;exact hls
   obtain⟨yi,hy⟩:∃ y,y=l[i]:=⟨_,rfl⟩
   rw[←hy]at hli hqh hqq;have HI:=Ad (Ak hqh (Ak hqq hli));clear hqh hqq hli hy hq hls hlt;replace q0:=hx.cell q0;replace q1:=hx.cell q1;obtain⟨W7,eW7,e6,y7⟩:=Bj.made wr 26 #[.bool b3,.slice A3 n3 c3] (by simp[Ag])
   go_upto_region 6 with(fail)
   rw[←eW7];clear eW7 q0 q1;have hg6:=ez.lt;replace ez:=ez.ext y7;replace hl:=hl.ext y7;replace hd:=hd.ext y7;replace hx:=hx.trans y7;clear y7;generalize wr.heap.size=g6 at *;have HDq:=Ad hd;obtain⟨b9,A9,n9,c9,b10,A10,n10,c10,ed,hdq⟩:=hd;have hqa:qsz (ab (ld F))≤274877906944:=by rw[Lu];have:qsz (ld F)≤s:=hs _;omega
   have hqi:qsz (ab (yi:Rat))≤274877906944:=by rw[Lu];have:=HI.out.2.1;omega
   have hne:ab (ld F)≠0:=fun e=>D8 fF h0 (U4.1 e);have HB:=Ad (Ak (hdq.has hqa) (Ak hqi hne));clear hqa hqi hne;have hgd2:=ed.lt;obtain⟨ce60,ce61⟩:=e6.cells2;have fe6:=e6.frozen;obtain⟨ced0,ced1,ced2,ced3⟩:=ed.cells4;have fed:=ed.frozen
   go_cut [7,8] (fun pv ev wx=>∃ gc,pv = .pointer (some ⟨gc,0,none⟩)∧ev = .int .i64 0∧CK wx gc 28 (ab (yi:Rat) / ab (ld F))∧W7.heap.size≤gc∧Ext W7 wx)
   case first =>
    refine Bz 9 [7] (fun x=>10) [30,31,32,33,34,29,35,36,7] [[],[0],[0,1],[],[0,1,2,3],[0,1,2,3,4],[0,1,2,3,4,5],[0,1,2,3,4,5],[],[0,1,2,3,4,5,6,8],[0,1,2,3,4,5,6,7,8,9]] [6,4] [_,_] [(kv ?_),(fun γ=>γ 1),(fun γ=>γ 2),(kv ?_),(fun γ=>γ 4),(fun γ=>γ 4),(fun γ=>γ 6),(kv ?_),(fun γ=>γ 8)] (fun γ w'=>[True,BD w' (γ 1) (yi:Rat),BD w' (γ 2) (ab (yi:Rat)),True,JN w' (γ 4) (ab (yi:Rat) / ab (ld F)),True,BD w' (γ 6) (ab (yi:Rat) / ab (ld F)),True,AZ w' (γ 8) W7.heap.size #[.bool false,.slice none 0 0,.bool false,.slice none 0 0] 28]) Bn Aj Aj Aj Aj Aj Bo Aj Bl ?hmono1 ?hstep1 ?_ ?hlate1
    case hstep1 =>
     iterate 9 refine⟨?_,?_⟩
     trivial
     iterate 1 focus
      intro γ w' he hf;clear hf;refine⟨by trivial,?_⟩;intro R hR;have hc:=he.cells;have cq0:=he.cell ce60;have cq1:=he.cell ce61;have cq2:=he.cell ced0;have cq3:=he.cell ced1;have cq4:=he.cell ced2;have cq5:=he.cell ced3;go_simp;refine hR _ _ (Ext.refl _) ?_ trivial;rfl
     ·intro γ w' he hf;clear hf;refine⟨trivial,?_⟩;intro R hR
      go_simp;exact Bd (Ih _ yi w' (HI.out.1.ext (hx.trans he))) hR
     ·intro γ w' he hf;have f1:BD w' (γ 1) (yi:Rat):=hf 1 Ab;clear hf;refine⟨trivial,?_⟩;intro R hR
      go_simp;exact Bd (ZT _ _ w' (f1.has (by have:=HI.out.2.1;omega)) (by have:=HI.out.2.1;omega)) hR
     iterate 1 focus
      intro γ w' he hf;clear hf;refine⟨by trivial,?_⟩;intro R hR;have hc:=he.cells;have cq0:=he.cell ce60;have cq1:=he.cell ce61;have cq2:=he.cell ced0;have cq3:=he.cell ced1;have cq4:=he.cell ced2;have cq5:=he.cell ced3;go_simp;refine hR _ _ (Ext.refl _) ?_ trivial;rfl
     ·intro γ w' he hf;have f2:BD w' (γ 2) (ab (yi:Rat)):=hf 2 Ab;clear hf;refine⟨trivial,?_⟩;intro R hR
      go_simp;exact Bd (XE _ _ _ _ w' (f2.has HB.out.2.1) (HB.out.1.ext he) HB.out.2.2) hR
     ·intro γ w' he hf;clear hf;refine⟨trivial,?_⟩;intro R hR
      have hc:=he.cells;go_simp
      (try go_ints);(try(rw[if_neg Aa]));(try(rw[if_pos Aa]));(try go_simp);(try go_ints)
      refine hR _ _ (Ext.refl _) ?_ trivial;rfl
     ·intro γ w' he hf;have f4:JN w' (γ 4) (ab (yi:Rat) / ab (ld F)):=hf 4 Ab;clear hf;refine⟨trivial,?_⟩;intro R hR
      obtain⟨a,e,ha⟩:=f4;go_simp;exact hR _ _ (Ext.refl _) rfl ha
     ·intro γ w' he hf;have f4:JN w' (γ 4) (ab (yi:Rat) / ab (ld F)):=hf 4 Ab;clear hf;refine⟨trivial,?_⟩;intro R hR
      obtain⟨a,e,ha⟩:=f4;have hc:=he.cells;go_simp
      (try go_ints);(try(rw[if_neg Aa]));(try(rw[if_pos Aa]));(try go_simp);(try go_ints)
      refine hR _ _ (Ext.refl _) ?_ trivial;rfl
     ·intro γ w' he hf;clear hf;refine⟨trivial,?_⟩;intro R hR
      go_simp;exact hR _ _ ((Ext.refl _).alloc _) rfl (AZ.mk (Nat.le_trans Ac he.size) (by simp[Ag]))
    case hmono1 =>
     exact⟨⟨⟨⟨⟨⟨⟨⟨⟨trivial,(fun γ wA w' e h=>h)⟩,(fun γ wA w' e h=>(show BD wA (γ 1) (yi:Rat)from h).ext e)⟩,(fun γ wA w' e h=>(show BD wA (γ 2) (ab (yi:Rat))from h).ext e)⟩,(fun γ wA w' e h=>h)⟩,(fun γ wA w' e h=>(show JN wA (γ 4) (ab (yi:Rat) / ab (ld F))from h).ext e)⟩,(fun γ wA w' e h=>h)⟩,(fun γ w w' e h=>BD.ext h e)⟩,(fun γ wA w' e h=>h)⟩,(fun γ wA w' e h=>(show AZ wA (γ 8) W7.heap.size #[.bool false,.slice none 0 0,.bool false,.slice none 0 0] 28 from h).ext e)⟩
    case hlate1 =>
     intro Pn hPs hPn;obtain rfl:=Gn hPs hPn;clear hPs hPn
     ·intro γ w8 hx8 hF hA
      clear hA;have p1:BD w8 (γ 1) (yi:Rat):=(AA.get hF 1 Ab).resolve_left Ab;have p2:BD w8 (γ 2) (ab (yi:Rat)):=(AA.get hF 2 Ab).resolve_left Ab;have p4:JN w8 (γ 4) (ab (yi:Rat) / ab (ld F)):=(AA.get hF 4 Ab).resolve_left Ab;have p6:BD w8 (γ 6) (ab (yi:Rat) / ab (ld F)):=(AA.get hF 6 Ab).resolve_left Ab;have p8:AZ w8 (γ 8) W7.heap.size #[.bool false,.slice none 0 0,.bool false,.slice none 0 0] 28:=(AA.get hF 8 Ab).resolve_left Ab
      clear hF;show AC _ _ _ _ 3 [7] 9 _ _;simp only[Bf,Nat.reduceAdd,Ck,Array.getD_eq_getD_getElem?,List.getElem?_toArray,List.getElem?_cons_succ,List.getElem?_cons_zero,Option.getD_some];generalize γ 1=g1 at *;generalize γ 2=g2 at *;generalize γ 4=g4 at *;generalize γ 6=g6 at *;generalize γ 8=g8 at *;clear γ;obtain⟨a4,rfl,-⟩:=p4;obtain⟨gc,rfl,hgc,ec⟩:=p8;obtain⟨bx,Ax,nx',cx,by',Ay,ny,cy,rfl⟩:=p6.cells
      clear ce60 ce61 ced0 ced1 ced2 ced3 p1 p2;obtain⟨cec0,cec1,cec2,cec3⟩:=ec.cells4;have fec:=ec.frozen;refine AC.mk 2 ⟨?_,trivial⟩ (fun _=>?_)
      ·simp only[Bb,List.toList_toArray,List.drop_succ_cons,List.drop_zero,List.take_succ_cons,List.take_zero]
       go_wp2;show AC _ _ _ _ _ [] _ _ _;refine AC.nil ?_;simp only[List.toList_toArray,List.drop_succ_cons,List.drop_zero];go_wp2;skip;obtain⟨W9,eW,ec',U⟩:=ec.put4 (.bool bx) (.slice Ax nx' cx) (.bool by') (.slice Ay ny cy) rfl rfl rfl rfl;rw[←eW];clear eW ec;replace p6:=p6.kd U.kd;replace hx8:=U.from_ hx8 Ai;have ec:=ec';clear U ec'
       go_meet
       case rel=>exact⟨gc,rfl,rfl,CK.mk ec p6,hgc,hx8⟩
      ·simp only[Bb,List.toList_toArray,List.drop_succ_cons,List.drop_zero,List.take_succ_cons,List.take_zero]
       go_wp2;refine AC.mk 1 ⟨?_,trivial⟩ (fun h=>by cases(show false=true from h))
       ·simp only[Bb,List.toList_toArray,List.drop_succ_cons,List.drop_zero,List.take_succ_cons,List.take_zero]
        go_wp2;show AC _ _ _ _ _ [] _ _ _;refine AC.nil ?_;simp only[List.toList_toArray,List.drop_succ_cons,List.drop_zero];go_wp2;skip;obtain⟨W9,eW,ec',U⟩:=ec.put4 (.bool bx) (.slice Ax nx' cx) (.bool by') (.slice Ay ny cy) rfl rfl rfl rfl;rw[←eW];clear eW ec;replace p6:=p6.kd U.kd;replace hx8:=U.from_ hx8 Ai;have ec:=ec';clear U ec'
        go_meet
        case rel=>exact⟨gc,rfl,rfl,CK.mk ec p6,hgc,hx8⟩
    intro γ w8 hx8 hF hA;clear hA;have p1:BD w8 (γ 1) (yi:Rat):=AA.get hF 1 Ab;have p2:BD w8 (γ 2) (ab (yi:Rat)):=AA.get hF 2 Ab;have p4:JN w8 (γ 4) (ab (yi:Rat) / ab (ld F)):=AA.get hF 4 Ab;have p6:BD w8 (γ 6) (ab (yi:Rat) / ab (ld F)):=AA.get hF 6 Ab;have p8:AZ w8 (γ 8) W7.heap.size #[.bool false,.slice none 0 0,.bool false,.slice none 0 0] 28:=AA.get hF 8 Ab;clear hF;simp only[Bf,Nat.reduceAdd]
    generalize γ 1=g1 at *;generalize γ 2=g2 at *;generalize γ 4=g4 at *;generalize γ 6=g6 at *;generalize γ 8=g8 at *;clear γ;obtain⟨a4,rfl,-⟩:=p4;obtain⟨gc,rfl,hgc,ec⟩:=p8;obtain⟨bx,Ax,nx',cx,by',Ay,ny,cy,rfl⟩:=p6.cells;clear ce60 ce61 ced0 ced1 ced2 ced3 p1 p2;obtain⟨cec0,cec1,cec2,cec3⟩:=ec.cells4;have fec:=ec.frozen;go_wp2;skip;obtain⟨W9,eW,ec',U⟩:=ec.put4 (.bool bx) (.slice Ax nx' cx) (.bool by') (.slice Ay ny cy) rfl rfl rfl rfl
    rw[←eW];clear eW ec;replace p6:=p6.kd U.kd;replace hx8:=U.from_ hx8 Ai;have ec:=ec';clear U ec'
    go_meet
    case rel=>exact⟨gc,rfl,rfl,CK.mk ec p6,hgc,hx8⟩
   case rest =>
   clear ce60 ce61 ced0 ced1 ced2 ced3 fe6 fed e6 ed hdq;obtain⟨gc,rfl,rfl,hcq,hgc,hx8⟩:=hcut;have hd:CK W7 gd 28 (ab (ld F)):=HDq.out;have hgl7:=hl.lt;have hgd7:=hd.lt;have hez7:=ez.lt;replace ez:=ez.ext hx8;replace hl:=hl.ext hx8;replace hd:=hd.ext hx8;replace hx:=hx.trans hx8;clear hx8;obtain⟨bx,Ax,nx',cx,by',Ay,ny,cy,ec,hcz⟩:=hcq;have hqq:qsz (ab (yi:Rat) / ab (ld F))≤4*s+4:=by
    have h1:=Fu (ab (yi:Rat)) (ab (ld F));have h2:qsz (ld F)≤s:=hs _;rw[Lu,Lu]at h1;have:=HI.out.2.1;omega
   have HZ:=Ad (Ak (hcz.has Aa) hqq);clear hcz hqq;obtain⟨cec0,cec1,cec2,cec3⟩:=ec.cells4;have fec:=ec.frozen
   go_upto_region 7 with(fail)
   refine Ae 2 [37,38] [[],[],[0,1],[0,1,2]] [7] [_] [(kv ?_),(fun γ=>γ 1)] (fun γ w'=>[True,BD w' (γ 1) ((1:Int):Rat)]) Bn Aj Aj Bo Aj Bl Br ?hstep2 ?_
   case hstep2 =>
    iterate 2 refine⟨?_,?_⟩
    trivial
    iterate 1 focus
     intro γ w' he hf;clear hf;refine⟨by trivial,?_⟩;intro R hR;have hc:=he.cells;have cq0:=he.cell cec0;have cq1:=he.cell cec1;have cq2:=he.cell cec2;have cq3:=he.cell cec3;go_simp;refine hR _ _ (Ext.refl _) ?_ trivial;rfl
    ·intro γ w' he hf;clear hf;refine⟨trivial,?_⟩;intro R hR
     go_simp;exact Bd (Ye 1 w' Aa Aa) hR
   intro γ w10 hx10 hF;have p1:BD w10 (γ 1) ((1:Int):Rat):=AA.get hF 1 Ab;clear hF;simp only[Bf,Nat.reduceAdd];generalize γ 1=g1 at *;clear γ
   go_wp2_with fail
   refine AL (U5 _ _ (ab (yi:Rat) / ab (ld F)) ((1:Int):Rat) _ (HZ.out.1.ext hx10) (p1.has Ab)) ?_;rintro r11 w11 hr11 hx11;obtain⟨bz,Az,nz,cz',bw,Aw,nw,cw,rfl⟩:=hr11.cells;have x1011:=hx10.trans hx11;clear p1 cec0 cec1 cec2 cec3 fec;replace ez:=ez.ext x1011;replace hl:=hl.ext x1011;replace hd:=hd.ext x1011;replace ec:=ec.ext x1011;replace hx:=hx.trans x1011;clear x1011;clear hx10 hx11;obtain⟨cec0,cec1,cec2,cec3⟩:=ec.cells4
   have fec:=ec.frozen
   go_upto_region 8 with(fail)
   obtain⟨W12,eW,ec',U⟩:=ec.put4 (.bool bz) (.slice Az nz cz') (.bool bw) (.slice Aw nw cw) rfl rfl rfl rfl;rw[←eW];clear eW ec;replace hr11:=hr11.kd U.kd;replace ez:=ez.upd U Ai;replace hl:=hl.upd U Ai;replace hd:=hd.upd U Ai;replace hx:=U.from_ hx Ai;have ec:=ec';clear U ec';obtain⟨bl,Al,nl,cl,bl',Al',nl',cl',el,hlz⟩:=hl;have hqx:qsz (ab (yi:Rat) / ab (ld F)+((1:Int):Rat))≤4*s+8:=by
    have h1:=EB (ab (yi:Rat) / ab (ld F)) ((1:Int):Rat);have h2:qsz (((1:Int):Rat))=1:=by decide
    have h3:=HZ.out.2;omega
   have hql:qsz (Et F i+1)≤2*s+8:=by
    have h1:=EB (Et F i) 1;have h2:qsz (1:Rat)=1:=by decide
    have h3:=Jl hs (Nat.le_trans (Cg (F 0)) (hs 0)) i;omega
   have HX:=Ad (Ak (hr11.has Aa) (Ak (hlz.has Aa) (show qsz (ab (yi:Rat) / ab (ld F)+((1:Int):Rat))+qsz (Et F i+1) < 274877906944 by omega)));clear hqx hql;have HR:=Ad (Ak hr11 hlz);clear hr11 hlz;obtain⟨cec0,cec1,cec2,cec3⟩:=ec.cells4;have fec:=ec.frozen;obtain⟨cel0,cel1,cel2,cel3⟩:=el.cells4;have fel:=el.frozen
   go_wp2_with fail
   refine AL (Y5 _ _ _ _ _ HX.out.1 HX.out.2.1 HX.out.2.2) ?_;rintro r13 w13 rfl hx13;clear HX cec0 cec1 cec2 cec3 fec cel0 cel1 cel2 cel3 fel;have e13:ab (yi:Rat) / ab (ld F)+((1:Int):Rat) - (Et F i+1)=ab (F i / ld F) - Et F i:=by
    rw[Xi,HI.out.2.2];show _+(1:Rat) - _=_;grind
   rw[e13];have hnext:Et F (i+1)=if Et F i < ab (F i / ld F)then ab (F i / ld F)else Et F i:=rfl;replace HR:=Ad (Ak (HR.out.1.ext hx13) (HR.out.2.ext hx13));replace ez:=ez.ext hx13;replace hd:=hd.ext hx13;replace ec:=ec.ext hx13;replace el:=el.ext hx13;replace hx:=hx.trans hx13;clear hx13;by_cases hgt:Et F i < ab (F i / ld F)
   ·have hdec:decide (FB (ab (F i / ld F) - Et F i) > 0)=true:=by rw[Di,decide_eq_true hgt]
    rw[if_pos hgt]at hnext;obtain⟨cec0,cec1,cec2,cec3⟩:=ec.cells4;have fec:=ec.frozen;obtain⟨cel0,cel1,cel2,cel3⟩:=el.cells4;have fel:=el.frozen
    go_upto_region 10 with(fail)
    have hr13:=HR.out.1;obtain⟨W14,eW,el',U⟩:=el.put4 (.bool bz) (.slice Az nz cz') (.bool bw) (.slice Aw nw cw) rfl rfl rfl rfl;rw[←eW];clear eW el;replace hr13:=hr13.kd U.kd;replace ez:=ez.upd U Ai;replace hd:=hd.upd U Ai;replace hx:=U.from_ hx Ai;have el:=el';clear U el';have hl:=CK.mk el hr13;rw[show ab (yi:Rat) / ab (ld F)+((1:Int):Rat)=Et F (i+1)+1 from by rw[hnext,Xi,HI.out.2.2];rfl]at hl;clear hdec hnext HR HZ e13 hr13
    go_wp2
    go_roundw
    case rel=>exact⟨i+1,Aa,by go_num,hl,hd,ez,hx⟩
    case measure=>simp[intOf];omega
   ·have hdec:decide (FB (ab (F i / ld F) - Et F i) > 0)=false:=by rw[Di,decide_eq_false hgt]
    rw[if_neg hgt]at hnext;have hl:=CK.mk el HR.out.2;rw[←hnext]at hl;clear hnext HR HZ e13;go_wp2
    go_roundw
    case rel=>exact⟨i+1,Aa,by go_num,hl,hd,ez,hx⟩
    case measure=>simp[intOf];omega
  ·obtain rfl:i=N:=by omega
   have ez11:=ez.lt;have hql:qsz (Et F i+1)≤2*s+8:=by
    have h1:=EB (Et F i) 1;have h2:qsz (1:Rat)=1:=by decide
    have h3:=Jl hs (Nat.le_trans (Cg (F 0)) (hs 0)) i;omega
   obtain⟨J,hJ,hJ9⟩:∃ J,P2 (Et F i+1) J∧J≤32*(2*s+8)+1:=P2.qsz (by have:=EP F i;grind) hql;have HJ:=Ad (Ak hJ (show qsz (Et F i+1)≤3000000 by omega));clear hJ hql;have hJ8:J≤100000000:=by omega
   clear hJ9;obtain⟨rr,hrr⟩:∃ r,r=Et F i+1:=⟨_,rfl⟩
   rw[←hrr]at HJ hl;have Hrr:=Ad hrr;clear hrr hi hiN h0 hs hs9 zF fF hd HQ HA
   go_wp2_with fail
   refine AL (Jv 1 _ Aa Aa) ?_;rintro r14 w14 hr14 hx14;obtain⟨b11,A11,n11,c11,rfl⟩:=hr14.cells;replace ez:=ez.ext hx14;replace hl:=hl.ext hx14;replace hx:=hx.trans hx14;clear hx14;obtain⟨W15,eW15,eo,y15⟩:=Bj.made w14 26 #[.bool b11,.slice A11 n11 c11] (by simp[Ag]);have ho:=Bg.mk eo (hr14.kd y15.kd);have hgo:=hl.lt;replace ez:=ez.ext y15;replace hl:=hl.ext y15;replace hx:=hx.trans y15;clear y15;clear eo hr14
   go_wp2;rw[←eW15];clear eW15;generalize w14.heap.size=go at *
   go_loopw [47] (fun _ wr=>∃ j:Nat,j≤J∧Bg wr go 26 (2^j)∧CK wr gl 28 rr∧Bj wr w.heap.size 26 #[.bool false,.slice none 0 0]∧Ext w wr) (fun _ wr=>2^(J+1) - gP wr go 26)
   case atStart=>exact⟨0,Aa,ho,hl,ez,hx⟩
   case round =>
    clear ho hl ez hx;obtain⟨j,hj,⟨b7,A7,n7,c7,eo,hoz⟩,⟨bl,Al,nl,cl,bl',Al',nl',cl',el,hlz⟩,ez,hx⟩:=hrel;have Hoz:=Ad (Ak hoz (Ak eo hlz));clear hoz hlz;have hgl3:=el.lt;have hgo3:=eo.lt;have hjz:sz ((2:Int)^j).natAbs≤1+j:=Gc j;have Hjz:=Ad hjz;have hjq:qsz (((2:Int)^j:Int):Rat)≤1+j:=by rw[Bi];omega
    have HS:=Ad (Ak (show sz ((2:Int)^j).natAbs≤1099511627776 by omega) (Ak (show qsz (((2:Int)^j:Int):Rat)≤274877906944 by omega) (show qsz (((2:Int)^j:Int):Rat)+qsz rr < 274877906944 by have:=HJ.out.2;omega)));clear hjz hjq;obtain⟨ceo0,ceo1⟩:=eo.cells2;have feo:=eo.frozen;obtain⟨cel0,cel1,cel2,cel3⟩:=el.cells4;have fel:=el.frozen
    go_upto_region 12 with(fail)
    refine Ae 3 [47,48,49] [[],[0],[],[0,1,2],[0,1,2,3]] [9,3] [_,_] [(kv ?_),(fun γ=>γ 1),(kv ?_)] (fun γ w'=>[True,BD w' (γ 1) (((2:Int)^j:Int):Rat),True]) Bn Aj Aj Bo Aj Bl Br ?hstep3 ?_
    case hstep3 =>
     iterate 3 refine⟨?_,?_⟩
     trivial
     iterate 1 focus
      intro γ w' he hf;clear hf;refine⟨by trivial,?_⟩;intro R hR;have hc:=he.cells;have cq0:=he.cell ceo0;have cq1:=he.cell ceo1;have cq2:=he.cell cel0;have cq3:=he.cell cel1;have cq4:=he.cell cel2;have cq5:=he.cell cel3;go_simp;refine hR _ _ (Ext.refl _) ?_ trivial;rfl
     ·intro γ w' he hf;clear hf;refine⟨trivial,?_⟩;intro R hR
      go_simp;exact Bd (Ih _ _ w' ((Hoz.out.1.has HS.out.1).ext he)) hR
     iterate 1 focus
      intro γ w' he hf;clear hf;refine⟨by trivial,?_⟩;intro R hR;have hc:=he.cells;have cq0:=he.cell ceo0;have cq1:=he.cell ceo1;have cq2:=he.cell cel0;have cq3:=he.cell cel1;have cq4:=he.cell cel2;have cq5:=he.cell cel3;go_simp;refine hR _ _ (Ext.refl _) ?_ trivial;rfl
    intro γ w16 hx16 hF;have p1:BD w16 (γ 1) (((2:Int)^j:Int):Rat):=AA.get hF 1 Ab;clear hF;simp only[Bf,Nat.reduceAdd];generalize γ 1=g1 at *;clear γ
    go_wp2_with fail
    refine AL (Y5 _ _ _ rr _ (p1.has HS.out.2.1) ((Hoz.out.2.2.has (by have:=HJ.out.2;omega)).ext hx16) HS.out.2.2) ?_;rintro r17 w17 rfl hx17;generalize hm:FB ((((2:Int)^j:Int):Rat) - rr)=m;have hm1:=NL (p:=(((2:Int)^j:Int):Rat)) (q:=rr);rw[hm]at hm1;clear hm;have x1617:=hx16.trans hx17;have HO:=Ad (Ak (Hoz.out.1.ext x1617) (Hoz.out.2.2.ext x1617));clear p1 ceo0 ceo1 feo cel0 cel1 cel2 cel3 fel;replace ez:=ez.ext x1617
    replace eo:=eo.ext x1617;replace el:=el.ext x1617;replace hx:=hx.trans x1617;clear x1617;clear hx16 hx17;have hl:=CK.mk el HO.out.2;by_cases hjJ:j < J
    ·rw[decide_eq_true (show(((2:Int)^j:Int):Rat)≤rr by have:=HJ.out.1.2 j hjJ;rw[FX];exact this)]at hm1
     obtain⟨ceo0,ceo1⟩:=eo.cells2;have feo:=eo.frozen
     go_wp2_with fail
     refine AL (ML _ _ _ _ _ (HO.out.1.has HS.out.1) (HO.out.1.has HS.out.1)) ?_;rintro r18 w18 hr18 hx18;obtain⟨b8,A8,n8,c8,rfl⟩:=hr18.cells;clear ceo0 ceo1 feo el;replace ez:=ez.ext hx18;replace eo:=eo.ext hx18;replace hl:=hl.ext hx18;replace hx:=hx.trans hx18;clear hx18;obtain⟨ceo0,ceo1⟩:=eo.cells2;have feo:=eo.frozen;go_wp2;obtain⟨W19,eW,eo',U⟩:=eo.put2 (.bool b8) (.slice A8 n8 c8) rfl rfl;rw[←eW]
     clear eW eo;replace hr18:=hr18.kd U.kd;replace ez:=ez.upd U Ai;replace hl:=hl.upd U Ai;replace hx:=U.from_ hx Ai;have eo:=eo';clear U eo';rw[show(2:Int)^j+2^j=2^(j+1) by rw[Int.pow_succ];omega]at hr18;have ho:=Bg.mk eo hr18;have hb1:=L8 ho;have hb2:=L8 (Bg.mk Hoz.out.2.1 Hoz.out.1);have hpw:2^(j+1)≤2^J:=Nat.pow_le_pow_right Ab hjJ
     go_roundw
     case rel=>exact⟨j+1,hjJ,ho,hl,ez,hx⟩
     case measure =>
      rw[hb1,hb2];rw[Int.natAbs_pow,Int.natAbs_pow];show 2^(J+1) - 2^(j+1) < 2^(J+1) - 2^j;have h1:2^(J+1)=2*2^J:=Nat.pow_succ';have h2:2^(j+1)=2*2^j:=Nat.pow_succ';have h3:=Nat.two_pow_pos j;omega
    ·obtain rfl:j=J:=by omega
     rw[decide_eq_false (show ¬ (((2:Int)^j:Int):Rat)≤rr by have:=HJ.out.1.1;rw[FX];grind)]at hm1;obtain⟨ceo0,ceo1⟩:=eo.cells2;have feo:=eo.frozen;obtain⟨cez0,cez1⟩:=ez.cells2;have fez:=ez.frozen
     go_upto_region 14 with(fail)
     have hr:=HO.out.1;go_wp2;obtain⟨W3,eW,ez',U⟩:=ez.put2 (.bool b7) (.slice A7 n7 c7) rfl rfl;rw[←eW];clear eW ez;replace hr:=hr.kd U.kd;replace hx:=U.from_ hx Ai;have ez:=ez';clear U ez';clear ceo0 ceo1 feo cez0 cez1 fez;obtain⟨cez0,cez1⟩:=ez.cells2;have fez:=ez.frozen;refine bodyPost_ret (v := .agg #[.bool b7,.slice A7 n7 c7]) (by simp[results,Tryz.results67,go_sem,cez0,cez1]) rfl ?_;have hfin:=HJ.out.1
     rw[Hrr.out]at hfin;exact Ah.mk ⟨j,by rw[HN.out];exact hfin,hr⟩ hx
end Go.Proofs.YtmhgnigpmompmaaGreat
namespace Go.Hp
open Go.RowKit
noncomputable def bx(F:Nat→Rat):Nat:=open Classical in if h:∃ j,P2 (Et F (pl F - 1)+1) j then Classical.choose h else 0
theorem P2.bx{F:Nat→Rat}{j:Nat}(h:P2 (Et F (pl F - 1)+1) j):j=Hp.bx F:=by
 have hx:∃ j,P2 (Et F (pl F - 1)+1) j:=⟨j,h⟩
 unfold Hp.bx;rw[dif_pos hx];exact h.uniq (Classical.choose_spec hx)
theorem gJ(F:Nat→Rat):P2 (Et F (pl F - 1)+1) (bx F):=by
 have h0:0≤Et F (pl F - 1)+1:=by have:=EP F (pl F - 1);grind
 obtain⟨j,hj,-⟩:=P2.qsz h0 (Nat.le_refl _);rw[←hj.bx];exact hj
theorem Oe{F:Nat→Rat}{s:Nat}(h:∀ i,qsz (F i)≤s):bx F≤32*(2*s+2)+1:=by
 have h0:0≤Et F (pl F - 1)+1:=by have:=EP F (pl F - 1);grind
 have h1:=EB (Et F (pl F - 1)) 1;have h2:qsz (1:Rat)=1:=by decide
 have h3:=Jl h (Nat.le_trans (Cg (F 0)) (h 0)) (pl F - 1);obtain⟨j,hj,hj2⟩:=P2.qsz h0 (show qsz (Et F (pl F - 1)+1)≤2*s+2 by omega);rw[←hj.bx];exact hj2
theorem Nb(j:Nat):qsz ((2:Rat)^j)≤j+1∧qsz (-(2:Rat)^j)≤j+1:=by
 have h1:=Gc j;have e:((2:Rat)^j)=(((2:Int)^j:Int):Rat):=(FX j).symm;have h2:qsz ((2:Rat)^j)≤j+1:=by rw[e,Bi];omega
 exact⟨h2,by rw[G6];exact h2⟩
structure Pg(F:Nat→Rat)(D M:Nat):Prop where
 z:ZI F
 f:Af F
 n0:F≠pz
 e:DL F=0
 q:∀ i,qsz (F i)≤1000
 pln:pl F≤1000
 sim:∃ S n M T,Qe F S n M T
 chn:∃ S,Mm (CL F) S D M
theorem Pg.sf{F:Nat→Rat}{D M:Nat}(h:Pg F D M):SF (CL F):=I7 h.z h.f h.n0
theorem Pg.k{F:Nat→Rat}{D M:Nat}(h:Pg F D M):NN (CL F) (pd (CL F)) (kn (CL F)):=h.sf.st.k
theorem Pg.lim{F:Nat→Rat}{D M:Nat}(h:Pg F D M):M≤1000000∧D≤900:=by
 obtain⟨S,h⟩:=h.chn;exact⟨by have:=h.b;omega,h.D9⟩
theorem Q5.lower{base b:Nat}{t:TypeId}{w:World}{v:Value}{W:Nat→Rat}(h:Q5 base t w v W)(hb:b≤base):Q5 b t w v W:=by
 obtain⟨c,us,K,h1,h2,h3,h4⟩:=h;exact⟨c,us,K,h1,h2,h3,(h4.base_le hb).el_le hb⟩
end Go.Hp
namespace Go.Proofs.YtmhgnigpmompmaaGreat
open Go.RowKit Go.Hp
theorem Mx(v:Value)(F:Nat→Rat)(D M:Nat)(w:World)(hv:AP 0 w v F)(hR:Pg F D M):Bh 50 #[v] w (fun r w'=>Q5 w.heap.size 23 w' r (CL F)):=by
 obtain⟨S,n,M1,T,h1⟩:=hR.sim;obtain⟨S2,h2⟩:=hR.chn;exact ZO v F (CL F) S n M1 T S2 D M w hv h1 rfl h2
theorem XN(v:Value)(F:Nat→Rat)(D M:Nat)(w:World)(hv:AP 0 w v F)(hR:Pg F D M):Bh 67 #[v] w (fun r w'=>AO w' r (2^bx F)):=
 Ah.imp (YM v F 1000 w hv hR.z hR.f hR.n0 hR.q Aa hR.pln) fun _ _ ⟨j,h1,h2⟩=>by rw[←h1.bx];exact h2
theorem QS(v:Value)(F:Nat→Rat)(D M:Nat)(w:World)(hv:AP 0 w v F)(hR:Pg F D M):Bh 52 #[v] w (fun r w'=>K5 w' r (-(2:Rat)^bx F) ((2:Rat)^bx F)):=by
 have hb:=fun X (x:Ext w X)=>XN v F D M X (hv.ext x) hR;have hbx:=Oe hR.q;obtain⟨j,hj⟩:∃ j,j=bx F:=⟨_,rfl⟩
 rw[←hj]at hb hbx ⊢;have hz:=Gc j;have hq:=(Nb j).1;obtain⟨A0,c0,rfl,-⟩:=hv.shape;have HC:=Ad (Ak hb (Ak (show sz ((2:Int)^j).natAbs≤1099511627776 by omega) (show qsz ((2:Rat)^j)≤274877906944 by omega)));clear hb hbx hj hz hq hv hR
 go_enter Tryz.func52,Tryz.ntmps52
 obtain⟨W1,eW1,ez,y1⟩:=Bj.made w 30 #[.bool false,.slice none 0 0,.bool false,.slice none 0 0,.bool false,.slice none 0 0,.bool false,.slice none 0 0] (by simp[Ag])
 go_upto_region 1 with(fail)
 rw[←eW1];clear eW1;have hx:=y1;clear y1
 go_wp2_with fail
 refine AL (HC.out.1 _ hx) ?_;rintro r2 w2 hr2 hx2;obtain⟨b5,A5,n5,c5,rfl⟩:=hr2.cells;have H2:=Ad (hr2.has HC.out.2.1);clear hr2;replace ez:=ez.ext hx2;replace hx:=hx.trans hx2;clear hx2
 go_wp2_with fail
 refine AL (Ih _ _ _ H2.out) ?_;rintro r3 w3 hr3 hx3;rw[FX]at hr3;obtain⟨b6,A6,n6,c6,b7,A7,n7,c7,rfl⟩:=hr3.cells;replace ez:=ez.ext hx3;replace hx:=hx.trans hx3;clear hx3;obtain⟨W4,eW4,eb,y4⟩:=Bj.made w3 28 #[.bool b6,.slice A6 n6 c6,.bool b7,.slice A7 n7 c7] (by simp[Ag]);have hb4:=hr3.ext y4;have hgb:=ez.lt;replace ez:=ez.ext y4;replace hx:=hx.trans y4;clear y4;clear hr3 H2
 go_upto_region 2 with(fail)
 rw[←eW4];clear eW4;generalize w3.heap.size=gb at *;have HB:=Ad (Ak hb4 (hb4.has HC.out.2.2));clear hb4;obtain⟨ceb0,ceb1,ceb2,ceb3⟩:=eb.cells4;have feb:=eb.frozen;refine Ae 3 [7,8,9] [[],[0],[],[0,1,2],[0,1,2,3]] [3] [_] [(kv ?_),(fun γ=>γ 1),(kv ?_)] (fun γ w'=>[True,BD w' (γ 1) (-(2:Rat)^j),True]) Bn Aj Aj Bo Aj Bl Br ?hstep1 ?_
 case hstep1 =>
  iterate 3 refine⟨?_,?_⟩
  trivial
  iterate 1 focus
   intro γ w' he hf;clear hf;refine⟨by trivial,?_⟩;intro R hR;have hc:=he.cells;have cq0:=he.cell ceb0;have cq1:=he.cell ceb1;have cq2:=he.cell ceb2;have cq3:=he.cell ceb3;go_simp;refine hR _ _ (Ext.refl _) ?_ trivial;rfl
  ·intro γ w' he hf;clear hf;refine⟨trivial,?_⟩;intro R hR
   go_simp;exact Bd (aL _ _ w' (HB.out.2.ext he)) hR
  iterate 1 focus
   intro γ w' he hf;clear hf;refine⟨by trivial,?_⟩;intro R hR;have hc:=he.cells;have cq0:=he.cell ceb0;have cq1:=he.cell ceb1;have cq2:=he.cell ceb2;have cq3:=he.cell ceb3;go_simp;refine hR _ _ (Ext.refl _) ?_ trivial;rfl
 intro γ w5 hx5 hF;have p1:BD w5 (γ 1) (-(2:Rat)^j):=AA.get hF 1 Ab;clear hF;simp only[Bf,Nat.reduceAdd];generalize γ 1=g1 at *;clear γ;obtain⟨b8,A8,n8,c8,b9,A9,n9,c9,rfl⟩:=p1.cells;have HF:=Ad (Ak p1 (HB.out.1.ext hx5));clear ceb0 ceb1 ceb2 ceb3 feb p1;replace ez:=ez.ext hx5;replace hx:=hx.trans hx5;clear hx5;have p1:=HF.out.1;have p2:=HF.out.2;clear HF;obtain⟨cez0,cez1,cez2,cez3,cez4,cez5,cez6,cez7⟩:=ez.cells8
 have fez:=ez.frozen;go_wp2;obtain⟨W6,eW,ez',U⟩:=ez.put8 (.bool b8) (.slice A8 n8 c8) (.bool b9) (.slice A9 n9 c9) (.bool b6) (.slice A6 n6 c6) (.bool b7) (.slice A7 n7 c7) rfl rfl rfl rfl rfl rfl rfl rfl;rw[←eW];clear eW ez;replace p1:=p1.kd U.kd;replace p2:=p2.kd U.kd;replace hx:=U.from_ hx Ai;have ez:=ez';clear U ez';clear cez0 cez1 cez2 cez3 cez4 cez5 cez6 cez7 fez;obtain⟨cez0,cez1,cez2,cez3,cez4,cez5,cez6,cez7⟩:=ez.cells8
 have fez:=ez.frozen;refine bodyPost_ret (v := .agg #[.bool b8,.slice A8 n8 c8,.bool b9,.slice A9 n9 c9,.bool b6,.slice A6 n6 c6,.bool b7,.slice A7 n7 c7]) (by simp[results,Tryz.results52,go_sem,cez0,cez1,cez2,cez3,cez4,cez5,cez6,cez7]) rfl ?_;exact Ah.mk ⟨_,_,_,_,_,_,_,_,_,_,_,_,_,_,_,_,rfl,p1,p2⟩ hx
def UW(F:Nat→Rat)(x:Int)(r:Value):Prop:=r = .tuple #[.int .i64 (if DL F=0 then x else 0),.int .i64 (DL F)]
theorem WN(v:Value)(l:List Int)(D M:Nat)(w:World)(hv:Dt 0 w v l)(hn:l.length≤1000000)(hR:DL (cz l)=0→Pg (cz l) D M) :
  Bh 17 #[v] w (fun r _=>UW (cz l) (rc (CL (cz l)) (-(2:Rat)^bx (cz l)) ((2:Rat)^bx (cz l))) r):=by
 have HV:=Ad (Ak hv hR);obtain⟨A,c,rfl⟩:=hv.len;clear hv hR;obtain⟨X0,hX0⟩:∃ X,X=rc (CL (cz l)) (-(2:Rat)^bx (cz l)) ((2:Rat)^bx (cz l)):=⟨_,rfl⟩
 rw[←hX0];have HX0:=Ad hX0;clear hX0
 go_enter Tryz.func17,Tryz.ntmps17
 go_wp2_with fail
 refine AL (SV _ l _ HV.out.1 hn) ?_;rintro r2 w2 ⟨u,rfl,hu1,hu2⟩ hx;obtain⟨E,hE⟩:∃ E,E=DL (cz l):=⟨_,rfl⟩
 have hc:=FI (cz l);rw[←hE]at hu1 hu2 hc ⊢;have HE:=Ad hE;clear hE;have fin:E≠0→∀ {W:World},Ext w W→Ah w (fun r _=>UW (cz l) X0 r) (.returned (.tuple #[.int .i64 0,.int .i64 E])) W:=fun hne W h=>Ah.mk (by unfold UW;rw[←HE.out,if_neg hne]) h;have Hfin:=Ad fin;clear fin;rcases hc with⟨-,hc⟩ | ⟨-,hc⟩ | ⟨h0,hp,-,hc⟩
 ·subst hc
  clear hu1 hu2;go_wp2;refine bodyPost_ret (v := .tuple #[.int .i64 0,.int .i64 5]) (by simp[results,Tryz.results17,go_sem]) rfl ?_;exact Hfin.out Ab hx
 ·subst hc
  clear hu1 hu2;go_wp2;refine bodyPost_ret (v := .tuple #[.int .i64 0,.int .i64 7]) (by simp[results,Tryz.results17,go_sem]) rfl ?_;exact Hfin.out Ab hx
 subst hc;have hR:=HV.out.2 HE.out.symm;have hu:=hu1 rfl;have hlim:=hR.lim;have hbx:=Oe hR.q;obtain⟨A1,c1,rfl,-⟩:=hu.shape;have HU:=Ad (Ak hu hR);clear hu1 hu2 hR h0 hu;have h22:=Ext.refl w2;obtain⟨j,hj⟩:∃ j,j=bx (cz l):=⟨_,rfl⟩
 have hqj:=Nb j;rw[←hj]at hbx;have HJ:=Ad (Ak hj (Ak hqj hbx));clear hqj
 go_wp2_with fail
 refine AL (QS _ (cz l) D M _ HU.out.1 HU.out.2) ?_;rintro r3 w3 hr3 hx3;obtain⟨b1,B1,m1,k1,b2,B2,m2,k2,b3,B3,m3,k3,b4,B4,m4,k4,rfl,hi1,hi2⟩:=hr3;rw[←hj]at hi1 hi2;clear hj;replace hx:=hx.trans hx3;replace h22:=h22.trans hx3;clear hx3;obtain⟨W4,eW4,eb,y4⟩:=Bj.made w3 30 #[.bool b1,.slice B1 m1 k1,.bool b2,.slice B2 m2 k2,.bool b3,.slice B3 m3 k3,.bool b4,.slice B4 m4 k4] (by simp[Ag]);have H3:=Ad (Ak ((hi1.has (by have:=HJ.out.2.1.2;omega)).ext y4) (Ak ((hi2.has (by have:=HJ.out.2.1.1;omega)).ext y4) (hx.trans y4)))
 clear hi1 hi2;replace hx:=hx.trans y4;replace h22:=h22.trans y4;clear y4
 go_upto_region 5 with(fail)
 rw[←eW4];clear eW4;generalize w3.heap.size=gb at *;obtain⟨ceb0,ceb1,ceb2,ceb3,ceb4,ceb5,ceb6,ceb7⟩:=eb.cells8;have feb:=eb.frozen;have HW:=Ad (show AP 0 W4 (.slice A1 (pl (cz l)) c1) (cz l)from HU.out.1.ext h22);refine Ae 6 [16,17,18,19,20,21] [[],[0],[],[2],[],[4],[0,1,2,3,4,5],[0,1,2,3,4,5,6],[0,1,2,3,4,5,6,7]] [0,5] [_,_] [(kv ?_),(fun γ=>γ 1),(kv ?_),(kv ?_),(kv ?_),(kv ?_)] (fun γ w'=>[True,Q5 0 23 w' (γ 1) (CL (cz l)),True,True,True,True]) Bn Aj Aj Bo Aj Bl Br ?hstep2 ?_
 case hstep2 =>
  iterate 6 refine⟨?_,?_⟩
  trivial
  iterate 1 focus
   intro γ w' he hf;clear hf;refine⟨by trivial,?_⟩;intro R hR;have hc:=he.cells;go_simp;refine hR _ _ (Ext.refl _) ?_ trivial;rfl
  ·intro γ w' he hf;clear hf;refine⟨trivial,?_⟩;intro R hR
   go_simp;exact Bd (F:=fun r w''=>Q5 0 23 w'' (r) (CL (cz l))) (Ah.imp (Mx _ (cz l) D M w' (HW.out.ext he) HU.out.2) fun _ _ h=>h.lower (Nat.zero_le _)) hR
  iterate 4 focus
   intro γ w' he hf;clear hf;refine⟨by trivial,?_⟩;intro R hR;have hc:=he.cells;have cq0:=he.cell ceb0;have cq1:=he.cell ceb1;have cq2:=he.cell ceb2;have cq3:=he.cell ceb3;have cq4:=he.cell ceb4;have cq5:=he.cell ceb5;have cq6:=he.cell ceb6;have cq7:=he.cell ceb7;go_simp;refine hR _ _ (Ext.refl _) ?_ trivial;rfl
 intro γ w5 hx5 hF;have p1:Q5 0 23 w5 (γ 1) (CL (cz l)):=AA.get hF 1 Ab;clear hF;simp only[Bf,Nat.reduceAdd];generalize γ 1=g1 at *;clear γ;have HP1:=Ad p1;obtain⟨cA,cn,cc,rfl⟩:=p1.cell;have hlim:=HU.out.2.lim;have hin:Bh 51 #[.agg #[.slice cA cn cc],.agg #[.bool b1,.slice B1 m1 k1,.bool b2,.slice B2 m2 k2],.agg #[.bool b3,.slice B3 m3 k3,.bool b4,.slice B4 m4 k4]] w5 (fun r _=>r = .int .i64 X0):=by
  obtain⟨S,hC⟩:=HU.out.2.chn;have hq:=HJ.out.2;have h9:D*(M+100000+1)≤900*(M+100000+1):=Nat.mul_le_mul_right _ hlim.2;have:=eD _ _ _ (CL (cz l)) (-(2:Rat)^j) ((2:Rat)^j) 0 S D M 100000 (kn (CL (cz l))) w5 HP1.out (H3.out.1.ext hx5) (H3.out.2.1.ext hx5) hC HU.out.2.k Aa Aa Aa;have e:((V (EA (CL (cz l)) (pd (CL (cz l))) (kn (CL (cz l)))) (-(2:Rat)^j):Nat):Int) - (V (EA (CL (cz l)) (pd (CL (cz l))) (kn (CL (cz l)))) ((2:Rat)^j):Nat)=X0:=by
   rw[HX0.out,←HJ.out.1];exact JZ HU.out.2.k _ _
  rw[e]at this;exact this
 have HI:=Ad hin;clear hin p1
 go_wp2_with fail
 refine AL HI.out ?_;rintro r6 w6 rfl hx6;have hx7:=(hx.trans hx5).trans hx6;clear hx5 hx6;have HF:=Ad (show UW (cz l) X0 (.tuple #[.int .i64 X0,.int .i64 0]) by unfold UW;rw[←HE.out];rfl);go_wp2;refine bodyPost_ret (v := .tuple #[.int .i64 X0,.int .i64 0]) (by simp[results,Tryz.results17,go_sem]) rfl ?_;exact Ah.mk HF.out hx7
end Go.Proofs.YtmhgnigpmompmaaGreat
namespace Go.Hp
open Go.RowKit
theorem Ff.lower{base b:Nat}{e:TypeId}{w:World}{v:Value}{l:List (Rat×Rat)}(h:Ff base e w v l)(hb:b≤base):Ff b e w v l:=by
 obtain⟨ess,g1,g2,⟨g3,g4⟩,g5⟩:=h;refine⟨ess,g1,g2,⟨g3,?_⟩,g5⟩;rcases g4 with h4 | ⟨g,cap,cur,a,c,d⟩
 ·exact .inl h4
 ·exact .inr ⟨g,cap,cur,a,Nat.le_trans hb c,d⟩
def Yu(base:Nat)(t:TypeId)(F:Nat→Rat)(N:Nat)(r:Value)(w:World):Prop:=∃ c,r = .tuple #[c,.int .i64 (DL F)]∧(DL F=0→Ff base t w c (Jw (rc (CL F)) N (-(2:Rat)^bx F) ((2:Rat)^bx F)))∧(DL F≠0→c = .slice none 0 0)
def II(F:Nat→Rat)(p q:Rat)(r:Value):Prop:=r = .tuple #[.int .i64 (if DL F=0∧p≤q then rc (CL F) p q else 0),.int .i64 (if DL F=0 then(if p≤q then 0 else 2)else DL F)]
end Go.Hp
namespace Go.Proofs.YtmhgnigpmompmaaGreat
open Go.RowKit Go.Hp
theorem QH(v u0:Value)(l:List Int)(p q:Rat)(D M t:Nat)(w:World)(hv:Dt 0 w v l)(hu0:Rb w u0 p q)(hn:l.length≤1000000)(hR:DL (cz l)=0→Pg (cz l) D M)(hp:qsz p≤t)(hq:qsz q≤t)(ht:t≤10000000) :
  Bh 16 #[v,u0] w (fun r _=>II (cz l) p q r):=by
 have HV:=Ad (Ak hv (Ak hR (Ak hp hq)));obtain⟨A,c,rfl⟩:=hv.len;obtain⟨b1,B1,m1,k1,b2,B2,m2,k2,b3,B3,m3,k3,b4,B4,m4,k4,rfl,hi1,hi2⟩:=hu0;have hsg:=Di (p:=p) (q:=q);have HI:=Ad (Ak hi1 (Ak hi2 (show qsz p+qsz q < 274877906944 by omega)));clear hv hR hi1 hi2;obtain⟨X0,hX0⟩:∃ X,X=rc (CL (cz l)) p q:=⟨_,rfl⟩
 have HX0:=Ad hX0;clear hX0
 go_enter Tryz.func16,Tryz.ntmps16
 obtain⟨W1,eW1,eb,y1⟩:=Bj.made w 30 #[.bool b1,.slice B1 m1 k1,.bool b2,.slice B2 m2 k2,.bool b3,.slice B3 m3 k3,.bool b4,.slice B4 m4 k4] (by simp[Ag])
 go_upto_region 1 with(fail)
 rw[←eW1];clear eW1;have hx:=y1;clear y1
 go_wp2_with fail
 refine AL (SV _ l _ (HV.out.1.ext hx) hn) ?_;rintro r2 w2 ⟨u,rfl,hu1,hu2⟩ hx2;replace eb:=eb.ext hx2;replace hx:=hx.trans hx2;clear hx2;obtain⟨E,hE⟩:∃ E,E=DL (cz l):=⟨_,rfl⟩
 have hc:=FI (cz l);rw[←hE]at hu1 hu2 hc ⊢;have HE:=Ad hE;clear hE;have fin:E≠0→∀ {W:World},Ext w W→Ah w (fun r _=>II (cz l) p q r) (.returned (.tuple #[.int .i64 0,.int .i64 E])) W:=fun hne W h=>Ah.mk (by unfold II;rw[←HE.out,if_neg (fun z=>hne z.1),if_neg hne]) h;have Hfin:=Ad fin;clear fin;rcases hc with⟨-,hc⟩ | ⟨-,hc⟩ | ⟨h0,hpl,-,hc⟩
 ·subst hc
  clear hu1 hu2;go_wp2;refine bodyPost_ret (v := .tuple #[.int .i64 0,.int .i64 5]) (by simp[results,Tryz.results16,go_sem]) rfl ?_;exact Hfin.out Ab hx
 ·subst hc
  clear hu1 hu2;go_wp2;refine bodyPost_ret (v := .tuple #[.int .i64 0,.int .i64 7]) (by simp[results,Tryz.results16,go_sem]) rfl ?_;exact Hfin.out Ab hx
 subst hc;have hR:=HV.out.2.1 HE.out.symm;have hu:=hu1 rfl;obtain⟨A1,c1,rfl,-⟩:=hu.shape;have HU:=Ad (Ak hu hR);clear hu1 hu2 hR h0 hu;have h22:=Ext.refl w2;obtain⟨ceb0,ceb1,ceb2,ceb3,ceb4,ceb5,ceb6,ceb7⟩:=eb.cells8;have feb:=eb.frozen
 go_wp2_with fail
 refine AL (Y5 _ _ p q _ (HI.out.1.ext hx) (HI.out.2.1.ext hx) HI.out.2.2) ?_;rintro r3 w3 rfl hx3;clear ceb0 ceb1 ceb2 ceb3 ceb4 ceb5 ceb6 ceb7 feb;replace eb:=eb.ext hx3;replace hx:=hx.trans hx3;replace h22:=h22.trans hx3;clear hx3;generalize FB (p - q)=m at *;by_cases hqp:q < p
 ·rw[decide_eq_true hqp]at hsg
  have HF:=Ad (show II (cz l) p q (.tuple #[.int .i64 0,.int .i64 2]) by unfold II;rw[←HE.out,if_neg (fun z=>by have:=z.2;grind),if_pos rfl,if_neg Au]);go_wp2;refine bodyPost_ret (v := .tuple #[.int .i64 0,.int .i64 2]) (by simp[results,Tryz.results16,go_sem]) rfl ?_;exact Ah.mk HF.out hx
 rw[decide_eq_false hqp]at hsg;have HW:=Ad (HU.out.1.ext h22);obtain⟨ceb0,ceb1,ceb2,ceb3,ceb4,ceb5,ceb6,ceb7⟩:=eb.cells8;have feb:=eb.frozen
 go_upto_region 6 with(fail)
 refine Ae 6 [21,22,23,24,25,26] [[],[0],[],[2],[],[4],[0,1,2,3,4,5],[0,1,2,3,4,5,6],[0,1,2,3,4,5,6,7]] [0,3] [_,_] [(kv ?_),(fun γ=>γ 1),(kv ?_),(kv ?_),(kv ?_),(kv ?_)] (fun γ w'=>[True,Q5 0 23 w' (γ 1) (CL (cz l)),True,True,True,True]) Bn Aj Aj Bo Aj Bl Br ?hstep1 ?_
 case hstep1 =>
  iterate 6 refine⟨?_,?_⟩
  trivial
  iterate 1 focus
   intro γ w' he hf;clear hf;refine⟨by trivial,?_⟩;intro R hR;have hc:=he.cells;go_simp;refine hR _ _ (Ext.refl _) ?_ trivial;rfl
  ·intro γ w' he hf;clear hf;refine⟨trivial,?_⟩;intro R hR
   go_simp;exact Bd (F:=fun r w''=>Q5 0 23 w'' (r) (CL (cz l))) (Ah.imp (Mx _ (cz l) D M w' (HW.out.ext he) HU.out.2) fun _ _ h=>h.lower (Nat.zero_le _)) hR
  iterate 4 focus
   intro γ w' he hf;clear hf;refine⟨by trivial,?_⟩;intro R hR;have hc:=he.cells;have cq0:=he.cell ceb0;have cq1:=he.cell ceb1;have cq2:=he.cell ceb2;have cq3:=he.cell ceb3;have cq4:=he.cell ceb4;have cq5:=he.cell ceb5;have cq6:=he.cell ceb6;have cq7:=he.cell ceb7;go_simp;refine hR _ _ (Ext.refl _) ?_ trivial;rfl
 intro γ w5 hx5 hF;have p1:Q5 0 23 w5 (γ 1) (CL (cz l)):=AA.get hF 1 Ab;clear hF;simp only[Bf,Nat.reduceAdd];generalize γ 1=g1 at *;clear γ;have HP1:=Ad p1;obtain⟨cA,cn,cc,rfl⟩:=p1.cell;have hlim:=HU.out.2.lim;have hin:Bh 51 #[.agg #[.slice cA cn cc],.agg #[.bool b1,.slice B1 m1 k1,.bool b2,.slice B2 m2 k2],.agg #[.bool b3,.slice B3 m3 k3,.bool b4,.slice B4 m4 k4]] w5 (fun r _=>r = .int .i64 X0):=by
  obtain⟨S,hC⟩:=HU.out.2.chn;have h9:D*(M+t+1)≤900*(M+t+1):=Nat.mul_le_mul_right _ hlim.2;have:=eD _ _ _ (CL (cz l)) p q 0 S D M t (kn (CL (cz l))) w5 HP1.out (HI.out.1.ext (hx.trans hx5)) (HI.out.2.1.ext (hx.trans hx5)) hC HU.out.2.k HV.out.2.2.1 HV.out.2.2.2 Aa;have e:((V (EA (CL (cz l)) (pd (CL (cz l))) (kn (CL (cz l)))) p:Nat):Int) - (V (EA (CL (cz l)) (pd (CL (cz l))) (kn (CL (cz l)))) q:Nat)=X0:=by
   rw[HX0.out];exact JZ HU.out.2.k _ _
  rw[e]at this;exact this
 have HIN:=Ad hin;clear hin p1
 go_wp2_with fail
 refine AL HIN.out ?_;rintro r6 w6 rfl hx6;have hx7:=(hx.trans hx5).trans hx6;clear hx5 hx6;have HF:=Ad (show II (cz l) p q (.tuple #[.int .i64 X0,.int .i64 0]) by unfold II;rw[←HE.out,if_pos ⟨rfl,Au⟩,if_pos rfl,if_pos Au,HX0.out]);go_wp2;refine bodyPost_ret (v := .tuple #[.int .i64 X0,.int .i64 0]) (by simp[results,Tryz.results16,go_sem]) rfl ?_;exact Ah.mk HF.out hx7
theorem SY(v:Value)(l:List Int)(D M N:Nat)(w:World)(hv:Dt 0 w v l)(hn:l.length≤1000000)(hR:DL (cz l)=0→Pg (cz l) D M)
  (hdeep:DL (cz l)=0→∀ d p q,Hp.Node (-(2:Rat)^bx (cz l)) ((2:Rat)^bx (cz l)) d p q→N≤d→rc (CL (cz l)) p q≤1) (hN:N≤1000000000) (hD:D≤30) :
  Bh 25 #[v] w (fun r w'=>Yu w.heap.size 30 (cz l) N r w'):=by
 have HV:=Ad (Ak hv (Ak hR hdeep));obtain⟨A,c,rfl⟩:=hv.len;clear hv hR hdeep
 go_enter Tryz.func25,Tryz.ntmps25
 go_wp2_with fail
 refine AL (SV _ l _ HV.out.1 hn) ?_;rintro r2 w2 ⟨u,rfl,hu1,hu2⟩ hx;obtain⟨E,hE⟩:∃ E,E=DL (cz l):=⟨_,rfl⟩
 have hc:=FI (cz l);rw[←hE]at hu1 hu2 hc ⊢;have HE:=Ad hE;clear hE;have fin:E≠0→∀ {W:World},Ext w W→Ah w (fun r w'=>Yu w.heap.size 30 (cz l) N r w') (.returned (.tuple #[.slice none 0 0,.int .i64 E])) W:=fun hne W h=>Ah.mk ⟨_,by rw[←HE.out],fun e=>absurd (HE.out.trans e) hne,fun _=>rfl⟩ h;have Hfin:=Ad fin;clear fin;rcases hc with⟨-,hc⟩ | ⟨-,hc⟩ | ⟨h0,hpl,-,hc⟩
 ·subst hc
  clear hu1 hu2;go_wp2;refine bodyPost_ret (v := .tuple #[.slice none 0 0,.int .i64 5]) (by simp[results,Tryz.results25,go_sem]) rfl ?_;exact Hfin.out Ab hx
 ·subst hc
  clear hu1 hu2;go_wp2;refine bodyPost_ret (v := .tuple #[.slice none 0 0,.int .i64 7]) (by simp[results,Tryz.results25,go_sem]) rfl ?_;exact Hfin.out Ab hx
 subst hc;have hR:=HV.out.2.1 HE.out.symm;have hu:=hu1 rfl;obtain⟨A1,c1,rfl,-⟩:=hu.shape;have HU:=Ad (Ak hu hR);clear hu1 hu2 hR h0 hu
 go_wp2_with fail
 refine AL (Mx _ (cz l) D M _ HU.out.1 HU.out.2) ?_;rintro r3 w3 hr3 hx3;have hsz3:=hx3.size;have hszx:=hx.size;obtain⟨cA,cn,cc,rfl⟩:=hr3.cell;have HU3:=Ad (HU.out.1.ext hx3);have HC:=Ad hr3;replace hx:=hx.trans hx3;clear hx3;clear hr3
 go_wp2_with fail
 refine AL (QS _ (cz l) D M _ HU3.out HU.out.2) ?_;rintro r4 w4 hr4 hx4;have hsz4:=hx4.size;obtain⟨b1,B1,m1,k1,b2,B2,m2,k2,b3,B3,m3,k3,b4,B4,m4,k4,rfl⟩:=hr4.cells;have HI:=Ad hr4;have HX4:=Ad (hx.trans hx4);clear hr4;have hcall:Calls Tryz.prog 64 #[.agg #[.slice cA cn cc],.slice none 0 0,.agg #[.bool b1,.slice B1 m1 k1,.bool b2,.slice B2 m2 k2,.bool b3,.slice B3 m3 k3,.bool b4,.slice B4 m4 k4]] w4
   (Tn w3.heap.size 30 w4 (.slice none 0 0) ([] ++ Jw (rc (CL (cz l))) N (-(2:Rat)^bx (cz l)) ((2:Rat)^bx (cz l)))):=by
  obtain⟨S,hC⟩:=HU.out.2.chn;have hbx:=Oe HU.out.2.q;have hqj:=Nb (bx (cz l));have hM:=HU.out.2.lim.1;have hpos:=Cq (bx (cz l));have hPQ : -(2:Rat)^bx (cz l) < (2:Rat)^bx (cz l):=by grind
  have hsf:=HU.out.2.sf;have h9:D*(M+(3*100000+N+4)+1)≤30*(M+(3*100000+N+4)+1):=Nat.mul_le_mul_right _ hD;have hdp:=HV.out.2.2 HE.out.symm;have hnodes:=UN hsf hPQ hdp N 0 _ _ (Hp.Node.root _ _) Aa;have hlen:(Jw (rc (CL (cz l))) N (-(2:Rat)^bx (cz l)) ((2:Rat)^bx (cz l))).length≤1000:=by
   have h1:=hnodes.2.1;have h2:rc (CL (cz l)) (-(2:Rat)^bx (cz l)) ((2:Rat)^bx (cz l))≤1000:=by
    rw[←JZ HU.out.2.k];unfold rts;have h3:=V5 (EA (CL (cz l)) (pd (CL (cz l))) (kn (CL (cz l)))) (-(2:Rat)^bx (cz l));rw[CP]at h3;obtain⟨K0,q1,q2⟩:=FN hC.f (Cb hC.f) hC.z (EL hC.z) hC.s hC.d;rw[q1.uniq HU.out.2.k]at q2;have:=hC.e;omega
   omega
  exact VC w3 _ (CL (cz l)) _ _ _ S D M (kn (CL (cz l))) N 100000 HC.out hC HU.out.2.k hPQ Aa Aa hdp (fun d p q hn=>hsf.nonneg (Std.le_of_lt (hn.within hPQ).2.1)) Aa
   N 0 _ _ _ _ [] w4 (Hp.Node.root _ _) Aa Aa hx4 (HI.out.has Aa Aa) (Ff.nil _ _ _) (by simpa using hlen)
 have HK:=Ad hcall;clear hcall
 go_wp2_with fail
 refine Calls.mono HK.out ?_;rintro e w5 ⟨r5,rfl,hown,U,-⟩;have hx5:Ext w w5:=U.from_ HX4.out (fun g hg=>by simp[blk,Value.ownBlock]at hg);have HF:=Ad (show Yu w.heap.size 30 (cz l) N (.tuple #[r5,.int .i64 0]) w5 from⟨r5,by rw[←HE.out],fun _=>Ff.lower hown Aa,fun e=>absurd HE.out.symm e⟩);clear hown U hx hx4;go_wp2;refine bodyPost_ret (v := .tuple #[r5,.int .i64 0]) (by simp[results,Tryz.results25,go_sem]) rfl ?_
 exact Ah.mk HF.out hx5
end Go.Proofs.YtmhgnigpmompmaaGreat
namespace Go.Hp
structure Em(F:Nat→Rat):Prop where
 z:ZI F
 f:Af F
 n0:F≠pz
 p:pl F≤7
 b:∀ i,(F i).num.natAbs≤4095
theorem GL{F:Nat→Rat}(z:ZI F){i s:Nat}(hs:1≤s)(h:(F i).num.natAbs < bp s):qsz (F i)≤s:=by
 have h3:=Cj h;rw[z.num i,Bi];omega
theorem Em.q{F:Nat→Rat}(h:Em F)(i:Nat):qsz (F i)≤1:=GL h.z Ab (Nat.lt_of_le_of_lt (h.b i) Ab)
theorem Sb{F:Nat→Rat}(z:ZI F)(f:Af F){n X:Nat}(hp:pl F≤n+1)(h:∀ i,(F i).num.natAbs≤X)(i:Nat):(pd F i).num.natAbs≤n*X:=by
 have e:pd F i=((((i+1:Nat):Int)*(F (i+1)).num:Int):Rat):=by
  show((i+1:Nat):Rat)*F (i+1)=_
  conv=>lhs;rw[z.num (i+1)]
  push_cast;rfl
 rw[e];show(((i+1:Nat):Int)*(F (i+1)).num).natAbs≤_;rw[Int.natAbs_mul];by_cases hi:i+1≤n
 ·exact Nat.mul_le_mul hi (h _)
 ·have:F (i+1)=0:=(AU f) _ Aa
  rw[this];simp
theorem Ym{F:Nat→Rat}(z:ZI F)(f:Af F)(h0:F≠pz){X:Nat}(h:∀ i,(F i).num.natAbs≤X)(i:Nat):(pp F i).num.natAbs≤X:=by
 rw[OB z f h0];show((F i).num / pcn F).natAbs≤X;exact Nat.le_trans (Int.natAbs_ediv_le_natAbs _ _) (h i)
theorem Z9{F:Nat→Rat}(z:ZI F){X:Nat}(h:∀ i,(F i).num.natAbs≤X):Jr ((X:Nat):Rat) F:=fun i=>by
 rw[z.num i,K4];exact_mod_cast h i
theorem YR{F:Nat→Rat}(z:ZI F){X:Nat}(h:Jr ((X:Nat):Rat) F)(i:Nat):(F i).num.natAbs≤X:=by
 have:=h i;rw[z.num i,K4]at this;exact_mod_cast this
theorem Xp(a b c d:Nat):((a:Nat):Rat)*(((b:Nat):Rat)*((c:Nat):Rat)*((d:Nat):Rat)*((d:Nat):Rat))=((a*(b*c*d*d):Nat):Rat):=by push_cast;rfl
theorem Em.w{F:Nat→Rat}(h:Em F):(∀ i,(CL F i).num.natAbs≤7*(4095*7*15^7*15^7))∧pl (CL F)≤7:=by
 have hP:=BP.pp h.z h.f h.n0;have hS:=I7 h.z h.f h.n0;have hpl:=EE h.z h.f;have hd:GZ (pp F) (CL F):=by
  obtain⟨hC,hW,e,-,-⟩:=EO hP;exact⟨yc (pp F),hC.z,hC.f,by rw[Bw];exact e⟩
 have h1:=Zl hP.z hP.f hP.n hS.p.z hS.p.f hd (n:=7) (by rw[hpl];exact h.p) (Z9 hP.z (Ym h.z h.f h.n0 h.b));refine⟨YR hS.p.z ?_,?_⟩
 ·intro i
  have:=h1 i;refine Std.le_trans this ?_;have e:(1:Rat)+2*((7:Nat):Rat)=((15:Nat):Rat):=by exact_mod_cast(rfl:1+2*7=15)
  rw[e,Ld];have:((7:Nat):Rat)*(((4095:Nat):Rat)*((7:Nat):Rat)*((15^7:Nat):Rat)*((15^7:Nat):Rat))=((7*(4095*7*15^7*15^7):Nat):Rat):=Xp 7 4095 7 _;rw[this];exact Std.le_refl _
 ·have:=Dv.le hS.p.f hP.f hP.n (KY hd)
  rw[hpl]at this;have:=h.p;omega
theorem Em.chn{F:Nat→Rat}(h:Em F):Mm (CL F) 3 (pl (CL F)+pl (pd (CL F))) 32768∧pl (CL F)+pl (pd (CL F))≤13:=by
 obtain⟨h1,h2⟩:=h.w;have hS:=I7 h.z h.f h.n0;have h3:=Ng hS.p.f;have h4:=Be hS.p.f hS.p.n;have hD:pl (CL F)+pl (pd (CL F))≤13:=by omega
 have hp:2^(pl (CL F)+pl (pd (CL F)))≤2^13:=Nat.pow_le_pow_right Ab hD;have hm:(pl (CL F)+pl (pd (CL F))+1)*(32768+1)≤14*32769:=Nat.mul_le_mul_right _ Aa;refine⟨⟨hS.p.z,hS.p.f,fun i=>GL hS.p.z Ab (Nat.lt_of_le_of_lt (h1 i) (by decide +kernel)),fun i=>GL (EL hS.p.z) Ab (Nat.lt_of_le_of_lt (Sb hS.p.z hS.p.f (n:=6) Aa h1 i) (by decide +kernel)),rfl,Aa,Aa,Aa⟩,hD⟩
theorem Em.sim{F:Nat→Rat}(h:Em F):Qe F 1 7 16384 36000:=by
 have hP:=BP.pp h.z h.f h.n0;have hpl:=EE h.z h.f;have hpn:=Ym h.z h.f h.n0 h.b;exact⟨h.z,h.f,h.n0,h.q,fun i=>GL (EL hP.z) Ab (Nat.lt_of_le_of_lt (Sb hP.z hP.f (n:=6) (by rw[hpl];exact h.p) hpn i) Ab),
  fun i=>ZA hP (n:=7) (s:=1) (by rw[hpl];exact h.p) Ab (fun i=>GL hP.z Ab (Nat.lt_of_le_of_lt (hpn i) Ab)) Ab i,h.p,Ab,Ab,Ab,Ab⟩
theorem Em.err{F:Nat→Rat}(h:Em F):DL F=0:=by
 refine PP h.n0 (by have:=h.p;omega) fun⟨i,b,h1,h2⟩=>?_;have:=h1.le (m:=12) (Nat.lt_of_le_of_lt (h.b i) Ab);omega
theorem Em.pg{F:Nat→Rat}(h:Em F):Pg F (pl (CL F)+pl (pd (CL F))) 32768:=
 ⟨h.z,h.f,h.n0,h.err,fun i=>Nat.le_trans (h.q i) Ab,by have:=h.p;omega,⟨1,7,16384,36000,h.sim⟩,⟨3,h.chn.1⟩⟩
theorem Zc{S D b:Nat}(hS:S≤3)(hD:D≤13)(hb:b≤400):OY S D b≤660000000:=by
 have hp:2^D≤8192:=Nat.le_trans (Nat.pow_le_pow_right Ab hD) Ab;have h1:(S+1)*2^D≤4*8192:=Nat.mul_le_mul Aa hp;have h2:(D+1)*((S+1)*2^D+1)≤14*32769:=Nat.mul_le_mul Aa Aa;have h3:b*(D+1)≤400*14:=Nat.mul_le_mul hb Aa;have h4:(3+b)*D≤403*13:=Nat.mul_le_mul Aa hD;have h5:K8 S D b≤50338607:=by unfold K8;omega
 have h6:D*K8 S D b≤13*50338607:=Nat.mul_le_mul hD h5;unfold OY Qq Xl;omega
theorem Em.sep{F:Nat→Rat}(h:Em F){p q:Rat}{E:Nat}(hE:660000000≤E)(hp:ab p≤2^400 - 1)(hq:ab q≤2^400 - 1)(hpq:p < q)(hd:(q - p)*2^E≤1):rc (CL F) p q≤1:=by
 obtain⟨hC,hD⟩:=h.chn;have hS:=I7 h.z h.f h.n0;have h1:=Zc (S:=3) (b:=400) Ab hD Ab;have h2:=D5 (NF (show OY 3 (pl (CL F)+pl (pd (CL F))) 400≤E by omega)) (show 0≤q - p by grind);exact hS.st.sep hC.s hC.d rfl hp hq hpq (Std.le_trans h2 hd)
theorem bU{b:Nat}(j:Nat)(h:j+1≤b):(2:Rat)^j≤2^b - 1:=by
 have h1:=NF h;rw[Rat.pow_succ]at h1;have:=OZ j;grind
theorem Em.deep{F:Nat→Rat}(h:Em F)(d:Nat)(p q:Rat)(hn:Node (-(2:Rat)^bx F) ((2:Rat)^bx F) d p q)(hd:700000000≤d):rc (CL F) p q≤1:=by
 have hb:=Oe h.q;have hpos:=Cq (bx F);have hPQ : -(2:Rat)^bx F < (2:Rat)^bx F:=by grind
 obtain⟨w1,w2,w3⟩:=hn.within hPQ;have hB:=bU (b:=400) (bx F) Aa;have hap:ab p≤2^400 - 1:=IV.2 ⟨Au,Au⟩;have haq:ab q≤2^400 - 1:=IV.2 ⟨Au,Au⟩;obtain⟨E,hE⟩:∃ E,d=E+(bx F+1):=⟨d - (bx F+1),Aa⟩
 refine h.sep (E:=E) Aa hap haq w2 ?_;have hw:=hn.width;rw[hE,E8,Rat.pow_succ]at hw;have:(q - p)*2^E*(2^bx F*2)=1*(2^bx F*2):=by grind
 have hne:(2:Rat)^bx F*2≠0:=by grind
 have:(q - p)*2^E=1:=by grind
 rw[this];exact Std.le_refl _
theorem TZ:∀ l:List Int,Jt 0 l≤l.length - 1
 | []=>Nat.le_refl _
 | s::l=>by
  rw[Jt]
  split
  ·have:=TZ l;simp;omega
  ·rename_i h
   rw[if_neg (show ¬ (0:Int) = -s by omega)];have:=Xj l s;simp;omega
theorem Qh:pl (cz [-2,0,1])=3:=KE (BK [-2,0,1]) (fun _=>by decide +kernel)
theorem aN:cz [-2,0,1]≠pz:=fun e=>by have:=Qh;rw[e,Ca]at this;omega
theorem Gj:Em (cz [-2,0,1]):=by
 refine⟨ZI.cz _,Af.cz _,aN,by rw[Qh];decide,fun i=>?_⟩
 match i with
 | 0=>decide +kernel
 | 1=>decide +kernel
 | 2=>decide +kernel
 | i+3=>rw[Iw Ac];decide
theorem Ua(x:Rat):ev (cz [-2,0,1]) x = -2+x*x:=by
 rw[F6 (BK [-2,0,1]) x];show cz [-2,0,1] 0+x*(cz [-2,0,1] 1+x*(cz [-2,0,1] 2+x*0))=_;have h0:cz [-2,0,1] 0 = -2:=by decide +kernel
 have h1:cz [-2,0,1] 1=0:=by decide +kernel
 have h2:cz [-2,0,1] 2=1:=by decide +kernel
 rw[h0,h1,h2];grind
theorem WV:ld (cz [-2,0,1])=1:=by unfold ld;rw[Qh];decide +kernel
theorem aS:SF (cz [-2,0,1]):=by
 refine⟨⟨ZI.cz _,Af.cz _,aN,by rw[WV];decide,?_⟩,?_⟩
 ·have h:=Gj
  have h1:cn (cz [-2,0,1])∣1:=by
   have h2:=J2 (F:=cz [-2,0,1]) (Af.cz _) 2;have h3:(cz [-2,0,1] 2).num=1:=by decide +kernel
   rw[h3]at h2;exact Int.natCast_dvd_natCast.1 h2
  exact Nat.dvd_one.1 h1
 ·have e:∀ i,pd (cz [-2,0,1]) i=cs 0 (cs 2 pz) i:=fun i=>by
   match i with
   | 0=>decide +kernel
   | 1=>decide +kernel
   | i+2 =>
    show((i+2+1:Nat):Rat)*cz [-2,0,1] (i+3)=pz i;rw[Iw Ac,Rat.mul_zero];rfl
  have e':pd (cz [-2,0,1])=cs 0 (cs 2 pz):=funext e;have f':cz [-2,0,1]=cs (-2) (cs 0 (cs 1 pz)):=funext fun i=>by
   match i with
   | 0=>decide +kernel
   | 1=>decide +kernel
   | 2=>decide +kernel
   | i+3=>rw[Iw Ac];rfl
  refine⟨cs (-(1 / 2)) pz,cs 0 (cs (1 / 4) pz),Af.pz.cs _,(Af.pz.cs _).cs _,?_⟩;rw[e',f'];simp only[LA,CG]
  funext i
  match i with
  | 0=>simp only[pad,psc,cs,pz,pone];grind
  | 1=>simp only[pad,psc,cs,pz,pone];grind
  | 2=>simp only[pad,psc,cs,pz,pone];grind
  | 3=>simp only[pad,psc,cs,pz,pone];grind
  | i+4=>simp only[pad,psc,cs,pz,pone];grind
theorem ZL{F:Nat→Rat}(h:SF F):CL F=F:=by
 have e:pp F=F:=h.p.self;have h2:=dF h h.p (Dv.refl F);have h3:=EO h.p;unfold CL;rw[e];refine h3.2.1.eq_dv h.p ⟨yc F,h3.1.f,?_⟩ h2;rw[Bw];exact h3.2.2.1
theorem Wy:CL (cz [-2,0,1])=cz [-2,0,1]:=ZL aS
theorem gL:bx (cz [-2,0,1])=2:=by
 refine(P2.bx ?_).symm;rw[Qh];have h0:cz [-2,0,1] 0 = -2:=by decide +kernel
 have h1:cz [-2,0,1] 1=0:=by decide +kernel
 have e1:Et (cz [-2,0,1]) 1=2:=by
  show(if (0:Rat) < ab (cz [-2,0,1] 0 / ld (cz [-2,0,1]))then ab (cz [-2,0,1] 0 / ld (cz [-2,0,1]))else 0)=2;rw[h0,WV];decide +kernel
 have e2:Et (cz [-2,0,1]) (3 - 1)=2:=by
  show(if Et (cz [-2,0,1]) 1 < ab (cz [-2,0,1] 1 / ld (cz [-2,0,1]))then ab (cz [-2,0,1] 1 / ld (cz [-2,0,1]))else Et (cz [-2,0,1]) 1)=2;rw[e1,h1,WV];decide +kernel
 rw[e2];refine⟨by decide +kernel,fun i hi=>?_⟩
 match i with
 | 0=>decide +kernel
 | 1=>decide +kernel
theorem aD:rc (cz [-2,0,1]) 0 2=1∧rc (cz [-2,0,1]) (-4) 4=2∧rc (cz [-2,0,1]) (-4) 0=1∧rc (cz [-2,0,1]) 0 4=1:=by
 have hs:=aS;have e0:ev (cz [-2,0,1]) 0 = -2:=by rw[Ua];decide +kernel
 have e2:ev (cz [-2,0,1]) 2=2:=by rw[Ua];decide +kernel
 have e4:ev (cz [-2,0,1]) 4=14:=by rw[Ua];decide +kernel
 have em:ev (cz [-2,0,1]) (-4)=14:=by rw[Ua];decide +kernel
 have h1:1≤rc (cz [-2,0,1]) 0 2:=hs.st.change_counts (by decide +kernel) (by rw[e0];decide +kernel) (by rw[e0,e2];decide +kernel);have h2:1≤rc (cz [-2,0,1]) (-4) 0:=hs.st.change_counts (by decide +kernel) (by rw[em];decide +kernel) (by rw[e0,em];decide +kernel);have h3:=hs.sub (p:=0) (x:=0) (y:=2) (q:=4) (by decide +kernel) (by decide +kernel) (by decide +kernel);have h4:=T9 (cz [-2,0,1]) (-4) 0 4
 have h5:rc (cz [-2,0,1]) (-4) 4≤2:=by
  rw[←JZ hs.st.k];unfold rts;have h6:V (EA (cz [-2,0,1]) (pd (cz [-2,0,1])) (kn (cz [-2,0,1]))) (-4)≤kn (cz [-2,0,1]) - 1:=by
   have:=TZ ((EA (cz [-2,0,1]) (pd (cz [-2,0,1])) (kn (cz [-2,0,1]))).map fun F=>BM (ev F (-4)));rw[List.length_map,CP]at this;exact this
  obtain⟨S,hS⟩:=Eo hs.p.f;obtain⟨T,hT⟩:=Eo (Cb hs.p.f);obtain⟨K,q1,q2⟩:=FN hs.p.f (Cb hs.p.f) hs.p.z (EL hs.p.z) (S:=max S T) (fun i=>Nat.le_trans (hS i) (Nat.le_max_left _ _)) (fun i=>Nat.le_trans (hT i) (Nat.le_max_right _ _));rw[Ng hs.p.f,Qh]at q2;rw[q1.kn]at h6 ⊢;omega
 omega
theorem dR(N:Nat):Jw (rc (CL (cz [-2,0,1]))) (N+1) (-(2:Rat)^bx (cz [-2,0,1])) ((2:Rat)^bx (cz [-2,0,1]))=[(-4,0),(0,4)]:=by
 rw[Wy,gL];have e1:(2:Rat)^2=4:=by decide +kernel
 have e2 : -(2:Rat)^2 = -4:=by decide +kernel
 obtain⟨-,r1,r2,r3⟩:=aD;rw[e2,e1,Mi Aa Aa];have e3:((-4:Rat)+4) / 2=0:=by decide +kernel
 rw[e3,Kw r2,Kw r3];rfl
open Go.RowKit
end Go.Hp
namespace Go.Proofs.YtmhgnigpmompmaaGreat
open Go.RowKit Go.Hp
set_option maxRecDepth 20000 in
theorem jG(v:Value)(ns:List Int)(w:World)(hv:TG w v ns)(hn:ns.length≤1000)(hs:∀ n∈ns,-4294967296 < n∧n < 4294967296):Bh 21 #[v] w (fun r w'=>LG w.heap.size w' r ns):=by
 obtain⟨g,c,rfl,h1,h2,h3⟩:=hv;have H3:=Ad (Ak h3 hs);clear h3 hs
 go_enter Tryz.func21,Tryz.ntmps21
 go_wp2
 go_loopw [3,4] (fun ov iv wr=>∃ (k:Nat),k≤ns.length∧iv = .int .i64 k∧CE w.heap.size 26 wr ov (ns.take k)∧Ext w wr) (fun _ iv _=>ns.length - (intOf iv).toNat)
 case atStart=>exact⟨0,Nat.zero_le _,rfl,BI.nil _ _ _ _ _,Ext.refl _⟩
 case round =>
  obtain⟨k,hk,rfl,hown,hx⟩:=hrel;have Hown0:=Ad hown;clear hown;by_cases hkl:k < ns.length
  ·have q0:=hx.cell (H3.out.1 k hkl)
   obtain⟨m,hm⟩:∃ m,m=ns[k]:=⟨_,rfl⟩
   rw[←hm]at q0;have hb:=H3.out.2 ns[k] (List.getElem_mem hkl);rw[←hm]at hb;have Hm:=Ad hm;clear hm
   go_wp2_with fail
   refine AL (jD m _ hb.1 hb.2) ?_;rintro r w2 hr hx2;obtain⟨b5,A5,n5,c5,rfl⟩:=hr.cells;have Hr:=Ad hr;clear hr;have hown:=Hown0.out.ext hx2;have Hown:=Ad hown;clear hown;replace hx:=hx.trans hx2;have hsz:=hx.size;have hlk:(ns.take k).length≤1000:=Nat.le_trans (List.length_take_le _ _) Aa;clear hx2 q0 Hown0
   go_wp2_with (at_builtin;refine AB rfl _ _ 22 rfl u3 (.slice (some ⟨w2.heap.size,0,none⟩) 1 1) rfl rfl (Fz w2 w.heap.size _ _ _ _ _ Hown.out Hr.out (by first | (rw[AY];omega) | omega) hsz rfl) ?_)
   first | intro v' w5 hown U | rintro v' w5 ⟨hown,U⟩
   replace hx:=(Hown.out.ext ((Ext.refl w2).alloc _)).from_ U (hx.alloc _) (Nat.le_refl _);have Hown':=Ad hown;clear hown U;go_wp2
   go_roundw
   case rel=>exact⟨k+1,Aa,by go_num,by
    rw[List.take_succ_eq_append_getElem hkl,←Hm.out];exact Hown'.out,hx⟩
   case measure=>simp[intOf]<;>omega
  ·obtain rfl:k=ns.length:=by omega
   have hq:=CE.row Hown0.out;rw[List.take_of_length_le (Nat.le_refl _)]at hq;have Hq:=Ad hq;clear hq Hown0;go_wp2
   go_ret
   exact Ah.mk Hq.out hx
end Go.Proofs.YtmhgnigpmompmaaGreat
namespace Go.Hp
open Go.RowKit
theorem K5.one{w:World}{cs:Array Value}{p q:Rat}(h:K5 w (.agg cs) p q):∃ b1 A1 n1 c1 b2 A2 n2 c2 b3 A3 n3 c3 b4 A4 n4 c4,cs=#[.bool b1,.slice A1 n1 c1,.bool b2,.slice A2 n2 c2,.bool b3,.slice A3 n3 c3,.bool b4,.slice A4 n4 c4]:=by
 obtain⟨b1,A1,n1,c1,b2,A2,n2,c2,b3,A3,n3,c3,b4,A4,n4,c4,h1⟩:=h.cells;injection h1 with h1;exact⟨_,_,_,_,_,_,_,_,_,_,_,_,_,_,_,_,h1⟩
theorem Ff.at_{base n c:Nat}{e:TypeId}{w:World}{A:Option Addr}{l:List (Rat×Rat)}(h:Ff base e w (.slice A n c) l){j:Nat}(hj:j < l.length) :
  ∃ g o b1 A1 n1 c1 b2 A2 n2 c2 b3 A3 n3 c3 b4 A4 n4 c4,A=some ⟨g,o,none⟩∧w.cell? ⟨g,o+j*8,none⟩=some (.bool b1)∧w.cell? ⟨g,o+j*8+1,none⟩=some (.slice A1 n1 c1)∧w.cell? ⟨g,o+j*8+2,none⟩=some (.bool b2)∧w.cell? ⟨g,o+j*8+3,none⟩=some (.slice A2 n2 c2) ∧
   w.cell? ⟨g,o+j*8+4,none⟩=some (.bool b3)∧w.cell? ⟨g,o+j*8+5,none⟩=some (.slice A3 n3 c3)∧w.cell? ⟨g,o+j*8+6,none⟩=some (.bool b4)∧w.cell? ⟨g,o+j*8+7,none⟩=some (.slice A4 n4 c4) ∧
   K5 w (.agg #[.bool b1,.slice A1 n1 c1,.bool b2,.slice A2 n2 c2,.bool b3,.slice A3 n3 c3,.bool b4,.slice A4 n4 c4]) l[j].1 l[j].2:=by
 obtain⟨A',c',e1,-,-,hA⟩:=BI.row h;have eA:A'=A:=by injection e1 with h1;exact h1.symm
 subst eA;obtain⟨g,o,ha,hb,hc⟩:=hA Aa;obtain⟨cs,q1,q2,q3⟩:=hc j hj;obtain⟨b1,A1,n1,c1,b2,A2,n2,c2,b3,A3,n3,c3,b4,A4,n4,c4,rfl⟩:=K5.one q3;refine⟨g,o,b1,A1,n1,c1,b2,A2,n2,c2,b3,A3,n3,c3,b4,A4,n4,c4,ha,?_,?_,?_,?_,?_,?_,?_,?_,q3⟩
 ·exact q2 0 Ab
 ·exact q2 1 Ab
 ·exact q2 2 Ab
 ·exact q2 3 Ab
 ·exact q2 4 Ab
 ·exact q2 5 Ab
 ·exact q2 6 Ab
 ·exact q2 7 Ab
end Go.Hp
namespace Go.Proofs.YtmhgnigpmompmaaGreat
open Go.RowKit Go.Hp
theorem Tw(x y:Int)(w:World)(h1 : -4294967296 < x∧x < 4294967296)(h2 : -4294967296 < y∧y < 4294967296):Bh 45 #[.int .i64 x,.int .i64 y] w (fun r w'=>K5 w' r (x:Rat) (y:Rat)):=by
 go_enter Tryz.func45,Tryz.ntmps45
 obtain⟨W1,eW1,ez,y1⟩:=Bj.made w 30 #[.bool false,.slice none 0 0,.bool false,.slice none 0 0,.bool false,.slice none 0 0,.bool false,.slice none 0 0] (by simp[Ag])
 go_upto_region 1 with(fail)
 rw[←eW1];clear eW1;have hx:=y1;clear y1
 go_wp2_with fail
 refine AL (jP x _ Aa Aa) ?_;rintro r2 w2 hr2 hx2;obtain⟨b5,A5,n5,c5,b6,A6,n6,c6,rfl⟩:=hr2.cells;have H2:=Ad hr2;clear hr2;have hgz:=ez.lt;replace ez:=ez.ext hx2;replace hx:=hx.trans hx2;clear hx2
 go_wp2_with fail
 refine AL (jP y _ Aa Aa) ?_;rintro r3 w3 hr3 hx3;obtain⟨b7,A7,n7,c7,b8,A8,n8,c8,rfl⟩:=hr3.cells;have p1:=H2.out.ext hx3;replace ez:=ez.ext hx3;replace hx:=hx.trans hx3;clear hx3;obtain⟨cez0,cez1,cez2,cez3,cez4,cez5,cez6,cez7⟩:=ez.cells8;have fez:=ez.frozen;go_wp2;obtain⟨W6,eW,ez',U⟩:=ez.put8 (.bool b5) (.slice A5 n5 c5) (.bool b6) (.slice A6 n6 c6) (.bool b7) (.slice A7 n7 c7) (.bool b8) (.slice A8 n8 c8) rfl rfl rfl rfl rfl rfl rfl rfl
 rw[←eW];clear eW ez;replace p1:=p1.kd U.kd;replace hr3:=hr3.kd U.kd;replace hx:=U.from_ hx Ai;have ez:=ez';clear U ez';clear cez0 cez1 cez2 cez3 cez4 cez5 cez6 cez7 fez;obtain⟨cez0,cez1,cez2,cez3,cez4,cez5,cez6,cez7⟩:=ez.cells8;have fez:=ez.frozen;refine bodyPost_ret (v := .agg #[.bool b5,.slice A5 n5 c5,.bool b6,.slice A6 n6 c6,.bool b7,.slice A7 n7 c7,.bool b8,.slice A8 n8 c8]) (by simp[results,Tryz.results45,go_sem,cez0,cez1,cez2,cez3,cez4,cez5,cez6,cez7]) rfl ?_
 exact Ah.mk ⟨_,_,_,_,_,_,_,_,_,_,_,_,_,_,_,_,rfl,p1,hr3⟩ hx
theorem Uu(v u:Value)(p q p' q':Rat)(w:World)(hv:K5 w v p q)(hu:K5 w u p' q'):Bh 33 #[v,u] w (fun r _=>r = .bool (decide (p=p'∧q=q'))):=by
 obtain⟨b1,A1,n1,c1,b2,A2,n2,c2,b3,A3,n3,c3,b4,A4,n4,c4,rfl,i1,i2⟩:=hv;obtain⟨d1,B1,m1,k1,d2,B2,m2,k2,d3,B3,m3,k3,d4,B4,m4,k4,rfl,j1,j2⟩:=hu;have H:=Ad (Ak i1 (Ak i2 (Ak j1 j2)));clear i1 i2 j1 j2
 go_enter Tryz.func33,Tryz.ntmps33
 obtain⟨W1,eW1,ea,y1⟩:=Bj.made w 30 #[.bool b1,.slice A1 n1 c1,.bool b2,.slice A2 n2 c2,.bool b3,.slice A3 n3 c3,.bool b4,.slice A4 n4 c4] (by simp[Ag]);obtain⟨W2,eW2,eb,y2⟩:=Bj.made W1 30 #[.bool d1,.slice B1 m1 k1,.bool d2,.slice B2 m2 k2,.bool d3,.slice B3 m3 k3,.bool d4,.slice B4 m4 k4] (by simp[Ag]);have s1:W1.heap.size=w.heap.size+1:=by rw[eW1,World.size_alloc]
 rw[s1]at eb;have hx:=y1.trans y2;replace ea:=ea.ext y2
 go_upto_region 1 with(fail)
 rw[←eW1,←eW2];clear eW1 eW2 y1 y2 s1;obtain⟨cea0,cea1,cea2,cea3,cea4,cea5,cea6,cea7⟩:=ea.cells8;have fea:=ea.frozen;obtain⟨ceb0,ceb1,ceb2,ceb3,ceb4,ceb5,ceb6,ceb7⟩:=eb.cells8;have feb:=eb.frozen
 go_wp2_with fail
 refine AL (U8 _ _ p p' _ (H.out.1.ext hx) (H.out.2.2.1.ext hx)) ?_;rintro r3 w3 rfl hx3;clear cea0 cea1 cea2 cea3 cea4 cea5 cea6 cea7 fea ceb0 ceb1 ceb2 ceb3 ceb4 ceb5 ceb6 ceb7 feb;replace ea:=ea.ext hx3;replace eb:=eb.ext hx3;replace hx:=hx.trans hx3;clear hx3;by_cases hp:p=p'
 ·have hd:decide (p=p')=true:=decide_eq_true hp
  have hq:decide (p=p'∧q=q')=decide (q=q'):=by simp[hp]
  have HQ:=Ad hq;clear hq;rw[hd];have HP:=Ad hp;clear hp;obtain⟨cea0,cea1,cea2,cea3,cea4,cea5,cea6,cea7⟩:=ea.cells8;have fea:=ea.frozen;obtain⟨ceb0,ceb1,ceb2,ceb3,ceb4,ceb5,ceb6,ceb7⟩:=eb.cells8;have feb:=eb.frozen
  go_wp2_with fail
  refine AL (U8 _ _ q q' _ (H.out.2.1.ext hx) (H.out.2.2.2.ext hx)) ?_;rintro r4 w4 rfl hx4;generalize decide (q=q')=bb at *;go_wp2
  go_ret
  exact Ah.mk (show Value.bool bb = .bool (decide (p=p'∧q=q'))from by rw[HQ.out]) (hx.trans hx4)
 ·have hd:decide (p=p')=false:=decide_eq_false hp
  have hq:decide (p=p'∧q=q')=false:=decide_eq_false fun z=>hp z.1;have HQ:=Ad hq;clear hq;rw[hd];clear hp;go_wp2
  go_ret
  exact Ah.mk (show Value.bool false = .bool (decide (p=p'∧q=q'))from by rw[HQ.out]) hx
set_option maxRecDepth 20000 in
theorem Wv(w:World):Bh 12 #[] w (fun r _=>r = .bool true):=by
 have K1:=Ad (show ∀ x∈([-2,0,1]:List Int),sz x.natAbs≤1 by decide +kernel);have hcnt:∀ X v u,Dt 0 X v [-2,0,1]→Rb X u 0 2→Bh 16 #[v,u] X (fun r _=>r = .tuple #[.int .i64 1,.int .i64 0]):=fun X v u hv hu=>by
  refine Ah.imp (QH v u [-2,0,1] 0 2 _ 32768 10 X hv hu Ab (fun _=>Gj.pg) (by decide +kernel) (by decide +kernel) Ab) fun r _ h=>?_;rw[h,Gj.err,Wy,aD.1,if_pos ⟨rfl,by decide +kernel⟩,if_pos rfl,if_pos (by decide +kernel)]
 have hiso:∀ X v,Dt 0 X v [-2,0,1]→Bh 25 #[v] X (fun r w'=>∃ c,r = .tuple #[c,.int .i64 0]∧Ff 0 30 w' c [(-4,0),(0,4)]):=fun X v hv=>by
  obtain⟨N,h1,h2⟩:∃ N,700000000≤N+1∧N+1≤1000000000:=⟨800000000,Aa,Aa⟩
  refine Ah.imp (SY v [-2,0,1] _ 32768 (N+1) X hv Ab (fun _=>Gj.pg) (fun _ d p q hn hd=>Gj.deep d p q hn Aa) h2 (by have:=Gj.chn.2;omega)) fun r w' ⟨c,e1,e2,_⟩=>?_;rw[Gj.err]at e1;have:=e2 Gj.err;rw[dR]at this;exact⟨c,e1,this.lower (Nat.zero_le _)⟩
 have HC:=Ad (Ak hcnt hiso);clear hcnt hiso
 go_enter Tryz.func12,Tryz.ntmps12
 go_wp2_with fail
 refine AL (jG _ [-2,0,1] _ (TG.new w _ [-2,0,1] Ab) Ab Ab) ?_;rintro r1 w1 h1 hx;have H1:=Ad (h1.has (fun x hx=>by have:=K1.out x hx;omega));clear h1;replace hx:=hx.a1
 go_wp2_with fail
 refine AL (Tw 0 2 _ Aa Aa) ?_;rintro r2 w2 hr2 hx2;have H2:=Ad (Ak (H1.out.ext hx2) (show Rb w2 r2 0 2 from hr2.has (by decide +kernel) (by decide +kernel)));clear hr2 H1;replace hx:=hx.trans hx2;clear hx2
 go_wp2_with fail
 refine AL (HC.out.1 _ _ _ H2.out.1 H2.out.2) ?_;rintro r3 w3 rfl hx3;have H3:=Ad (H2.out.1.ext hx3);clear H2;replace hx:=hx.trans hx3;clear hx3
 go_wp2_with fail
 refine AL (HC.out.2 _ _ H3.out) ?_;rintro r4 w4 ⟨c4,rfl,hown⟩ hx4;replace hx:=hx.trans hx4;clear hx4;obtain⟨A,c,rfl⟩:=hown.len;obtain⟨g,o,b1,A1,n1,c1,b2,A2,n2,c2,b3,A3,n3,c3,b4,A4,n4,c4,rfl,q0,q1,q2,q3,q4,q5,q6,q7,hi0⟩:=hown.at_ (j:=0) Ab;obtain⟨g',o',d1,B1,m1,k1,d2,B2,m2,k2,d3,B3,m3,k3,d4,B4,m4,k4,e1,s0,s1,s2,s3,s4,s5,s6,s7,hi1⟩:=hown.at_ (j:=1) Ab;cases e1;have HI:=Ad (Ak (show K5 w4 _ (-4) 0 from hi0) (show K5 w4 _ 0 4 from hi1));clear hi0 hi1 hown H3
 rw[Nat.zero_mul,Nat.add_zero]at q0 q1 q2 q3 q4 q5 q6 q7;rw[Nat.one_mul]at s0 s1 s2 s3 s4 s5 s6 s7;have hl2:([(-4,0),(0,4)]:List (Rat×Rat)).length=2:=rfl;rw[hl2];clear hl2
 go_upto_region 4 with(fail)
 refine Ae 27 [19,20,21,22,23,24,25,26,27,28,29,30,31,32,33,34,35,36,37,38,39,40,41,42,43,44,45] [[],[0],[0,1],[0,1,2],[0,1,2,3],[0,1,2,3,4],[0,1,2,3,4,5],[0,1,2,3,4,5,6],[0,1,2,3,4,5,6,7],[0,1,2,3,4,5,6,7,8],[0,1,2,3,4,5,6,7,8,9],[0,1,2,3,4,5,6,7,8,9,10],[0,1,2,3,4,5,6,7,8,9,10,11],[0,1,2,3,4,5,6,7,8,9,10,11,12],[0,1,2,3,4,5,6,7,8,9,10,11,12,13],[0,1,2,3,4,5,6,7,8,9,10,11,12,13,14],[0,1,2,3,4,5,6,7,8,9,10,11,12,13,14,15],[0,1,2,3,4,5,6,7,8,9,10,11,12,13,14,15,16],[0,1,2,3,4,5,6,7,8,9,10,11,12,13,14,15,16,17],[0,1,2,3,4,5,6,7,8,9,10,11,12,13,14,15],[0,1,2,3,4,5,6,7,8,9,10,11,12,13,14,15,16,17,18,19],[0,1,2,3,4,5,6,7,8,9,10,11,12,13,14,15,16,17,18,19,20],[0,1,2,3,4,5,6,7,8,9,10,11,12,13,14,15,16,17,18,19,20,21],[0,1,2,3,4,5,6,7,8,9,10,11,12,13,14,15,16,17,18,19,20,21,22],[0,1,2,3,4,5,6,7,8,9,10,11,12,13,14,15,16,17,18,19,20,21,22,23],[0,1,2,3,4,5,6,7,8,9,10,11,12,13,14,15,16,17,18,19,20,21,22,23,24],[0,1,2,3,4,5,6,7,8,9,10,11,12,13,14,15,16,17,18,19,20,21,22],[0,1,2,3,4,5,6,7,8,9,10,11,12,13,14,15,16,17,18,19,20,21,22,23,24,25,26],[0,1,2,3,4,5,6,7,8,9,10,11,12,13,14,15,16,17,18,19,20,21,22,23,24,25,26,27],[0,1,2,3,4,5,6,7,8,9,10,11,12,13,14,15,16,17,18,19,20,21,22,23,24,25,26,27,28]] [3,2,5,4] [_,_,_,_] [(kv ?_),(kv ?_),(kv ?_),(kv ?_),(kv ?_),(kv ?_),(kv ?_),(kv ?_),(kv ?_),(kv ?_),(kv ?_),(kv ?_),(kv ?_),(kv ?_),(kv ?_),(kv ?_),(kv ?_),(kv ?_),(kv ?_),(fun γ=>γ 19),(kv (.bool true)),(kv ?_),(kv ?_),(kv ?_),(kv ?_),(kv ?_),(fun γ=>γ 26)] (fun γ w'=>[True,True,True,True,True,True,True,True,True,True,True,True,True,True,True,True,True,True,True,K5 w' (γ 19) (-4) 0,True,True,True,True,True,True,K5 w' (γ 26) 0 4]) Bn Aj Aj Bo Aj Bl Br ?hstep1 ?_
 case hstep1 =>
  iterate 27 refine⟨?_,?_⟩
  trivial
  iterate 19 focus
   intro γ w' he hf;clear hf;refine⟨by trivial,?_⟩;intro R hR;have hc:=he.cells;have cq0:=he.cell q0;have cq1:=he.cell q1;have cq2:=he.cell q2;have cq3:=he.cell q3;have cq4:=he.cell q4;have cq5:=he.cell q5;have cq6:=he.cell q6;have cq7:=he.cell q7;have cq8:=he.cell s0;have cq9:=he.cell s1;have cq10:=he.cell s2;have cq11:=he.cell s3;have cq12:=he.cell s4;have cq13:=he.cell s5;have cq14:=he.cell s6;have cq15:=he.cell s7
   go_simp;(try go_ints);(try(rw[if_neg Aa]));(try(rw[if_pos Aa]));(try go_simp);(try go_ints)
   refine hR _ _ (Ext.refl _) ?_ trivial;rfl
  ·intro γ w' he hf;clear hf;refine⟨rfl,?_⟩;intro R hR
   go_simp;exact Bd (Tw (-4) 0 w' Aa Aa) hR
  ·intro γ w' he hf;have f19:K5 w' (γ 19) (-4) 0:=hf 19 Ab;clear hf;refine⟨rfl,?_⟩;intro R hR
   go_simp;exact NJ (Ah.imp (Uu _ _ (-4) 0 (-4) 0 w' (HI.out.1.ext he) f19) fun _ _ h=>h) hR
  iterate 5 focus
   intro γ w' he hf;clear hf;refine⟨by trivial,?_⟩;intro R hR;have hc:=he.cells;have cq0:=he.cell q0;have cq1:=he.cell q1;have cq2:=he.cell q2;have cq3:=he.cell q3;have cq4:=he.cell q4;have cq5:=he.cell q5;have cq6:=he.cell q6;have cq7:=he.cell q7;have cq8:=he.cell s0;have cq9:=he.cell s1;have cq10:=he.cell s2;have cq11:=he.cell s3;have cq12:=he.cell s4;have cq13:=he.cell s5;have cq14:=he.cell s6;have cq15:=he.cell s7
   go_simp;(try go_ints);(try(rw[if_neg Aa]));(try(rw[if_pos Aa]));(try go_simp);(try go_ints)
   refine hR _ _ (Ext.refl _) ?_ trivial;rfl
  ·intro γ w' he hf;clear hf;refine⟨rfl,?_⟩;intro R hR
   go_simp;exact Bd (Tw 0 4 w' Aa Aa) hR
 intro γ w5 hx5 hF;have p19:K5 w5 (γ 19) (-4) 0:=AA.get hF 19 Ab;have p26:K5 w5 (γ 26) 0 4:=AA.get hF 26 Ab;clear hF;simp only[Bf,Nat.reduceAdd];generalize γ 19=g19 at *;generalize γ 26=g26 at *;clear γ;have H5:=Ad (Ak (HI.out.2.ext hx5) p26);clear p19 p26 q0 q1 q2 q3 q4 q5 q6 q7 s0 s1 s2 s3 s4 s5 s6 s7
 go_wp2_with fail
 refine AL (Uu _ _ 0 4 0 4 _ H5.out.1 H5.out.2) ?_;rintro r6 w6 rfl hx6;have hx7:=(hx.trans hx5).trans hx6;have hd:decide ((0:Rat)=0∧(4:Rat)=4)=true:=decide_eq_true ⟨rfl,rfl⟩;rw[hd];clear hx hx5 hx6 hd;go_wp2
 go_ret
 exact Ah.mk rfl hx7
end Go.Proofs.YtmhgnigpmompmaaGreat
