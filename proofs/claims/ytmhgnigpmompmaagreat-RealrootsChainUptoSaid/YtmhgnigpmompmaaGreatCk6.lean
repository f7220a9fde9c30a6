/- The statement RealrootsChain holds for arguments of bulk at most 1048576 (its '..Upto' form): for every such polynomial the law returns true, and the argument reads afterwards as before. -/
import Derived.Test.YtmhgnigpmompmaaGreatCk1
import Derived.Test.YtmhgnigpmompmaaGreatCk2
import Derived.Test.YtmhgnigpmompmaaGreatCk3
import Derived.Test.YtmhgnigpmompmaaGreatCk4
import Derived.Test.YtmhgnigpmompmaaGreatCk5
import Derived.Test.YtmhgnigpmompmaaGreatRows
import Derived.WalkKit
import Derived.ProofKit
import Derived.OpenShut
import Derived.ShutString
import Derived.ChangeOld
import Derived.Below
import Derived.JoinedCond
set_option linter.unusedVariables false
set_option linter.unusedSimpArgs false
namespace Go.Hp
open Go.RowKit
def RD(l:List Jp):Prop:=l.length≤1048576∧∀ x∈l,x.2.length≤1048576
end Go.Hp
namespace Go.Proofs.YtmhgnigpmompmaaGreat
open Go.RowKit Go.Hp Go.Deep Go.ChangeShapes Go.ChangeAt
theorem XL{H:Type}(d:DataW H):1≤Rows.uptoBulk d:=by
 cases d with
 | lit l=>cases l<;>simp[Rows.uptoBulk]
 | nil=>simp[Rows.uptoBulk]
 | ptr d=>simp[Rows.uptoBulk]
 | slice elems spare=>simp[Rows.uptoBulk]
 | agg parts=>simp[Rows.uptoBulk]
 | iface t d=>simp[Rows.uptoBulk]
 | map entries=>simp[Rows.uptoBulk]
 | held h=>simp[Rows.uptoBulk]
theorem KV{H:Type}{d:DataW H}{l:List (DataW H)}(h:d∈l):Rows.uptoBulk d≤Rows.uptoBulkAll l:=by
 induction l with
 | nil=>cases h
 | cons x r ih =>
  simp only[Rows.uptoBulkAll];cases List.mem_cons.1 h with
  | inl e=>subst e;omega
  | inr e=>have:=ih e;omega
theorem Qv{H:Type}(l:List (DataW H)):l.length≤Rows.uptoBulkAll l:=by
 induction l with
 | nil=>simp[Rows.uptoBulkAll]
 | cons x r ih=>have:=XL x;simp only[Rows.uptoBulkAll,List.length_cons];omega
section
variable{H:Type}{enc:TypeId×Value→H}{w:World}{spare:Nat→Bool}{held:Bool}
theorem SA{fuel:Nat}{cs:List Value}{x:DataW H×List MemPlace}(h:DataW.trod enc Tryz.prog w 0 spare held fuel 24 cs=some x):∃ A n c,cs=[.slice A n c]∧n≤Rows.uptoBulk x.1:=by
 rcases open_ints Tryz.underlying24 Tryz.underlying113 FE h with⟨rfl,_⟩ | ⟨a,n,c,zs,rfl,_,hl,hm,hz,rfl,hcell,hwz⟩
 ·exact⟨none,0,0,rfl,Aa⟩
 ·have hzl:n≤zs.length:=by rw[hz];split<;>omega
  refine⟨some a,n,c,rfl,?_⟩;have h1:=Qv (H:=H) (lits .u32 (zs.take n));have h2:(lits (H:=H) .u32 (zs.take n)).length=n:=by simp[lits];omega
  simp only[Rows.uptoBulk];omega
set_option maxRecDepth 100000 in
theorem SC{fuel:Nat}{cs:List Value}{x:DataW H×List MemPlace}(h:DataW.trod enc Tryz.prog w 0 spare held fuel 26 cs=some x):∃ b A n c,cs=[b,.slice A n c]∧n≤Rows.uptoBulk x.1:=by
 obtain⟨y0,y1,n,rfl,hl,h0,h1⟩:=trod_struct2 Tryz.underlying26 h;rw[show Tryz.prog.cellsOf 26=2 from by kernel_rfl]at hl
 match cs,hl with
 | [c0,c1],_ =>
  rw[show Tryz.prog.cellsOf 24=1 from by kernel_rfl]at h1;obtain⟨A,m,c,e1,hd⟩:=SA h1;simp at e1;subst e1;refine⟨c0,A,m,c,rfl,?_⟩;have:=KV (d:=y1.1) (l:=[y0.1,y1.1]) Ac;simp only[Rows.uptoBulk];omega
set_option maxRecDepth 100000 in
theorem Ug{T fuel:Nat}{v:Value}{x:DataW H×List MemPlace}(hT:Tryz.prog.underlying T=some (.slice 26))(h:DataW.trod enc Tryz.prog w 0 spare held fuel T v.cells.toList=some x)(hv:∃ a n c,v = .slice a n c){l:List Jp}(hp:E8 w v l)(hb:Rows.uptoBulk x.1≤1048576):RD l:=by
 obtain⟨a0,n0,c0,rfl⟩:=hv;obtain⟨A,cc,e1,g2,g3,g4⟩:=hp;rcases open_slice hT h with⟨hcs,_⟩ | ⟨a,n,c,m,k,D,Pl,hcs,_,hl,hm,hmm,rfl,hel⟩
 ·simp[Value.cells]at hcs
  obtain⟨rfl,rfl,rfl⟩:=hcs;have hl0:l=[]:=by injection e1 with _ h2 _;exact List.eq_nil_of_length_eq_zero h2.symm
  subst hl0;exact⟨Ac,fun x hx=>by simp at hx⟩
 ·simp[Value.cells]at hcs
  obtain⟨rfl,rfl,rfl⟩:=hcs;have hnl:n0=l.length:=by injection e1
  have hAa:A=some a:=by injection e1 with h1;exact h1.symm
  have hnm:n0≤m:=by rw[hmm];split<;>omega
  rw[show Tryz.prog.cellsOf 26=2 from by kernel_rfl]at hel;simp only[Rows.uptoBulk]at hb;have hlen:=Qv (H:=H) ((List.range n0).map D);simp only[List.length_map,List.length_range]at hlen;refine⟨Aa,fun r hr=>?_⟩;obtain⟨j,hj,rfl⟩:=List.getElem_of_mem hr;obtain⟨g,o,hA2,_,hc⟩:=g4 Aa;obtain⟨cs,q1,q2,q3⟩:=hc j hj;obtain⟨cs',h1,h2⟩:=hel j Aa;obtain⟨_,h5,h6⟩:=World.cells?_some h1;rw[hAa]at hA2;injection hA2 with hA2
  subst hA2;have hD:=KV (d:=D j) (l:=(List.range n0).map D) (List.mem_map.2 ⟨j,List.mem_range.2 Aa,rfl⟩);obtain⟨b,A1,m1,c1,rfl,k1⟩:=SC h2;obtain⟨s,eq,B1,d1,e2,dv⟩:=q3;subst e2;obtain rfl:=RN eq;have t1:=q2 1 Aa;have u1:=h6 1 Aa;rw[JM,JM]at u1;rw[t1]at u1;simp at u1;have k1':m1≤Rows.uptoBulk (D j):=k1;omega
end
end Go.Proofs.YtmhgnigpmompmaaGreat
namespace Go.Hp
open Go.RowKit
theorem FI.chnF{F:Nat→Rat}(h:FI F):LQ F 1 (pl F+pl (pd F)) 16384:=by
 have h3:=NE h.f;have h4:=AY h.f h.n0;have hD:pl F+pl (pd F)≤13:=by have:=h.p;omega
 have hp:2^(pl F+pl (pd F))≤2^13:=Nat.pow_le_pow_right Ab hD;have hm:(pl F+pl (pd F)+1)*(16384+1)≤14*16385:=Nat.mul_le_mul_right _ Aa;exact⟨h.z,h.f,h.q,fun i=>Gc (EM h.z) Ab (Nat.lt_of_le_of_lt (RL h.z h.f (n:=6) (by have:=h.p;omega) h.b i) Ab),rfl,Aa,Aa,Aa⟩
theorem FI.k{F:Nat→Rat}(h:FI F):Nv F (pd F) (kn F)∧kn F≤8:=by
 obtain⟨K,q1,q2⟩:=IC h.f (BS h.f) h.z (EM h.z) h.chnF.s h.chnF.d;rw[q1.kn];have h3:=NE h.f;have:=h.p;exact⟨q1,Aa⟩
end Go.Hp
namespace Go.Proofs.YtmhgnigpmompmaaGreat
open Go.RowKit Go.Hp
theorem RG(v u:Value)(x:Int)(w:World)(hv:AC w v x)(hu:AC w u x):Calls Tryz.prog 29 #[v,u] w (Ad w fun r _=>r = .bool true):=
 Ad.imp (O0 v u x x w hv hu) fun r _ h=>by rw[h];simp
set_option maxRecDepth 20000 in
set_option maxHeartbeats 8000000 in
theorem UY(v0:Value)(l0:List Jp)(w:World)(h0:E8 w v0 l0)(hB:RD l0) :
  Calls Tryz.prog 5 #[v0] w (Ad w fun r _=>r = .bool true):=by
 have H0:=Lib.hid h0;have PB:=Lib.hid (h0.has hB.2).1;have hlB:(l0.map YR).length≤1048576:=by simpa using hB.1
 obtain⟨A0,c0,rfl,k1,k2⟩:=h0.len;clear h0 hB;have hll0:(l0.map YR).length=l0.length:=by simp
 obtain⟨m0,hm0⟩:∃ m0,m0=l0.map YR:=⟨_,rfl⟩
 rw[←hm0]at PB hlB hll0;rw[←hll0]at k1 PB ⊢;clear hm0 hll0 H0;have hp0:=BB (Cb m0)
 go_enter Tryz.func5,Tryz.ntmps5
 go_wp2_with fail
 refine Calls.mono (VM _) ?_;rintro e w1 ⟨r,rfl,rfl,hx⟩
 go_wp2_with fail
 refine Calls.mono (YJ w1.heap.size 1 [(.slice A0 m0.length c0,m0)] _ Ac Ac (Rl w1 _ (PB.out.ext hx) rfl)) ?_;rintro e w2 ⟨r2,rfl,⟨b,rfl,hb⟩,hx2⟩;replace hx:=hx.trans hx2.a1;clear hx2;have Hb:=Lib.hid hb;clear hb;cases b with
 | false =>
  go_wp2
  go_ret
  exact Ad.mk rfl hx
 | true =>
 have HL:=Lib.hid (Hb.out rfl (.slice A0 m0.length c0,m0) Ac);clear Hb;have hdg:∀ X,Ext w X→Calls Tryz.prog 15 #[.slice A0 m0.length c0] X (Ad X fun r _=>r = .int .i64 ((pl (cz m0):Int) - 1)):=fun X x=>J5 _ m0 X (PB.out.ext x) Aa;have HD:=Lib.hid hdg;clear hdg
 go_wp2_with fail
 refine Calls.mono (HD.out _ hx) ?_;rintro e w3 ⟨r3,rfl,rfl,hx3⟩;replace hx:=hx.trans hx3;clear hx3;by_cases hz:pl (cz m0)=0
 ·rw[hz]
  go_wp2
  go_ret
  exact Ad.mk rfl hx
 have hlt:¬ ((pl (cz m0):Int) - 1 < 0):=by omega
 have hlite:=HL.out.lite (fun e=>hz (by rw[e,BV]));have hl12:=HL.out.1;have hk:=hlite.k;have HT:=Lib.hid hlite;clear hlite;obtain⟨K,hK⟩:∃ K,K=kn (cz m0):=⟨_,rfl⟩
 have hK8:K≤8:=by rw[hK];exact hk.2
 have HK:=Lib.hid (And.intro hK hk.1);clear hK hk;generalize (pl (cz m0):Int) - 1=dg at *;clear hz hp0
 go_wp2_with fail
 refine Calls.mono (XM _ m0 1 _ 16384 _ (PB.out.ext hx) Aa (fun _=>HT.out.chnF)) ?_;rintro e w4 ⟨r4,rfl,⟨c4,us,e4,hP,-⟩,hx4⟩;rw[HT.out.err]at e4;subst e4;have hP:=hP HT.out.err;rw[←HK.out.1]at hP;have hlen:(F4 (cz m0) (pd (cz m0)) K).length=K:=Co _ _ _;obtain⟨C4,cc4,rfl⟩:=hP.shape;rw[hlen]at hP ⊢;have HP:=Lib.hid hP;clear hP;replace hx:=hx.trans hx4;clear hx4
 go_wp2_with fail
 refine Calls.mono (WW _ m0 _ 32768 _ (PB.out.ext hx) Aa (fun _=>HT.out.pg)) ?_;rintro e w5 ⟨r5,rfl,⟨z5,e5,hz5,-⟩,hx5⟩;rw[HT.out.err]at e5;subst e5;have hz5:=hz5 HT.out.err;obtain⟨b5,B5,n5,c5,rfl⟩:=hz5.cells;obtain⟨W6,eW6,eb,y6⟩:=Be.made w5 26 #[.bool b5,.slice B5 n5 c5] (by simp[Ag]);have HB:=Lib.hid (hz5.kd y6.kd);clear hz5;have HP6:=Lib.hid (HP.out.ext (hx5.trans y6));clear HP;have x56:=hx5.trans y6
 replace hx:=hx.trans x56;clear x56
 go_upto_region 7 with(fail)
 rw[←eW6];clear eW6 hx5 y6;generalize w5.heap.size=gb at *
 go_wp2_with fail
 refine Calls.mono (X7 _ m0 1 _ 16384 _ (PB.out.ext hx) HT.out.n0 Aa HT.out.q HT.out.chnF.d rfl HT.out.chnF.m HT.out.chnF.b HT.out.chnF.D9) ?_;rintro e w7 ⟨r7,rfl,⟨us7,K7,hK7,-,hP7⟩,hx7⟩;have eK:K7=K:=by rw[HK.out.1];exact hK7.uniq HK.out.2
 subst eK;obtain⟨C7,cc7,rfl⟩:=hP7.shape;rw[hlen]at hP7 ⊢;have HP7:=Lib.hid (And.intro (HP6.out.ext hx7) hP7);clear HP6 hP7 hK7;have HB7:=Lib.hid (HB.out.ext_ hx7);clear HB;replace eb:=eb.ext hx7;replace hx:=hx.trans hx7;clear hx7;have hbd:∀ X,Ext w X→Calls Tryz.prog 30 #[.slice A0 m0.length c0] X (Ad X fun r w'=>AC w' r (2^bx (cz m0))):=fun X x =>
  Ad.imp (X4 _ m0 1 X (PB.out.ext x) HT.out.n0 HT.out.q Aa Aa) fun _ _ ⟨j,h1,h2⟩=>by rw[←h1.bx];exact h2
 have HBD:=Lib.hid hbd;clear hbd;obtain⟨ceb0,ceb1⟩:=eb.cells2;have feb:=eb.frozen
 go_upto_region 8 with(fail)
 go_cut [51] (fun bv wx=>bv = .bool false∧Ext w7 wx)
 case first =>
  refine Ae 17 [32,33,34,35,36,37,38,39,40,41,42,43,44,45,46,47,48] [[],[0],[0,1],[0,1,2],[0,1,2,3],[0,1,2,3,4],[0,1,2,3,4,5],[0,1,2,3,4,5,6],[0,1,2,3,4,5,6,7],[0,1,2,3,4,5,6],[0,1,2,3,4,5,6,9],[0,1,2,3,4,5,6,7,8,9,10],[0,1,2,3,4,5,6,7,8,9,10,11],[0,1,2,3,4,5,6,7,8,9,10,11,12],[0,1,2,3,4,5,6,7,8,9,10,11,12,13],[0,1,2,3,4,5,6,7,8,9,10,11,12,13],[0,1,2,3,4,5,6,7,8,9,10,11,12,13,15],[0,1,2,3,4,5,6,7,8,9,10,11,12,13,14,15,16],[0,1,2,3,4,5,6,7,8,9,10,11,12,13,14,15,16,17],[0,1,2,3,4,5,6,7,8,9,10,11,12,13,14,15,16,17,18]] [4,6,3,7,5,0] [_,_,_,_,_,_] [(kv ?_),(kv ?_),(kv ?_),(kv ?_),(kv ?_),(kv ?_),(kv ?_),(kv ?_),(kv ?_),(kv ?_),(kv ?_),(kv ?_),(kv ?_),(kv ?_),(kv ?_),(kv ?_),(fun γ=>γ 16)] (fun γ w'=>[True,True,True,True,True,True,True,True,True,True,True,True,True,True,True,True,AC w' (γ 16) (2^bx (cz m0))]) Bd Ah Ah Bb Ah Bc Bg ?hstep1 ?_
  case hstep1 =>
   iterate 17 refine⟨?_,?_⟩
   trivial
   iterate 16 focus
    intro γ w' he hf;clear hf;refine⟨by trivial,?_⟩;intro R hR;have hc:=he.cells;have cq0:=he.cell ceb0;have cq1:=he.cell ceb1;go_simp;(try go_ints);(try(rw[if_neg Aa]));(try(rw[if_pos Aa]));(try go_simp);(try go_ints)
    refine hR _ _ (Ext.refl _) ?_ trivial;rfl
   ·intro γ w' he hf;clear hf;refine⟨rfl,?_⟩;intro R hR
    go_simp;exact AX (HBD.out w' (hx.trans he)) hR
  intro γ w8 hx8 hF;have p16:AC w8 (γ 16) (2^bx (cz m0)):=Au.get hF 16 Ab;clear hF;simp only[AZ,Nat.reduceAdd];generalize γ 16=g16 at *;clear γ
  go_wp2_with fail
  refine Calls.mono (RG _ _ _ _ (HB7.out.ext_ hx8) p16) ?_;rintro e w9 ⟨r9,rfl,rfl,hx9⟩;have hx10:=hx8.trans hx9;clear p16;go_wp2
  go_meet
  case rel=>exact⟨rfl,hx10⟩
 case rest =>
 obtain⟨rfl,hx8⟩:=hcut;clear ceb0 ceb1 feb eb HB7;have HP8:=Lib.hid (And.intro (HP7.out.1.ext hx8) (HP7.out.2.ext hx8));clear HP7;replace hx:=hx.trans hx8;clear hx8;have hpz:∀ i,i < K7→pl (C9 (cz m0) (pd (cz m0)) i)≤1099511627776:=fun i hi=>by
  have h1:=HT.out.chnF.mem HK.out.2 (C9 (cz m0) (pd (cz m0)) i) (by unfold F4;exact List.mem_map.2 ⟨i,List.mem_range.2 (by rw[←HK.out.1];exact hi),rfl⟩);have h2:=HT.out.chnF.D9;omega
 have HPZ:=Lib.hid hpz;clear hpz;go_wp2
 go_loopw [8] (fun iv wr=>∃ i:Nat,i≤K7∧iv = .int .i64 (i:Nat)∧Ext wc wr) (fun iv _=>K7 - (intOf iv).toNat)
 case atStart=>exact⟨0,Aa,rfl,Ext.refl _⟩
 case round =>
  obtain⟨i,hi,rfl,hx9⟩:=hrel;by_cases hiK:i < K7
  ·obtain⟨g1,o1,E1,d1,rfl,q0,hq⟩:=HP8.out.1.at_ (i:=i) (by rw[Co];exact hiK)
   obtain⟨g2,o2,E2,d2,rfl,s0,hs⟩:=HP8.out.2.at_ (i:=i) (by rw[Co];exact hiK);rw[OT]at q0 hq s0 hs;replace q0:=hx9.cell q0;replace s0:=hx9.cell s0;have HE:=Lib.hid (And.intro (hq.ext hx9) (And.intro (hs.ext hx9) (HPZ.out i hiK)));clear hq hs;have hiK':(i:Int) < K7:=by omega
   go_upto_region 13 with(fail)
   refine Ae 8 [58,59,60,61,62,63,64,65] [[],[],[0,1],[0,1,2],[],[],[4,5],[4,5,6],[0,1,2,3,4,5,6,7],[0,1,2,3,4,5,6,7,8]] [3,8,7] [_,_,_] [(kv ?_),(kv ?_),(kv ?_),(kv ?_),(kv ?_),(kv ?_),(kv ?_),(kv ?_)] (fun γ w'=>[True,True,True,True,True,True,True,True]) Bd Ah Ah Bb Ah Bc Bg ?hstep2 ?_
   case hstep2 =>
    iterate 8 refine⟨?_,?_⟩
    trivial
    iterate 8 focus
     intro γ w' he hf;clear hf;refine⟨by trivial,?_⟩;intro R hR;have hc:=he.cells;have cq0:=he.cell q0;have cq1:=he.cell s0;go_simp;(try go_ints);(try(rw[if_neg Aa]));(try(rw[if_pos Aa]));(try go_simp);(try go_ints)
     refine hR _ _ (Ext.refl _) ?_ trivial;rfl
   intro γ w10 hx10 hF;clear hF;simp only[AZ,Nat.reduceAdd];clear γ
   go_wp2_with fail
   refine Calls.mono (SK _ _ _ 0 0 _ (HE.out.1.ext hx10) (HE.out.2.1.ext hx10) HE.out.2.2) ?_;rintro e w11 ⟨r11,rfl,rfl,hx11⟩;have hx12:=(hx9.trans hx10).trans hx11;clear q0 s0 hx10 hx11 HE;go_wp2
   go_roundw
   case rel=>exact⟨i+1,Aa,by go_num,hx12⟩
   case measure=>simp[intOf];omega
  ·obtain rfl:i=K7:=by omega
   go_wp2
   go_ret
   exact Ad.mk rfl (hx.trans hx9)
end Go.Proofs.YtmhgnigpmompmaaGreat
namespace Go.Proofs.YtmhgnigpmompmaaGreat
open Go.ChangeShapes Go.WideShapes Go.ChangeAt Go.RowKit Go.Hp
open Go.ChangeMaps (open_string shut_string)
theorem own_:ownKnob Tryz.prog.godebug=none:=by kernel_rfl
theorem laidOut_:laidOutB Tryz.prog=true:=by kernel_rfl
set_option maxRecDepth 100000 in
theorem realrootsChain_lifted(os:Os)(started:os.Started)(H:Type)(enc:TypeId×Value→H)(F:Stop.Interp) :
  ReturnsInHanded {} Tryz.checked os 5 .any ((Rows.OpenSpec.upto Rows.realrootsChainSpec).pre6 enc Tryz.prog Tryz.f5 Rows.realrootsChainUptoRow.domain false) (((Rows.OpenSpec.upto Rows.realrootsChainSpec).at F).post enc Tryz.prog Tryz.f5 false true false false):=by
 refine returnsInHanded_of_cond (C:=Tryz.checked) (s:=Rows.OpenSpec.upto Rows.realrootsChainSpec) (k:=Rows.uptoSmall) rfl own_ started FE Tryz.func5
  (OpenSpec.witness (enc:=enc) (C:=Tryz.checked) (s:=Rows.OpenSpec.upto Rows.realrootsChainSpec) (k:=Rows.uptoSmall) rfl false ⟨#[],#[.slice none 0 0],[]⟩ 8 FE FE FE
   (x:=([.nil],[],[])) FE rfl FE) ?_
 intro W base args ds gs before hval hW _ hk _;have hW':=hW;obtain⟨p,q,hA0,hV,rfl,hfz,hnd⟩:=hW;have hA:DataW.TrodAll enc Tryz.prog W 0 (fun _=>true) true Tryz.f5.params.toList args.toList ds p:=hA0;rw[Tryz.params5]at hA hval;obtain⟨v0,d0,hargs,rfl,h0⟩:=trodAll_one hA;obtain rfl:args=#[v0]:=by cases args;simp_all
 obtain⟨rfl,rfl⟩:=trodVars_none hV;have lt0:∀ x∈p,x.block < W.heap.size:=by obtain⟨m,hm⟩:=h0;exact DataW.trod_lt m _ _ _ hm
 have hkk:=of_decide_eq_true hk;have hb0:Rows.uptoBulk d0≤1048576:=Nat.le_trans (KV (d:=d0) (l:=[d0] ++ []) Ac) hkk;obtain⟨l0,w0,b0⟩:∃ l,E8 W v0 l∧RD l:=by
  obtain⟨m,hm⟩:=h0;have hs:=okWide_slice Tryz.underlying23 (hval 0 23 v0 rfl rfl);obtain⟨l,hl⟩:=SQ Tryz.underlying23 hm hs;exact⟨l,hl,Ug Tryz.underlying23 hm hs hl hb0⟩
 clear hA0 hkk hk;refine(UY v0 l0 W w0 b0).mono fun e W' ⟨v,he,hv,bel⟩=>?_;subst he hv;exact⟨_,rfl,_,_,_,[],_,[],hW',trodAll_mk1 (shut_bool Tryz.underlying4 _),(trodAll_cons_mk (Below.trod laidOut_ FE (of_decide_eq_true FE) h0 bel lt0) trodAll_mk0),rfl,bel.frame _,fun h=>by cases h⟩
theorem realrootsChain_over:Rows.realrootsChainUptoRow.holds Tryz.pinned (Rows.OpenSpec.upto Rows.realrootsChainSpec):=
 OpenClaim.holds_of_cond 5 Tryz.f5 rfl rfl rfl rfl rfl rfl rfl ⟨rfl,rfl,rfl,rfl,rfl⟩ rfl rfl rfl rfl rfl FE Tryz.func5 FE
  (of_decide_eq_true FE) (by unfold Func.isWrapper;first | (rw[if_pos (by decide +kernel)];kernel_rfl) | (rw[if_neg (by decide +kernel)];exact⟨rfl,rfl⟩))
  (fun os started H enc _ F=>realrootsChain_lifted os started H enc F)
theorem realrootsChain_proved:Rows.RealrootsChainUptoSaid:=realrootsChain_over
end Go.Proofs.YtmhgnigpmompmaaGreat
