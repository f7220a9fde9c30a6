/- The statement RealrootsCounts holds for arguments of bulk at most 1048576 (its '..Upto' form): for every such polynomial, interval and fraction the law returns true, and the arguments read afterwards as before. -/
import Derived.Test.YtmhgnigpmompmaaGreatCv1
import Derived.Test.YtmhgnigpmompmaaGreatCv2
import Derived.Test.YtmhgnigpmompmaaGreatCv3
import Derived.Test.YtmhgnigpmompmaaGreatCv4
import Derived.Test.YtmhgnigpmompmaaGreatCv5
import Derived.Test.YtmhgnigpmompmaaGreatRows
import Derived.WalkKit
import Derived.ProofKit
import Derived.OpenShut
import Derived.ShutString
import Derived.ChangeOld
import Derived.Below
import Derived.JoinedCond
set_option linter.unusedVariables false
set_option linter.unusedSimpArgs false
set_option maxHeartbeats 16000000
namespace Go.Hp
open Go.RowKit
def MO(w:World)(g:Nat)(vs:List (Value×List Int)):Prop:=∀ j (h:j < vs.length),w.cell? ⟨g,j,none⟩=some vs[j].1∧Dt 0 w vs[j].1 vs[j].2
theorem MO.ext{w w':World}{g:Nat}{vs:List (Value×List Int)}(h:MO w g vs)(e:Ext w w'):MO w' g vs:=fun j hj=>⟨e.cell (h j hj).1,(h j hj).2.ext e⟩
def Q3(m:List Int):Prop:=m.length≤12∧pl (cz m)≤7∧∀ i,(cz m i).num.natAbs≤4095
def eF(vs:List (Value×List Int))(r:Value):Prop:=∃ b:Bool,r = .bool b∧(b=true→∀ p∈vs,Q3 p.2)
theorem Q3.lite{m:List Int}(h:Q3 m)(h0:cz m≠pz):Em (cz m):=⟨ZI.cz m,Af.cz m,h0,h.2.1,h.2.2⟩
theorem SG(w:World)(t:TypeId){v:Value}{l:List Int}(h:Dt 0 w v l){g:Nat}(hg:g=w.heap.size):MO (w.alloc (.cells #[v] t)) g [(v,l)]:=by
 subst hg;intro j hj;obtain rfl:j=0:=by simpa using hj
 exact⟨by rw[cell_of_row _ w.heap.size 0 _ t (0,0) (heap_alloc_new w _)];rfl,h.ext ((Ext.refl w).alloc _)⟩
end Go.Hp
namespace Go.Proofs.YtmhgnigpmompmaaGreat
open Go.RowKit Go.Hp
set_option maxRecDepth 20000 in
theorem ZM(g c:Nat)(vs:List (Value×List Int))(w:World)(hn:vs.length≤1000)(hc:vs.length≤c)(hv:MO w g vs) :
  Bh 13 #[.slice (some ⟨g,0,none⟩) vs.length c] w (fun r _=>eF vs r):=by
 have HV:=Ad hv;clear hv
 go_enter Tryz.func13,Tryz.ntmps13
 go_wp2
 go_loopw [3] (fun iv wr=>∃ i:Nat,i≤vs.length∧iv = .int .i64 (i:Nat)∧(∀ j (h:j < vs.length),j < i→Q3 vs[j].2)∧Ext w wr) (fun iv _=>vs.length - (intOf iv).toNat)
 case atStart=>exact⟨0,Nat.zero_le _,rfl,fun j h h'=>Aa,Ext.refl _⟩
 case round =>
  obtain⟨i,hi,rfl,hst,hx⟩:=hrel;have Hst:=Ad hst;clear hst;by_cases hil:i < vs.length
  ·obtain⟨q0,hp⟩:=HV.out i hil
   obtain⟨A1,c1,e1⟩:=hp.len;rw[e1]at q0 hp;obtain⟨l,hl⟩:∃ l,l=vs[i].2:=⟨_,rfl⟩
   rw[←hl]at q0 hp;have Hl:=Ad (Ak hl hp);clear hl hp e1;have q:=hx.cell q0;by_cases hlong:12 < l.length
   ·skip
    go_wp2
    go_ret
    exact Ah.mk ⟨false,rfl,fun h=>by cases h⟩ hx
   ·have hd:∀ X,Ext w X→Bh 15 #[.slice A1 l.length c1] X (fun r _=>r = .int .i64 ((pl (cz l):Int) - 1)):=fun X x=>Fw _ l X (Hl.out.2.ext x) Aa
    have HD:=Ad hd;clear hd;have hpl:pl (cz l)≤l.length:=Bq (BK l)
    go_wp2_with fail
    refine AL (HD.out _ hx) ?_;rintro r2 w2 rfl hx2;replace hx:=hx.trans hx2;have q:=hx.cell q0;clear hx2;by_cases hdeg:7 < pl (cz l)
    ·skip
     go_wp2
     go_ret
     exact Ah.mk ⟨false,rfl,fun h=>by cases h⟩ hx
    ·go_wp2
     go_loopw [4] (fun kv wk=>∃ k:Nat,k≤l.length∧kv = .int .i64 (k:Nat)∧(∀ j,j < k→(cz l j).num.natAbs≤4095)∧Ext w wk) (fun kv _=>l.length - (intOf kv).toNat)
     case atStart=>exact⟨0,Nat.zero_le _,rfl,fun j h=>Aa,hx⟩
     case round =>
      clear hx q;obtain⟨k,hk,rfl,hsm,hx⟩:=hrel;have Hsm:=Ad hsm;clear hsm;have q:=hx.cell q0;by_cases hkl:k < l.length
      ·obtain⟨g',o',b1,B1,m1,d1,e3,-,r0,r1,hz⟩:=(Hl.out.2.ext hx).at_ hkl
       cases e3;obtain⟨y,hy⟩:∃ y,y=l[k]:=⟨_,rfl⟩
       rw[←hy]at hz;have Hy:=Ad (Ak hz (show cz l k=(y:Rat) by rw[Ch hkl,hy]));clear hz hy
       go_wp2_with fail
       refine AL (WH _ y _ Hy.out.1) ?_;rintro r3 w3 ⟨b,rfl,hbl⟩ hx3;have HB:=Ad hbl;clear hbl r0 r1 q;replace hx:=hx.trans hx3;have q:=hx.cell q0;clear hx3;by_cases hb:12 < b
       ·skip
        go_wp2
        go_ret
        exact Ah.mk ⟨false,rfl,fun h=>by cases h⟩ hx
       ·go_wp2
        go_roundw
        case rel=>exact⟨k+1,Aa,by go_num,fun j h1=>by
         rcases Nat.lt_or_ge j k with h | h
         ·exact Hsm.out j h
         ·obtain rfl:j=k:=by omega
          rw[Hy.out.2];have h2:=HB.out.1;have h3:2^b≤2^12:=Nat.pow_le_pow_right Ab Aa;show y.natAbs≤4095;omega,hx⟩
        case measure=>simp[intOf]<;>omega
      ·obtain rfl:k=l.length:=by omega
       go_wp2
       go_roundw
       case rel=>exact⟨i+1,Aa,by go_num,fun j h1 h2=>by
        rcases Nat.lt_or_ge j i with h | h
        ·exact Hst.out j h1 h
        ·obtain rfl:j=i:=by omega
         rw[←Hl.out.1];exact⟨Aa,Aa,fun i=>by
          rcases Nat.lt_or_ge i l.length with h | h
          ·exact Hsm.out i h
          ·rw[Iw h];decide⟩,hx⟩
       case measure=>simp[intOf]<;>omega
  ·obtain rfl:i=vs.length:=by omega
   go_wp2
   go_ret
   exact Ah.mk ⟨true,rfl,fun _ p hp=>by
    obtain⟨j,hj,rfl⟩:=List.getElem_of_mem hp;exact Hst.out j hj hj⟩ hx
set_option maxRecDepth 20000 in
theorem Yp(v:Value)(l:List Int)(s:Nat)(w:World)(hv:Dt 0 w v l)(h0:cz l≠pz)(hs:∀ i,qsz (cz l i)≤s)(hs9:s≤1000000)(hn:l.length≤1000) :
  Bh 30 #[v] w (fun r w'=>∃ j,P2 (Et (cz l) (pl (cz l) - 1)+1) j∧AO w' r (2^j)):=by
 have fF:Af (cz l):=⟨_,BK l⟩
 have hp:=Be fF h0;have hpl:pl (cz l)≤l.length:=Bq (BK l);have hld:ld (cz l)=((ld (cz l)).num:Rat):=RB (ZI.cz l);have hls:qsz (ld (cz l))≤s:=hs _;have HV:=Ad hv;have HA0:=Ad (Ak hpl (Ak hld (Ak hls (Ak hs h0))));obtain⟨A,c,rfl⟩:=hv.len;clear hv
 go_enter Tryz.func30,Tryz.ntmps30
 obtain⟨W1,eW1,ez,y1⟩:=Bj.made w 26 #[.bool false,.slice none 0 0] (by simp[Ag])
 go_upto_region 1 with(fail)
 rw[←eW1];clear eW1;have hx:=y1
 go_wp2_with fail
 refine AL (KG _ l _ (HV.out.ext hx) Aa) ?_;rintro r2 w2 hr2 hx2;obtain⟨b5,A5,n5,c5,rfl⟩:=hr2.cells;replace ez:=ez.ext hx2;replace hx:=hx.trans hx2;clear hx2;obtain⟨W3,eW3,ed,y3⟩:=Bj.made w2 26 #[.bool b5,.slice A5 n5 c5] (by simp[Ag]);have hd:=Bg.mk ed (hr2.ext_ y3);have hgd:=ez.lt;replace ez:=ez.ext y3;replace hx:=hx.trans y3;clear y3;clear hr2 ed
 go_upto_region 2 with(fail)
 rw[←eW3];clear eW3;generalize w2.heap.size=gd at *
 go_wp2_with fail
 refine AL (MI 0 _ Aa Aa) ?_;rintro r4 w4 hr4 hx4;obtain⟨b7,A7,n7,c7,b8,A8,n8,c8,rfl⟩:=hr4.cells;replace ez:=ez.ext hx4;replace hd:=hd.ext hx4;replace hx:=hx.trans hx4;clear hx4;obtain⟨W6,eW6,el,y6⟩:=Bj.made w4 28 #[.bool b7,.slice A7 n7 c7,.bool b8,.slice A8 n8 c8] (by simp[Ag]);have hl:=CK.mk el (hr4.ext y6);have hgl:=hd.lt;replace ez:=ez.ext y6;replace hd:=hd.ext y6;replace hx:=hx.trans y6;clear y6
 clear hr4 el
 go_upto_region 3 with(fail)
 rw[←eW6];clear eW6;generalize w4.heap.size=gl at *;obtain⟨N,hN⟩:∃ N,pl (cz l)=N+1:=⟨pl (cz l) - 1,Aa⟩
 have e1:Et (cz l) 0=((0:Int):Rat):=rfl;rw[←e1]at hl;have HN:=Ad hN;have hN9:N < 1000:=by omega
 clear hN hp e1 hpl hld hls hs h0;have hdeg:∀ W (x:Ext w W),Bh 15 #[.slice A l.length c] W (fun r _=>r = .int .i64 (N:Nat)):=fun W x=>by
  refine Ah.imp (Fw _ l W (HV.out.ext x) Aa) fun r _ h=>?_;rw[h,HN.out];congr 1;omega
 have HD:=Ad hdeg;clear hdeg;go_wp2
 go_loopw [5] (fun iv wr=>∃ i:Nat,i≤N∧iv = .int .i64 (i:Nat)∧CK wr gl 28 (Et (cz l) i)∧Bg wr gd 26 (ld (cz l)).num∧Bj wr w.heap.size 26 #[.bool false,.slice none 0 0]∧Ext w wr) (fun iv _=>N - (intOf iv).toNat)
 case atStart=>exact⟨0,Aa,rfl,hl,hd,ez,hx⟩
 case round =>
  clear hl hd ez hx;obtain⟨i,hi,rfl,hl,hd,ez,hx⟩:=hrel
  go_wp2_with fail
  refine AL (HD.out _ hx) ?_;rintro r7 w7 rfl hx7;replace ez:=ez.ext hx7;replace hl:=hl.ext hx7;replace hd:=hd.ext hx7;replace hx:=hx.trans hx7;clear hx7;by_cases hiN:i < N
  ·have hlt:i < l.length:=by have:=HA0.out.1;have:=HN.out;omega
   have hli:cz l i=(l[i]:Rat):=Ch hlt;have hsi:=HA0.out.2.2.2.1 i;rw[hli]at hsi;obtain⟨g',o',b3,A3,n3,c3,e3,-,q0,q1,hq⟩:=HV.out.at_ hlt;cases e3;obtain⟨yi,hy⟩:∃ y,y=l[i]:=⟨_,rfl⟩
   rw[←hy]at hli hsi hq;have HI:=Ad (Ak hq (Ak hsi hli));clear hsi hli hy hq;replace q0:=hx.cell q0;replace q1:=hx.cell q1;obtain⟨b9,A9,n9,c9,ed,hdz⟩:=hd;have HDz:=Ad hdz;clear hdz;have hez7:=ez.lt;have hgl7:=hl.lt;have hgd7:=ed.lt;obtain⟨ced0,ced1⟩:=ed.cells2;have fed:=ed.frozen
   go_upto_region 6 with(fail)
   go_cut [6] (fun pv wx=>∃ gc,pv = .pointer (some ⟨gc,0,none⟩)∧CK wx gc 28 (ab (cz l i / ld (cz l)))∧w7.heap.size≤gc∧Ext w7 wx)
   case first =>
    refine Ae 8 [17,18,19,20,21,22,23,6] [[],[],[0,1],[0,1,2],[],[0,1,2,3,4],[0,1,2,3,4,5],[],[0,1,2,3,4,5,6,7]] [0,5,3] [_,_,_] [(kv ?_),(kv ?_),(kv ?_),(kv ?_),(kv ?_),(fun γ=>γ 5),(fun γ=>γ 6),(fun γ=>γ 7)] (fun γ w'=>[True,True,True,True,True,BD w' (γ 5) (Rat.divInt yi (ld (cz l)).num),BD w' (γ 6) (ab (Rat.divInt yi (ld (cz l)).num)),AZ w' (γ 7) w7.heap.size #[.bool false,.slice none 0 0,.bool false,.slice none 0 0] 28]) Bn Aj Aj Bo Aj Bl Br ?hstep1 ?_
    case hstep1 =>
     iterate 8 refine⟨?_,?_⟩
     trivial
     iterate 5 focus
      intro γ w' he hf;clear hf;refine⟨by trivial,?_⟩;intro R hR;have hc:=he.cells;have cq0:=he.cell q0;have cq1:=he.cell q1;have cq2:=he.cell ced0;have cq3:=he.cell ced1;go_simp;(try go_ints);(try(rw[if_neg Aa]));(try(rw[if_pos Aa]));(try go_simp);(try go_ints)
      refine hR _ _ (Ext.refl _) ?_ trivial;rfl
     ·intro γ w' he hf;clear hf;refine⟨trivial,?_⟩;intro R hR
      go_simp;exact Bd (Ib _ _ yi (ld (cz l)).num w' (HI.out.1.ext (hx.trans he)) ((HDz.out.ext_ he).has (by have h1:=HA0.out.2.2.1;rw[HA0.out.2.1,Bi]at h1;omega)) (by have h1:=HI.out.2.1;rw[Bi]at h1;omega) (by have h1:=HA0.out.2.2.1;rw[HA0.out.2.1,Bi]at h1;omega)) hR
     ·intro γ w' he hf;have f5:BD w' (γ 5) (Rat.divInt yi (ld (cz l)).num):=hf 5 Ab;clear hf;refine⟨trivial,?_⟩;intro R hR
      go_simp;exact Bd (fO _ _ w' (f5.has (by
     have h1:=HA0.out.2.2.1;have h2:=Fu (yi:Rat) (((ld (cz l)).num:Int):Rat);have h3:=HI.out.2.1;rw[HA0.out.2.1]at h1;rw[Rat.divInt_eq_div];omega))) hR
     ·intro γ w' he hf;clear hf;refine⟨trivial,?_⟩;intro R hR
      go_simp;exact hR _ _ ((Ext.refl _).alloc _) rfl (AZ.mk (Nat.le_trans Ac he.size) (by simp[Ag]))
    intro γ w8 hx8 hF;have p5:BD w8 (γ 5) (Rat.divInt yi (ld (cz l)).num):=AA.get hF 5 Ab;have p6:BD w8 (γ 6) (ab (Rat.divInt yi (ld (cz l)).num)):=AA.get hF 6 Ab;have p7:AZ w8 (γ 7) w7.heap.size #[.bool false,.slice none 0 0,.bool false,.slice none 0 0] 28:=AA.get hF 7 Ab;clear hF;simp only[Bf,Nat.reduceAdd];generalize γ 5=g5 at *;generalize γ 6=g6 at *;generalize γ 7=g7 at *;clear γ;obtain⟨gc,rfl,hgc,ec⟩:=p7
    obtain⟨bx,Ax,nx',cx,by',Ay,ny,cy,rfl⟩:=p6.cells;clear ced0 ced1 p5 q0 q1;obtain⟨cec0,cec1,cec2,cec3⟩:=ec.cells4;have fec:=ec.frozen;go_wp2;obtain⟨W9,eW,ec',U⟩:=ec.put4 (.bool bx) (.slice Ax nx' cx) (.bool by') (.slice Ay ny cy) rfl rfl rfl rfl;rw[←eW];clear eW ec;replace p6:=p6.kd U.kd;replace hx8:=U.from_ hx8 Ai;have ec:=ec';clear U ec';have e6:Rat.divInt yi (ld (cz l)).num=cz l i / ld (cz l):=by rw[Rat.divInt_eq_div,HI.out.2.2];congr 1;exact HA0.out.2.1.symm
    rw[e6]at p6
    go_meet
    case rel=>exact⟨gc,rfl,CK.mk ec p6,hgc,hx8⟩
   case rest =>
   obtain⟨gc,rfl,hcq,hgc,hx8⟩:=hcut;have hd:=Bg.mk ed HDz.out;clear ced0 ced1 fed q0 q1 ed HDz;replace ez:=ez.ext hx8;replace hl:=hl.ext hx8;replace hd:=hd.ext hx8;replace hx:=hx.trans hx8;clear hx8;obtain⟨bx,Ax,nx',cx,by',Ay,ny,cy,ec,hcz⟩:=hcq;obtain⟨bl,Al,nl,cl,bl',Al',nl',cl',el,hlz⟩:=hl;have hqx:qsz (ab (cz l i / ld (cz l)))≤4*s+8:=by
    rw[Lu];have h1:=Fu (cz l i) (ld (cz l));have h2:=HA0.out.2.2.1;have h3:=HA0.out.2.2.2.1 i;omega
   have hql:qsz (Et (cz l) i)≤2*s:=Jl HA0.out.2.2.2.1 (Nat.le_trans (Cg _) HA0.out.2.2.1) i;have HX:=Ad (Ak (hcz.has Aa) (Ak (hlz.has Aa) (show qsz (ab (cz l i / ld (cz l)))+qsz (Et (cz l) i) < 274877906944 by omega)));clear hqx hql;have HR:=Ad (Ak hcz hlz);clear hcz hlz;obtain⟨cec0,cec1,cec2,cec3⟩:=ec.cells4;have fec:=ec.frozen;obtain⟨cel0,cel1,cel2,cel3⟩:=el.cells4;have fel:=el.frozen
   go_wp2_with fail
   refine AL (Lf _ _ _ _ _ HX.out.1 HX.out.2.1 HX.out.2.2) ?_;rintro r13 w13 rfl hx13;clear HX cec0 cec1 cec2 cec3 fec cel0 cel1 cel2 cel3 fel;have hnext:Et (cz l) (i+1)=if Et (cz l) i < ab (cz l i / ld (cz l))then ab (cz l i / ld (cz l))else Et (cz l) i:=rfl;replace HR:=Ad (Ak (HR.out.1.ext hx13) (HR.out.2.ext hx13));replace ez:=ez.ext hx13;replace hd:=hd.ext hx13;replace ec:=ec.ext hx13;replace el:=el.ext hx13
   replace hx:=hx.trans hx13;clear hx13;by_cases hgt:Et (cz l) i < ab (cz l i / ld (cz l))
   ·have hdec:decide (FB (ab (cz l i / ld (cz l)) - Et (cz l) i) > 0)=true:=by rw[Di,decide_eq_true hgt]
    rw[if_pos hgt]at hnext;obtain⟨cec0,cec1,cec2,cec3⟩:=ec.cells4;have fec:=ec.frozen;obtain⟨cel0,cel1,cel2,cel3⟩:=el.cells4;have fel:=el.frozen
    go_upto_region 5 with(fail)
    have hr13:=HR.out.1;obtain⟨W14,eW,el',U⟩:=el.put4 (.bool bx) (.slice Ax nx' cx) (.bool by') (.slice Ay ny cy) rfl rfl rfl rfl;rw[←eW];clear eW el;replace hr13:=hr13.kd U.kd;replace ez:=ez.upd U Ai;replace hd:=hd.upd U Ai;replace hx:=U.from_ hx Ai;have el:=el';clear U el';have hl:=CK.mk el hr13;rw[←hnext]at hl;clear hdec hnext HR hr13;go_wp2
    go_roundw
    case rel=>exact⟨i+1,Aa,by go_num,hl,hd,ez,hx⟩
    case measure=>simp[intOf];omega
   ·have hdec:decide (FB (ab (cz l i / ld (cz l)) - Et (cz l) i) > 0)=false:=by rw[Di,decide_eq_false hgt]
    rw[if_neg hgt]at hnext;have hl:=CK.mk el HR.out.2;rw[←hnext]at hl;clear hnext HR;go_wp2
    go_roundw
    case rel=>exact⟨i+1,Aa,by go_num,hl,hd,ez,hx⟩
    case measure=>simp[intOf];omega
  ·obtain rfl:i=N:=by omega
   have ez11:=ez.lt;have hgl8:=hl.lt;obtain⟨bl,Al,nl,cl,bl',Al',nl',cl',el,hlz⟩:=hl;have hqm:qsz (Et (cz l) i)≤2*s:=Jl HA0.out.2.2.2.1 (Nat.le_trans (Cg _) HA0.out.2.2.1) i;have hql:qsz (Et (cz l) i+1)≤2*s+8:=by
    have h1:=EB (Et (cz l) i) 1;have h2:qsz (1:Rat)=1:=by decide
    omega
   obtain⟨J,hJ,hJ9⟩:∃ J,P2 (Et (cz l) i+1) J∧J≤32*(2*s+8)+1:=P2.qsz (by have:=EP (cz l) i;grind) hql;have HJ:=Ad (Ak hJ (show qsz (Et (cz l) i+1)≤3000000 by omega));clear hJ hql;have hJ8:J≤100000000:=by omega
   have hq1:qsz ((1:Int):Rat)=1:=by decide
   have HZ:=Ad (Ak (hlz.has Aa) (show qsz (Et (cz l) i)+qsz ((1:Int):Rat) < 549755813888 by omega));clear hlz hqm hJ9 hq1;clear hd;obtain⟨cel0,cel1,cel2,cel3⟩:=el.cells4;have fel:=el.frozen
   go_upto_region 9 with(fail)
   refine Ae 2 [29,30] [[],[],[0,1],[0,1,2]] [4] [_] [(kv ?_),(fun γ=>γ 1)] (fun γ w'=>[True,BD w' (γ 1) ((1:Int):Rat)]) Bn Aj Aj Bo Aj Bl Br ?hstep2 ?_
   case hstep2 =>
    iterate 2 refine⟨?_,?_⟩
    trivial
    iterate 1 focus
     intro γ w' he hf;clear hf;refine⟨by trivial,?_⟩;intro R hR;have hc:=he.cells;have cq0:=he.cell cel0;have cq1:=he.cell cel1;have cq2:=he.cell cel2;have cq3:=he.cell cel3;go_simp;refine hR _ _ (Ext.refl _) ?_ trivial;rfl
    ·intro γ w' he hf;clear hf;refine⟨trivial,?_⟩;intro R hR
     go_simp;exact Bd (MI 1 w' Aa Aa) hR
   intro γ w10 hx10 hF;have p1:BD w10 (γ 1) ((1:Int):Rat):=AA.get hF 1 Ab;clear hF;simp only[Bf,Nat.reduceAdd];generalize γ 1=g1 at *;clear γ
   go_wp2_with fail
   refine AL (Tv _ _ (Et (cz l) i) ((1:Int):Rat) _ (HZ.out.1.ext hx10) (p1.has Ab) HZ.out.2) ?_;rintro r11 w11 hr11 hx11;obtain⟨bz,Az,nz,cz',bw,Aw,nw,cw,rfl⟩:=hr11.cells;have x1011:=hx10.trans hx11;clear p1 cel0 cel1 cel2 cel3 fel;replace ez:=ez.ext x1011;replace el:=el.ext x1011;replace hx:=hx.trans x1011;clear x1011;clear hx10 hx11 HZ;obtain⟨cel0,cel1,cel2,cel3⟩:=el.cells4;have fel:=el.frozen
   go_upto_region 10 with(fail)
   obtain⟨W12,eW,el',U⟩:=el.put4 (.bool bz) (.slice Az nz cz') (.bool bw) (.slice Aw nw cw) rfl rfl rfl rfl;rw[←eW];clear eW el;replace hr11:=hr11.kd U.kd;replace ez:=ez.upd U Ai;replace hx:=U.from_ hx Ai;have el:=el';clear U el';have hl:=CK.mk el hr11;rw[show Et (cz l) i+((1:Int):Rat)=Et (cz l) i+1 from rfl]at hl;obtain⟨rr,hrr⟩:∃ r,r=Et (cz l) i+1:=⟨_,rfl⟩
   rw[←hrr]at HJ hl;have Hrr:=Ad hrr;clear hrr hi hiN hs9 hr11 el cel0 cel1 cel2 cel3 fel HD
   go_wp2_with fail
   refine AL (Jy 1 _ Aa Aa) ?_;rintro r14 w14 hr14 hx14;obtain⟨b11,A11,n11,c11,rfl⟩:=hr14.cells;replace ez:=ez.ext hx14;replace hl:=hl.ext hx14;replace hx:=hx.trans hx14;clear hx14;obtain⟨W15,eW15,eo,y15⟩:=Bj.made w14 26 #[.bool b11,.slice A11 n11 c11] (by simp[Ag]);have ho:=Bg.mk eo (hr14.kd y15.kd);have hgo:=hl.lt;replace ez:=ez.ext y15;replace hl:=hl.ext y15;replace hx:=hx.trans y15;clear y15;clear eo hr14
   go_wp2;rw[←eW15];clear eW15;generalize w14.heap.size=go at *
   go_loopw [33] (fun _ wr=>∃ j:Nat,j≤J∧Bg wr go 26 (2^j)∧CK wr gl 28 rr∧Bj wr w.heap.size 26 #[.bool false,.slice none 0 0]∧Ext w wr) (fun _ wr=>2^(J+1) - gP wr go 26)
   case atStart=>exact⟨0,Aa,ho,hl,ez,hx⟩
   case round =>
    clear ho hl ez hx;obtain⟨j,hj,⟨b7,A7,n7,c7,eo,hoz⟩,⟨bl,Al,nl,cl,bl',Al',nl',cl',el,hlz⟩,ez,hx⟩:=hrel;have Hoz:=Ad (Ak hoz (Ak eo hlz));clear hoz hlz;have hgl3:=el.lt;have hgo3:=eo.lt;have hjz:sz ((2:Int)^j).natAbs≤1+j:=Gc j;have hjq:qsz (((2:Int)^j:Int):Rat)≤1+j:=by rw[Bi];omega
    have HS:=Ad (Ak (show sz ((2:Int)^j).natAbs≤549755813888 by omega) (Ak (show qsz (((2:Int)^j:Int):Rat)≤274877906944 by omega) (show qsz (((2:Int)^j:Int):Rat)+qsz rr < 274877906944 by have:=HJ.out.2;omega)));clear hjz hjq;obtain⟨ceo0,ceo1⟩:=eo.cells2;have feo:=eo.frozen;obtain⟨cel0,cel1,cel2,cel3⟩:=el.cells4;have fel:=el.frozen
    go_upto_region 11 with(fail)
    refine Ae 3 [33,34,35] [[],[0],[],[0,1,2],[0,1,2,3]] [7,4] [_,_] [(kv ?_),(fun γ=>γ 1),(kv ?_)] (fun γ w'=>[True,BD w' (γ 1) (((2:Int)^j:Int):Rat),True]) Bn Aj Aj Bo Aj Bl Br ?hstep3 ?_
    case hstep3 =>
     iterate 3 refine⟨?_,?_⟩
     trivial
     iterate 1 focus
      intro γ w' he hf;clear hf;refine⟨by trivial,?_⟩;intro R hR;have hc:=he.cells;have cq0:=he.cell ceo0;have cq1:=he.cell ceo1;have cq2:=he.cell cel0;have cq3:=he.cell cel1;have cq4:=he.cell cel2;have cq5:=he.cell cel3;go_simp;refine hR _ _ (Ext.refl _) ?_ trivial;rfl
     ·intro γ w' he hf;clear hf;refine⟨trivial,?_⟩;intro R hR
      go_simp;exact Bd (IB _ _ w' ((Hoz.out.1.has (by have:=HS.out.1;omega)).ext he)) hR
     iterate 1 focus
      intro γ w' he hf;clear hf;refine⟨by trivial,?_⟩;intro R hR;have hc:=he.cells;have cq0:=he.cell ceo0;have cq1:=he.cell ceo1;have cq2:=he.cell cel0;have cq3:=he.cell cel1;have cq4:=he.cell cel2;have cq5:=he.cell cel3;go_simp;refine hR _ _ (Ext.refl _) ?_ trivial;rfl
    intro γ w16 hx16 hF;have p1:BD w16 (γ 1) (((2:Int)^j:Int):Rat):=AA.get hF 1 Ab;clear hF;simp only[Bf,Nat.reduceAdd];generalize γ 1=g1 at *;clear γ
    go_wp2_with fail
    refine AL (Lf _ _ _ rr _ (p1.has HS.out.2.1) ((Hoz.out.2.2.has (by have:=HJ.out.2;omega)).ext hx16) HS.out.2.2) ?_;rintro r17 w17 rfl hx17;generalize hm:FB ((((2:Int)^j:Int):Rat) - rr)=m;have hm1:=NL (p:=(((2:Int)^j:Int):Rat)) (q:=rr);rw[hm]at hm1;clear hm;have x1617:=hx16.trans hx17;have HO:=Ad (Ak (Hoz.out.1.ext_ x1617) (Hoz.out.2.2.ext x1617));clear p1 ceo0 ceo1 feo cel0 cel1 cel2 cel3 fel;replace ez:=ez.ext x1617
    replace eo:=eo.ext x1617;replace el:=el.ext x1617;replace hx:=hx.trans x1617;clear x1617;clear hx16 hx17;have hl:=CK.mk el HO.out.2;by_cases hjJ:j < J
    ·rw[decide_eq_true (show(((2:Int)^j:Int):Rat)≤rr by have:=HJ.out.1.2 j hjJ;rw[FX];exact this)]at hm1
     obtain⟨ceo0,ceo1⟩:=eo.cells2;have feo:=eo.frozen
     go_wp2_with fail
     refine AL (O9 _ _ _ _ _ (HO.out.1.has (by have:=HS.out.1;omega)) (HO.out.1.has (by have:=HS.out.1;omega)) HS.out.1 HS.out.1) ?_;rintro r18 w18 hr18 hx18;obtain⟨b8,A8,n8,c8,rfl⟩:=hr18.cells;clear ceo0 ceo1 feo el;replace ez:=ez.ext hx18;replace eo:=eo.ext hx18;replace hl:=hl.ext hx18;replace hx:=hx.trans hx18;clear hx18;obtain⟨ceo0,ceo1⟩:=eo.cells2;have feo:=eo.frozen;go_wp2;obtain⟨W19,eW,eo',U⟩:=eo.put2 (.bool b8) (.slice A8 n8 c8) rfl rfl
     rw[←eW];clear eW eo;replace hr18:=hr18.kd U.kd;replace ez:=ez.upd U Ai;replace hl:=hl.upd U Ai;replace hx:=U.from_ hx Ai;have eo:=eo';clear U eo';rw[show(2:Int)^j+2^j=2^(j+1) by rw[Int.pow_succ];omega]at hr18;have ho:=Bg.mk eo hr18;have hb1:=L8 ho;have hb2:=L8 (Bg.mk Hoz.out.2.1 Hoz.out.1);have hpw:2^(j+1)≤2^J:=Nat.pow_le_pow_right Ab hjJ
     go_roundw
     case rel=>exact⟨j+1,hjJ,ho,hl,ez,hx⟩
     case measure =>
      rw[hb1,hb2];rw[Int.natAbs_pow,Int.natAbs_pow];show 2^(J+1) - 2^(j+1) < 2^(J+1) - 2^j;have h1:2^(J+1)=2*2^J:=Nat.pow_succ';have h2:2^(j+1)=2*2^j:=Nat.pow_succ';have h3:=Nat.two_pow_pos j;omega
    ·obtain rfl:j=J:=by omega
     rw[decide_eq_false (show ¬ (((2:Int)^j:Int):Rat)≤rr by have:=HJ.out.1.1;rw[FX];grind)]at hm1;obtain⟨ceo0,ceo1⟩:=eo.cells2;have feo:=eo.frozen;obtain⟨cez0,cez1⟩:=ez.cells2;have fez:=ez.frozen
     go_upto_region 13 with(fail)
     have hr:=HO.out.1;go_wp2;obtain⟨W3,eW,ez',U⟩:=ez.put2 (.bool b7) (.slice A7 n7 c7) rfl rfl;rw[←eW];clear eW ez;replace hr:=hr.kd U.kd;replace hx:=U.from_ hx Ai;have ez:=ez';clear U ez';clear ceo0 ceo1 feo cez0 cez1 fez;obtain⟨cez0,cez1⟩:=ez.cells2;have fez:=ez.frozen;refine bodyPost_ret (v := .agg #[.bool b7,.slice A7 n7 c7]) (by simp[results,Tryz.results30,go_sem,cez0,cez1]) rfl ?_;have hfin:=HJ.out.1
     rw[Hrr.out]at hfin;exact Ah.mk ⟨j,by rw[HN.out];exact hfin,hr⟩ hx
end Go.Proofs.YtmhgnigpmompmaaGreat
namespace Go.Hp
open Go.RowKit
def Sz(l:List JQ):Prop:=l.length≤1048576∧∀ x∈l,x.2.length≤1048576
end Go.Hp
namespace Go.Proofs.YtmhgnigpmompmaaGreat
open Go.RowKit Go.Hp Go.Deep Go.ChangeShapes Go.ChangeAt
theorem Xm{H:Type}(d:DataW H):1≤Rows.uptoBulk d:=by
 cases d with
 | lit l=>cases l<;>simp[Rows.uptoBulk]
 | nil=>simp[Rows.uptoBulk]
 | ptr d=>simp[Rows.uptoBulk]
 | slice elems spare=>simp[Rows.uptoBulk]
 | agg parts=>simp[Rows.uptoBulk]
 | iface t d=>simp[Rows.uptoBulk]
 | map entries=>simp[Rows.uptoBulk]
 | held h=>simp[Rows.uptoBulk]
theorem DT{H:Type}{d:DataW H}{l:List (DataW H)}(h:d∈l):Rows.uptoBulk d≤Rows.uptoBulkAll l:=by
 induction l with
 | nil=>cases h
 | cons x r ih =>
  simp only[Rows.uptoBulkAll];cases List.mem_cons.1 h with
  | inl e=>subst e;omega
  | inr e=>have:=ih e;omega
theorem Qx{H:Type}(l:List (DataW H)):l.length≤Rows.uptoBulkAll l:=by
 induction l with
 | nil=>simp[Rows.uptoBulkAll]
 | cons x r ih=>have:=Xm x;simp only[Rows.uptoBulkAll,List.length_cons];omega
section
variable{H:Type}{enc:TypeId×Value→H}{w:World}{spare:Nat→Bool}{held:Bool}
theorem RZ{fuel:Nat}{cs:List Value}{x:DataW H×List MemPlace}(h:DataW.trod enc Tryz.prog w 0 spare held fuel 24 cs=some x):∃ A n c,cs=[.slice A n c]∧n≤Rows.uptoBulk x.1:=by
 rcases open_ints Tryz.underlying24 Tryz.underlying113 EH h with⟨rfl,_⟩ | ⟨a,n,c,zs,rfl,_,hl,hm,hz,rfl,hcell,hwz⟩
 ·exact⟨none,0,0,rfl,Aa⟩
 ·have hzl:n≤zs.length:=by rw[hz];split<;>omega
  refine⟨some a,n,c,rfl,?_⟩;have h1:=Qx (H:=H) (lits .u32 (zs.take n));have h2:(lits (H:=H) .u32 (zs.take n)).length=n:=by simp[lits];omega
  simp only[Rows.uptoBulk];omega
set_option maxRecDepth 100000 in
theorem JW{fuel:Nat}{cs:List Value}{x:DataW H×List MemPlace}(h:DataW.trod enc Tryz.prog w 0 spare held fuel 26 cs=some x):∃ b A n c,cs=[b,.slice A n c]∧n≤Rows.uptoBulk x.1:=by
 obtain⟨y0,y1,n,rfl,hl,h0,h1⟩:=trod_struct2 Tryz.underlying26 h;rw[show Tryz.prog.cellsOf 26=2 from by kernel_rfl]at hl
 match cs,hl with
 | [c0,c1],_ =>
  rw[show Tryz.prog.cellsOf 24=1 from by kernel_rfl]at h1;obtain⟨A,m,c,e1,hd⟩:=RZ h1;simp at e1;subst e1;refine⟨c0,A,m,c,rfl,?_⟩;have:=DT (d:=y1.1) (l:=[y0.1,y1.1]) Ac;simp only[Rows.uptoBulk];omega
set_option maxRecDepth 100000 in
theorem V7{T fuel:Nat}{v:Value}{x:DataW H×List MemPlace}(hT:Tryz.prog.underlying T=some (.slice 26))(h:DataW.trod enc Tryz.prog w 0 spare held fuel T v.cells.toList=some x)(hv:∃ a n c,v = .slice a n c){l:List JQ}(hp:En w v l)(hb:Rows.uptoBulk x.1≤1048576):Sz l:=by
 obtain⟨a0,n0,c0,rfl⟩:=hv;obtain⟨A,cc,e1,g2,g3,g4⟩:=hp;rcases open_slice hT h with⟨hcs,_⟩ | ⟨a,n,c,m,k,D,Pl,hcs,_,hl,hm,hmm,rfl,hel⟩
 ·simp[Value.cells]at hcs
  obtain⟨rfl,rfl,rfl⟩:=hcs;have hl0:l=[]:=by injection e1 with _ h2 _;exact List.eq_nil_of_length_eq_zero h2.symm
  subst hl0;exact⟨Ac,fun x hx=>by simp at hx⟩
 ·simp[Value.cells]at hcs
  obtain⟨rfl,rfl,rfl⟩:=hcs;have hnl:n0=l.length:=by injection e1
  have hAa:A=some a:=by injection e1 with h1;exact h1.symm
  have hnm:n0≤m:=by rw[hmm];split<;>omega
  rw[show Tryz.prog.cellsOf 26=2 from by kernel_rfl]at hel;simp only[Rows.uptoBulk]at hb;have hlen:=Qx (H:=H) ((List.range n0).map D);simp only[List.length_map,List.length_range]at hlen;refine⟨Aa,fun r hr=>?_⟩;obtain⟨j,hj,rfl⟩:=List.getElem_of_mem hr;obtain⟨g,o,hA2,_,hc⟩:=g4 Aa;obtain⟨cs,q1,q2,q3⟩:=hc j hj;obtain⟨cs',h1,h2⟩:=hel j Aa;obtain⟨_,h5,h6⟩:=World.cells?_some h1;rw[hAa]at hA2;injection hA2 with hA2
  subst hA2;have hD:=DT (d:=D j) (l:=(List.range n0).map D) (List.mem_map.2 ⟨j,List.mem_range.2 Aa,rfl⟩);obtain⟨b,A1,m1,c1,rfl,k1⟩:=JW h2;obtain⟨s,eq,B1,d1,e2,dv⟩:=q3;subst e2;obtain rfl:=RU eq;have t1:=q2 1 Aa;have u1:=h6 1 Aa;rw[KF,KF]at u1;rw[t1]at u1;simp at u1;have k1':m1≤Rows.uptoBulk (D j):=k1;omega
end
end Go.Proofs.YtmhgnigpmompmaaGreat
namespace Go.Hp
open Go.RowKit
theorem Em.chnF{F:Nat→Rat}(h:Em F):Mm F 1 (pl F+pl (pd F)) 16384:=by
 have h3:=Ng h.f;have h4:=Be h.f h.n0;have hD:pl F+pl (pd F)≤13:=by have:=h.p;omega
 have hp:2^(pl F+pl (pd F))≤2^13:=Nat.pow_le_pow_right Ab hD;have hm:(pl F+pl (pd F)+1)*(16384+1)≤14*16385:=Nat.mul_le_mul_right _ Aa;exact⟨h.z,h.f,h.q,fun i=>GL (EL h.z) Ab (Nat.lt_of_le_of_lt (Sb h.z h.f (n:=6) (by have:=h.p;omega) h.b i) Ab),rfl,Aa,Aa,Aa⟩
theorem Em.k{F:Nat→Rat}(h:Em F):NN F (pd F) (kn F)∧kn F≤8:=by
 obtain⟨K,q1,q2⟩:=FN h.f (Cb h.f) h.z (EL h.z) h.chnF.s h.chnF.d;rw[q1.kn];have h3:=Ng h.f;have:=h.p;exact⟨q1,Aa⟩
end Go.Hp
namespace Go.Proofs.YtmhgnigpmompmaaGreat
open Go.RowKit Go.Hp
end Go.Proofs.YtmhgnigpmompmaaGreat
namespace Go.Hp
open Go.RowKit
def iJ(w:World)(g:Nat)(ls:List (Nat×Nat×Nat×Nat)):Prop:=∀ j (h:j < ls.length),∃ A1 c1 A2 c2 A3 c3 A4 c4,
 w.cell? ⟨g,j*8+1,none⟩=some (.slice A1 ls[j].1 c1)∧w.cell? ⟨g,j*8+3,none⟩=some (.slice A2 ls[j].2.1 c2) ∧
 w.cell? ⟨g,j*8+5,none⟩=some (.slice A3 ls[j].2.2.1 c3)∧w.cell? ⟨g,j*8+7,none⟩=some (.slice A4 ls[j].2.2.2 c4) ∧
 ls[j].1≤1000000000000∧ls[j].2.1≤1000000000000∧ls[j].2.2.1≤1000000000000∧ls[j].2.2.2≤1000000000000
def bA(ls:List (Nat×Nat×Nat×Nat))(r:Value):Prop:=∃ b:Bool,r = .bool b∧(b=true→∀ m∈ls,m.1+m.2.1+m.2.2.1+m.2.2.2≤12)
end Go.Hp
namespace Go.Proofs.YtmhgnigpmompmaaGreat
open Go.RowKit Go.Hp
set_option maxRecDepth 20000 in
theorem Zu(g c:Nat)(ls:List (Nat×Nat×Nat×Nat))(w:World)(hn:ls.length≤1000)(hc:ls.length≤c)(hv:iJ w g ls) :
  Bh 14 #[.slice (some ⟨g,0,none⟩) ls.length c] w (fun r _=>bA ls r):=by
 have HV:=Ad hv;clear hv
 go_enter Tryz.func14,Tryz.ntmps14
 go_wp2
 go_loopw [3] (fun iv wr=>∃ i:Nat,i≤ls.length∧iv = .int .i64 (i:Nat)∧(∀ j (h:j < ls.length),j < i→ls[j].1+ls[j].2.1+ls[j].2.2.1+ls[j].2.2.2≤12)∧Ext w wr) (fun iv _=>ls.length - (intOf iv).toNat)
 case atStart=>exact⟨0,Nat.zero_le _,rfl,fun j h h'=>Aa,Ext.refl _⟩
 case round =>
  obtain⟨i,hi,rfl,hst,hx⟩:=hrel;have Hst:=Ad hst;clear hst;by_cases hil:i < ls.length
  ·obtain⟨A1,c1,A2,c2,A3,c3,A4,c4,q1,q2,q3,q4,b1,b2,b3,b4⟩:=HV.out i hil
   obtain⟨m,hm⟩:∃ m,m=ls[i]:=⟨_,rfl⟩
   rw[←hm]at q1 q2 q3 q4 b1 b2 b3 b4;have HM:=Ad hm;clear hm;obtain⟨m1,m2,m3,m4⟩:=m;simp only at q1 q2 q3 q4 b1 b2 b3 b4;replace q1:=hx.cell q1;replace q2:=hx.cell q2;replace q3:=hx.cell q3;replace q4:=hx.cell q4;go_wp2;refine Ae 34 [10,11,12,13,14,15,16,17,18,19,20,21,22,23,24,25,26,27,28,29,30,31,32,33,34,35,36,37,38,39,40,41,42,43] [[],[],[0,1],[0,1,2],[0,1,2,3],[0,1,2,3,4],[0,1,2,3,4,5],[0,1,2,3,4,5,6],[],[],[8,9],[8,9,10],[8,9,10,11],[8,9,10,11,12],[8,9,10,11,12,13],[8,9,10,11,12,13,14],[0,1,2,3,4,5,6,7,8,9,10,11,12,13,14,15],[],[],[17,18],[17,18,19],[17,18,19,20],[17,18,19,20,21],[17,18,19,20,21,22],[17,18,19,20,21,22,23],[0,1,2,3,4,5,6,7,8,9,10,11,12,13,14,15,16,17,18,19,20,21,22,23,24],[],[],[26,27],[26,27,28],[26,27,28,29],[26,27,28,29,30],[26,27,28,29,30,31],[26,27,28,29,30,31,32],[0,1,2,3,4,5,6,7,8,9,10,11,12,13,14,15,16,17,18,19,20,21,22,23,24,25,26,27,28,29,30,31,32,33],[0,1,2,3,4,5,6,7,8,9,10,11,12,13,14,15,16,17,18,19,20,21,22,23,24,25,26,27,28,29,30,31,32,33,34]] [0,3] [_,_] [(kv ?_),(kv ?_),(kv ?_),(kv ?_),(kv ?_),(kv ?_),(kv ?_),(kv ?_),(kv ?_),(kv ?_),(kv ?_),(kv ?_),(kv ?_),(kv ?_),(kv ?_),(kv ?_),(kv ?_),(kv ?_),(kv ?_),(kv ?_),(kv ?_),(kv ?_),(kv ?_),(kv ?_),(kv ?_),(kv ?_),(kv ?_),(kv ?_),(kv ?_),(kv ?_),(kv ?_),(kv ?_),(kv ?_),(kv ?_)] (fun γ w'=>[True,True,True,True,True,True,True,True,True,True,True,True,True,True,True,True,True,True,True,True,True,True,True,True,True,True,True,True,True,True,True,True,True,True]) Bn Aj Aj Bo Aj Bl Br ?hstep1 ?_
   case hstep1 =>
    iterate 34 refine⟨?_,?_⟩
    trivial
    iterate 34 focus
     intro γ w' he hf;clear hf;refine⟨by trivial,?_⟩;intro R hR;have hc:=he.cells;have cq0:=he.cell q1;have cq1:=he.cell q2;have cq2:=he.cell q3;have cq3:=he.cell q4;go_simp;(try go_ints);(try(rw[if_neg Aa]));(try(rw[if_pos Aa]));(try go_simp);(try go_ints)
     refine hR _ _ (Ext.refl _) ?_ trivial;rfl
   intro γ w5 hx5 hF;clear hF;simp only[Bf,Nat.reduceAdd];clear γ;replace hx:=hx.trans hx5;by_cases hlong:12 < m1+m2+m3+m4
   ·go_wp2
    go_ret
    exact Ah.mk ⟨false,rfl,fun h=>by cases h⟩ hx
   ·go_wp2
    go_roundw
    case rel=>exact⟨i+1,Aa,by go_num,fun j h1 h2=>by
     rcases Nat.lt_or_ge j i with h | h
     ·exact Hst.out j h1 h
     ·obtain rfl:j=i:=by omega
      rw[←HM.out];show m1+m2+m3+m4≤12;omega,hx⟩
    case measure=>simp[intOf]<;>omega
  ·obtain rfl:i=ls.length:=by omega
   go_wp2
   go_ret
   exact Ah.mk ⟨true,rfl,fun _ p hp=>by
    obtain⟨j,hj,rfl⟩:=List.getElem_of_mem hp;exact Hst.out j hj hj⟩ hx
theorem bN(v:Value)(l:List Int)(s:Nat)(w:World)(hv:Dt 0 w v l)(h0:cz l≠pz)(hs:∀ i,qsz (cz l i)≤s)(hs9:s≤1000000)(hn:l.length≤1000) :
  Bh 19 #[v] w (fun r w'=>K5 w' r (-(2:Rat)^bx (cz l)) ((2:Rat)^bx (cz l))):=by
 have hb:∀ X,Ext w X→Bh 30 #[v] X (fun r w'=>AO w' r (2^bx (cz l))):=fun X x =>
  Ah.imp (Yp v l s X (hv.ext x) h0 hs hs9 hn) fun _ _ ⟨j,h1,h2⟩=>by rw[←h1.bx];exact h2
 have hbx:=Oe hs;obtain⟨j,hj⟩:∃ j,j=bx (cz l):=⟨_,rfl⟩
 rw[←hj]at hb hbx ⊢;have hz:=Gc j;have hq:=(Nb j).1;obtain⟨A0,c0,rfl⟩:=hv.len;have HC:=Ad (Ak hb (Ak (show sz ((2:Int)^j).natAbs≤1099511627776 by omega) (show qsz ((2:Rat)^j)≤274877906944 by omega)));clear hb hbx hj hz hq hv h0 hs
 go_enter Tryz.func19,Tryz.ntmps19
 obtain⟨W1,eW1,ez,y1⟩:=Bj.made w 30 #[.bool false,.slice none 0 0,.bool false,.slice none 0 0,.bool false,.slice none 0 0,.bool false,.slice none 0 0] (by simp[Ag])
 go_upto_region 1 with(fail)
 rw[←eW1];clear eW1;have hx:=y1;clear y1
 go_wp2_with fail
 refine AL (HC.out.1 _ hx) ?_;rintro r2 w2 hr2 hx2;obtain⟨b5,A5,n5,c5,rfl⟩:=hr2.cells;have H2:=Ad (hr2.has HC.out.2.1);clear hr2;replace ez:=ez.ext hx2;replace hx:=hx.trans hx2;clear hx2
 go_wp2_with fail
 refine AL (IB _ _ _ H2.out) ?_;rintro r3 w3 hr3 hx3;rw[FX]at hr3;obtain⟨b6,A6,n6,c6,b7,A7,n7,c7,rfl⟩:=hr3.cells;replace ez:=ez.ext hx3;replace hx:=hx.trans hx3;clear hx3;obtain⟨W4,eW4,eb,y4⟩:=Bj.made w3 28 #[.bool b6,.slice A6 n6 c6,.bool b7,.slice A7 n7 c7] (by simp[Ag]);have hb4:=hr3.ext y4;have hgb:=ez.lt;replace ez:=ez.ext y4;replace hx:=hx.trans y4;clear y4;clear hr3 H2
 go_upto_region 2 with(fail)
 rw[←eW4];clear eW4;generalize w3.heap.size=gb at *;have HB:=Ad (Ak hb4 (hb4.has HC.out.2.2));clear hb4;obtain⟨ceb0,ceb1,ceb2,ceb3⟩:=eb.cells4;have feb:=eb.frozen;refine Ae 3 [7,8,9] [[],[0],[],[0,1,2],[0,1,2,3]] [3] [_] [(kv ?_),(fun γ=>γ 1),(kv ?_)] (fun γ w'=>[True,BD w' (γ 1) (-(2:Rat)^j),True]) Bn Aj Aj Bo Aj Bl Br ?hstep2 ?_
 case hstep2 =>
  iterate 3 refine⟨?_,?_⟩
  trivial
  iterate 1 focus
   intro γ w' he hf;clear hf;refine⟨by trivial,?_⟩;intro R hR;have hc:=he.cells;have cq0:=he.cell ceb0;have cq1:=he.cell ceb1;have cq2:=he.cell ceb2;have cq3:=he.cell ceb3;go_simp;refine hR _ _ (Ext.refl _) ?_ trivial;rfl
  ·intro γ w' he hf;clear hf;refine⟨trivial,?_⟩;intro R hR
   go_simp;exact Bd (XY _ _ w' (HB.out.2.ext he)) hR
  iterate 1 focus
   intro γ w' he hf;clear hf;refine⟨by trivial,?_⟩;intro R hR;have hc:=he.cells;have cq0:=he.cell ceb0;have cq1:=he.cell ceb1;have cq2:=he.cell ceb2;have cq3:=he.cell ceb3;go_simp;refine hR _ _ (Ext.refl _) ?_ trivial;rfl
 intro γ w5 hx5 hF;have p1:BD w5 (γ 1) (-(2:Rat)^j):=AA.get hF 1 Ab;clear hF;simp only[Bf,Nat.reduceAdd];generalize γ 1=g1 at *;clear γ;obtain⟨b8,A8,n8,c8,b9,A9,n9,c9,rfl⟩:=p1.cells;have HF:=Ad (Ak p1 (HB.out.1.ext hx5));clear ceb0 ceb1 ceb2 ceb3 feb p1;replace ez:=ez.ext hx5;replace hx:=hx.trans hx5;clear hx5;have p1:=HF.out.1;have p2:=HF.out.2;clear HF;obtain⟨cez0,cez1,cez2,cez3,cez4,cez5,cez6,cez7⟩:=ez.cells8
 have fez:=ez.frozen;go_wp2;obtain⟨W6,eW,ez',U⟩:=ez.put8 (.bool b8) (.slice A8 n8 c8) (.bool b9) (.slice A9 n9 c9) (.bool b6) (.slice A6 n6 c6) (.bool b7) (.slice A7 n7 c7) rfl rfl rfl rfl rfl rfl rfl rfl;rw[←eW];clear eW ez;replace p1:=p1.kd U.kd;replace p2:=p2.kd U.kd;replace hx:=U.from_ hx Ai;have ez:=ez';clear U ez';clear cez0 cez1 cez2 cez3 cez4 cez5 cez6 cez7 fez;obtain⟨cez0,cez1,cez2,cez3,cez4,cez5,cez6,cez7⟩:=ez.cells8
 have fez:=ez.frozen;refine bodyPost_ret (v := .agg #[.bool b8,.slice A8 n8 c8,.bool b9,.slice A9 n9 c9,.bool b6,.slice A6 n6 c6,.bool b7,.slice A7 n7 c7]) (by simp[results,Tryz.results19,go_sem,cez0,cez1,cez2,cez3,cez4,cez5,cez6,cez7]) rfl ?_;exact Ah.mk ⟨_,_,_,_,_,_,_,_,_,_,_,_,_,_,_,_,rfl,p1,p2⟩ hx
end Go.Proofs.YtmhgnigpmompmaaGreat
namespace Go.Hp
open Go.RowKit
theorem Fe.hasN{w:World}{v:Value}{x:Raw}{k:Nat}(h:Fe w v x)(k1:x.2.1.length≤k)(k2:x.2.2.2.length≤k)(k0:1≤k)(k9:k≤274877906944):BQ w v (Jz x)∧qsz (Jz x)≤k:=by
 obtain⟨A,n,c,A',n',c',rfl,h2,h3⟩:=h;have s1:=MR h2;have s2:=MR h3;have e1:=Nw x.1 x.2.1;have e2:=Nw x.2.2.1 x.2.2.2;exact⟨⟨_,A,n,c,_,A',n',c',_,_,rfl,⟨_,_,⟨_,rfl,h2⟩,rfl,Aa⟩,⟨_,_,⟨_,rfl,h3⟩,rfl,Aa⟩,by rw[e1];omega,by rw[e2];omega,rfl⟩,
  Dl (by rw[e1];omega) (by rw[e2];omega) k0⟩
def WK(w:World)(v:Value)(x y:Raw):Prop:=∃ b1 A1 c1 b2 A2 c2 b3 A3 c3 b4 A4 c4,
 v = .agg #[.bool b1,.slice A1 x.2.1.length c1,.bool b2,.slice A2 x.2.2.2.length c2,.bool b3,.slice A3 y.2.1.length c3,.bool b4,.slice A4 y.2.2.2.length c4] ∧
 Fe w (.agg #[.bool b1,.slice A1 x.2.1.length c1,.bool b2,.slice A2 x.2.2.2.length c2]) x∧Fe w (.agg #[.bool b3,.slice A3 y.2.1.length c3,.bool b4,.slice A4 y.2.2.2.length c4]) y
theorem Fe.lens{w:World}{b1 b2:Value}{A1 A2:Option Addr}{n1 c1 n2 c2:Nat}{x:Raw}(h:Fe w (.agg #[b1,.slice A1 n1 c1,b2,.slice A2 n2 c2]) x):n1=x.2.1.length∧n2=x.2.2.2.length∧b1 = .bool x.1∧b2 = .bool x.2.2.1:=by
 obtain⟨A,n,c,A',n',c',e,h2,h3⟩:=h;simp at e;obtain⟨rfl,⟨rfl,rfl,rfl⟩,rfl,rfl,rfl,rfl⟩:=e;obtain⟨A,c,e,-⟩:=h2;obtain⟨A',c',e',-⟩:=h3;injection e with _ e _;injection e' with _ e' _;exact⟨e,e',rfl,rfl⟩
theorem O1{v:Value}{cs:Array Value}(h:v.cells.toList=cs.toList)(hs:cs.size=8):v = .agg cs:=by
 have hc:v.cells=cs:=Array.toList_inj.1 h;subst hc;cases v<;>first | rfl | (exfalso;simp[Value.cells]at hs)
end Go.Hp
namespace Go.Proofs.YtmhgnigpmompmaaGreat
open Go.RowKit Go.Hp Go.Deep Go.ChangeShapes Go.ChangeAt
variable{H:Type}{enc:TypeId×Value→H}{w:World}{spare:Nat→Bool}{held:Bool}
set_option maxRecDepth 100000 in
theorem JI{fuel:Nat}{cs:List Value}{x:DataW H×List MemPlace}(h:DataW.trod enc Tryz.prog w 0 spare held fuel 28 cs=some x):∃ b A n c b' A' n' c',cs=[b,.slice A n c,b',.slice A' n' c']∧n≤Rows.uptoBulk x.1∧n'≤Rows.uptoBulk x.1:=by
 obtain⟨y0,y1,n,rfl,hl,h0,h1⟩:=trod_struct2 Tryz.underlying28 h;rw[show Tryz.prog.cellsOf 28=4 from by kernel_rfl]at hl
 match cs,hl with
 | [c0,c1,c2,c3],_ =>
  rw[show Tryz.prog.cellsOf 26=2 from by kernel_rfl]at h0 h1;obtain⟨b,A,m,c,e0,hd⟩:=JW h0;obtain⟨b',A',m',c',e1,hd'⟩:=JW h1;simp at e0 e1;obtain⟨rfl,rfl⟩:=e0;obtain⟨rfl,rfl⟩:=e1;have k0:=DT (d:=y0.1) (l:=[y0.1,y1.1]) Ac;have k1:=DT (d:=y1.1) (l:=[y0.1,y1.1]) Ac;refine⟨_,A,m,c,_,A',m',c',rfl,?_,?_⟩<;>simp only[Rows.uptoBulk]<;>omega
theorem UQ{fuel:Nat}{v:Value}{x:DataW H×List MemPlace}(h:DataW.trod enc Tryz.prog w 0 spare held fuel 28 v.cells.toList=some x)(hb:Rows.uptoBulk x.1≤1048576):∃ r:Raw,Fe w v r∧r.2.1.length≤1048576∧r.2.2.2.length≤1048576:=by
 obtain⟨r,cs,e1,e2,e3⟩:=Mq h;obtain⟨b,A,n,c,b',A',n',c',q1,q2,q3⟩:=JI h;refine⟨r,by rw[OL e1 e2];exact e3,?_⟩;rw[e1]at q1;have e4:cs=#[b,.slice A n c,b',.slice A' n' c']:=Array.toList_inj.1 q1;subst e4;obtain⟨rfl,rfl,-,-⟩:=e3.lens;omega
set_option maxRecDepth 100000 in
theorem ZH{fuel:Nat}{cs:List Value}{x:DataW H×List MemPlace}(h:DataW.trod enc Tryz.prog w 0 spare held fuel 30 cs=some x):∃ r1 r2:Raw,∃ cs':Array Value,cs=cs'.toList∧cs'.size=8∧WK w (.agg cs') r1 r2∧r1.2.1.length≤Rows.uptoBulk x.1∧r1.2.2.2.length≤Rows.uptoBulk x.1∧r2.2.1.length≤Rows.uptoBulk x.1∧r2.2.2.2.length≤Rows.uptoBulk x.1:=by
 obtain⟨y0,y1,n,rfl,hl,h0,h1⟩:=trod_struct2 Tryz.underlying30 h;rw[show Tryz.prog.cellsOf 30=8 from by kernel_rfl]at hl
 match cs,hl with
 | [c0,c1,c2,c3,c4,c5,c6,c7],_ =>
  rw[show Tryz.prog.cellsOf 28=4 from by kernel_rfl]at h0 h1;obtain⟨_,_,_,_,_,_,_,_,t1,t2,t3⟩:=JI h0;obtain⟨_,_,_,_,_,_,_,_,u1,u2,u3⟩:=JI h1;have k0:=DT (d:=y0.1) (l:=[y0.1,y1.1]) Ac;have k1:=DT (d:=y1.1) (l:=[y0.1,y1.1]) Ac;obtain⟨r,cs1,e1,f1,g1⟩:=Mq h0;obtain⟨s,cs2,e2,f2,g2⟩:=Mq h1;obtain⟨A,k,c,A',k',c',q1,q2,q3⟩:=g1;obtain⟨B,m,d,B',m',d',p1,p2,p3⟩:=g2;cases q1;cases p1;simp at e1 e2 t1 u1;obtain⟨rfl,rfl,rfl,rfl⟩:=e1
  obtain⟨rfl,rfl,rfl,rfl⟩:=e2;simp at t1 u1;have g1:Fe w (.agg #[.bool r.1,.slice A k c,.bool r.2.2.1,.slice A' k' c']) r:=⟨_,_,_,_,_,_,rfl,q2,q3⟩
  have g2:Fe w (.agg #[.bool s.1,.slice B m d,.bool s.2.2.1,.slice B' m' d']) s:=⟨_,_,_,_,_,_,rfl,p2,p3⟩
  obtain⟨rfl,rfl,-,-⟩:=g1.lens;obtain⟨rfl,rfl,-,-⟩:=g2.lens;exact⟨r,s,#[_,_,_,_,_,_,_,_],rfl,rfl,⟨_,_,_,_,_,_,_,_,_,_,_,_,rfl,g1,g2⟩,by simp only[Rows.uptoBulk];omega⟩
end Go.Proofs.YtmhgnigpmompmaaGreat
namespace Go.Hp
open Go.RowKit
theorem rc_all{F:Nat→Rat}(z:ZI F)(f:Af F)(h0:F≠pz){p q:Rat}(hpq:p≤q):rc (CL F) p q≤rc (CL F) (-(2:Rat)^bx F) ((2:Rat)^bx F):=by
 obtain⟨Q,fQ,e⟩:=eZ z f h0;have hb:=(gJ F).1;have hld:=D8 f h0;have hpos:=Ti.2 hld;have hc:∀ i,i < pl F - 1→ab (F i)≤ab (ld F)*((2:Rat)^bx F - 1):=fun i hi=>by
  have h1:=Xf F hi;have e1:F i=ld F*(F i / ld F):=by grind
  have e2:ab (F i)=ab (ld F)*ab (F i / ld F):=by rw[←Cm,←e1]
  rw[e2];exact Rat.mul_le_mul_of_nonneg_left Au (Av _)
 have h1:(1:Rat)≤(2:Rat)^bx F:=by have:=EP F (pl F - 1);grind
 have:=(I7 z f h0).st.total f h0 fQ e h1 hc hpq;unfold rc rt;omega
theorem Em.rc_all{F:Nat→Rat}(h:Em F){p q:Rat}(hpq:p≤q):rc (CL F) p q≤rc (CL F) (-(2:Rat)^bx F) ((2:Rat)^bx F):=Hp.rc_all h.z h.f h.n0 hpq
theorem Em.rc_bd{F:Nat→Rat}(h:Em F)(p q:Rat):rc (CL F) p q≤1000:=by
 have hk:=(I7 h.z h.f h.n0).st.k;have hC:=h.chn.1;have hC2:=h.chn.2;rw[←JZ hk];unfold rts;have h3:=V5 (EA (CL F) (pd (CL F)) (kn (CL F))) p;rw[CP]at h3;obtain⟨K0,q1,q2⟩:=FN hC.f (Cb hC.f) hC.z (EL hC.z) hC.s hC.d;rw[q1.uniq hk]at q2;omega
theorem Em.rc_pos{F:Nat→Rat}(h:Em F){p q:Rat}(hpq:p≤q):0≤rc (CL F) p q:=(I7 h.z h.f h.n0).nonneg hpq
theorem Em.rcr{l:List Int}(h:Em (cz l))(hl:l.length≤12):jQ l (CL (cz l)) 1 7 16384 36000 300000 3 (pl (CL (cz l))+pl (pd (CL (cz l)))) 32768 (kn (CL (cz l))):=
 ⟨Aa,h.sim,Aa,Aa,Aa,Aa,rfl,h.chn.1,(I7 h.z h.f h.n0).st.k⟩
theorem WT(w:World)(t:TypeId){g:Nat}(hg:g=w.heap.size){b1 b2 b3 b4 d1 d2 d3 d4:Value}{A1 A2 A3 A4 B1 B2 B3 B4:Option Addr}{n1 n2 n3 n4 m1 m2 m3 m4 c1 c2 c3 c4 e1 e2 e3 e4:Nat}
  (h1:n1≤1000000000000∧n2≤1000000000000∧n3≤1000000000000∧n4≤1000000000000) (h2:m1≤1000000000000∧m2≤1000000000000∧m3≤1000000000000∧m4≤1000000000000) :
  iJ (w.alloc (.cells #[b1,.slice A1 n1 c1,b2,.slice A2 n2 c2,b3,.slice A3 n3 c3,b4,.slice A4 n4 c4,d1,.slice B1 m1 e1,d2,.slice B2 m2 e2,d3,.slice B3 m3 e3,d4,.slice B4 m4 e4] t)) g [(n1,n2,n3,n4),(m1,m2,m3,m4)]:=by
 subst hg;intro j hj;have hj2:j < 2:=by simpa using hj
 have hc:∀ i,(w.alloc (.cells #[b1,.slice A1 n1 c1,b2,.slice A2 n2 c2,b3,.slice A3 n3 c3,b4,.slice A4 n4 c4,d1,.slice B1 m1 e1,d2,.slice B2 m2 e2,d3,.slice B3 m3 e3,d4,.slice B4 m4 e4] t)).cell? ⟨w.heap.size,i,none⟩=_:=fun i=>cell_of_row _ w.heap.size i _ t (0,0) (heap_alloc_new w _)
 match j,hj2 with
 | 0,_=>exact⟨A1,c1,A2,c2,A3,c3,A4,c4,hc 1,hc 3,hc 5,hc 7,h1⟩
 | 1,_=>exact⟨B1,e1,B2,e2,B3,e3,B4,e4,hc 9,hc 11,hc 13,hc 15,h2⟩
end Go.Hp
namespace Go.Proofs.YtmhgnigpmompmaaGreat
open Go.RowKit Go.Hp
theorem Vx(v u:Value)(l:List Int)(p q:Rat)(t:Nat)(w:World)(hv:Dt 0 w v l)(hu:Rb w u p q)(hL:Em (cz l))(hl:l.length≤12)(hp:qsz p≤t)(hq:qsz q≤t)(ht:t≤1000000) :
  Bh 18 #[v,u] w (fun r _=>r = .int .i64 (if q≤p then 0 else rc (CL (cz l)) p q)):=by
 have h:=XL v u l _ p q _ _ _ _ _ _ _ _ _ t w hv hu (hL.rcr hl) hp hq (by
  have:=hL.chn.2;have h1:(pl (CL (cz l))+pl (pd (CL (cz l))))*(32768+t+1)≤13*(32768+t+1):=Nat.mul_le_mul_right _ this;omega)
 rw[JZ (I7 hL.z hL.f hL.n0).st.k]at h;exact h
set_option maxRecDepth 20000 in
theorem Sj(v0 v1 v2:Value)(l0:List JQ)(x y z:Raw)(w:World)(h0:En w v0 l0)(h1:WK w v1 x y)(h2:Fe w v2 z)(hB:Sz l0)
  (hb1:x.2.1.length≤1048576∧x.2.2.2.length≤1048576∧y.2.1.length≤1048576∧y.2.2.2.length≤1048576) (hb2:z.2.1.length≤1048576∧z.2.2.2.length≤1048576) :
  Bh 3 #[v0,v1,v2] w (fun r _=>r = .bool true):=by
 obtain⟨b1,A1,c1,b2,A2,c2,b3,A3,c3,b4,A4,c4,rfl,r1,r2⟩:=h1;obtain⟨A5,n5,c5,A6,n6,c6,rfl,r3,r4⟩:=h2;have r5:Fe w (.agg #[.bool z.1,.slice A5 n5 c5,.bool z.2.2.1,.slice A6 n6 c6]) z:=⟨_,_,_,_,_,_,rfl,r3,r4⟩
 obtain⟨rfl,rfl,-,-⟩:=r5.lens;clear r3 r4;generalize hz1:z.1=bz1 at *;generalize hz2:z.2.2.1=bz2 at *;obtain⟨n1,hn1⟩:∃ n,n=x.2.1.length:=⟨_,rfl⟩
 obtain⟨n2,hn2⟩:∃ n,n=x.2.2.2.length:=⟨_,rfl⟩
 obtain⟨n3,hn3⟩:∃ n,n=y.2.1.length:=⟨_,rfl⟩
 obtain⟨n4,hn4⟩:∃ n,n=y.2.2.2.length:=⟨_,rfl⟩
 obtain⟨n5,hn5⟩:∃ n,n=z.2.1.length:=⟨_,rfl⟩
 obtain⟨n6,hn6⟩:∃ n,n=z.2.2.2.length:=⟨_,rfl⟩
 rw[←hn1,←hn2]at r1;rw[←hn3,←hn4]at r2;rw[←hn5,←hn6]at r5;rw[←hn1,←hn2,←hn3,←hn4]at hb1 ⊢;rw[←hn5,←hn6]at hb2 ⊢;obtain⟨p,hp⟩:∃ p,p=Jz x:=⟨_,rfl⟩
 obtain⟨q,hq⟩:∃ q,q=Jz y:=⟨_,rfl⟩
 obtain⟨m,hm⟩:∃ m,m=Jz z:=⟨_,rfl⟩
 have hr1:∀ k,n1≤k→n2≤k→1≤k→k≤274877906944→BQ w (.agg #[.bool b1,.slice A1 n1 c1,.bool b2,.slice A2 n2 c2]) p∧qsz p≤k:=fun k h1 h2 h3 h4=>by
  rw[hp];exact r1.hasN Aa Aa h3 h4
 have hr2:∀ k,n3≤k→n4≤k→1≤k→k≤274877906944→BQ w (.agg #[.bool b3,.slice A3 n3 c3,.bool b4,.slice A4 n4 c4]) q∧qsz q≤k:=fun k h1 h2 h3 h4=>by
  rw[hq];exact r2.hasN Aa Aa h3 h4
 have hr3:∀ k,n5≤k→n6≤k→1≤k→k≤274877906944→BQ w (.agg #[.bool bz1,.slice A5 n5 c5,.bool bz2,.slice A6 n6 c6]) m∧qsz m≤k:=fun k h1 h2 h3 h4=>by
  rw[hm];exact r5.hasN Aa Aa h3 h4
 have HR:=Ad (Ak hr1 (Ak hr2 hr3));clear hr1 hr2 hr3 r1 r2 r5 hp hq hm hn1 hn2 hn3 hn4 hn5 hn6 hz1 hz2 x y z;have H0:=Ad h0;have PB:=Ad (h0.has hB.2).1;have hlB:(l0.map Zo).length≤1048576:=by simpa using hB.1
 obtain⟨A0,c0,rfl,k1,k2⟩:=h0.len;clear h0 hB;have hll0:(l0.map Zo).length=l0.length:=by simp
 obtain⟨m0,hm0⟩:∃ m0,m0=l0.map Zo:=⟨_,rfl⟩
 rw[←hm0]at PB hlB hll0;rw[←hll0]at k1 PB ⊢;clear hm0 hll0 H0;have hp0:=Bq (BK m0)
 go_enter Tryz.func3,Tryz.ntmps3
 obtain⟨W1,eW1,ei,y1⟩:=Bj.made w 30 #[.bool b1,.slice A1 n1 c1,.bool b2,.slice A2 n2 c2,.bool b3,.slice A3 n3 c3,.bool b4,.slice A4 n4 c4] (by simp[Ag]);obtain⟨W2,eW2,em,y2⟩:=Bj.made W1 28 #[.bool bz1,.slice A5 n5 c5,.bool bz2,.slice A6 n6 c6] (by simp[Ag])
 go_upto_region 1 with(fail)
 rw[←eW1,←eW2];have hs1:W1.heap.size=w.heap.size+1:=by rw[eW1];simp
 rw[hs1]at em;replace ei:=ei.ext y2;have hx:=y1.trans y2;clear y1 y2 eW1 eW2 hs1;generalize w.heap.size=gi at *
 go_wp2_with fail
 refine AL (Wv _) ?_;rintro r w3 rfl hx3;replace ei:=ei.ext hx3;replace em:=em.ext hx3;replace hx:=hx.trans hx3;clear hx3
 go_wp2_with fail
 refine AL (ZM w3.heap.size 1 [(.slice A0 m0.length c0,m0)] _ Ac Ac (SG w3 _ (PB.out.ext hx) rfl)) ?_;rintro r4 w4 ⟨b,rfl,hb⟩ hx4;have hx4:=hx4.a1;replace ei:=ei.ext hx4;replace em:=em.ext hx4;replace hx:=hx.trans hx4;clear hx4;have Hb:=Ad hb;clear hb;cases b with
 | false =>
  go_wp2
  go_ret
  exact Ah.mk rfl hx
 | true =>
 have HL:=Ad (Hb.out rfl (.slice A0 m0.length c0,m0) Ac);clear Hb;obtain⟨cei0,cei1,cei2,cei3,cei4,cei5,cei6,cei7⟩:=ei.cells8;have fei:=ei.frozen;obtain⟨cem0,cem1,cem2,cem3⟩:=em.cells4;have fem:=em.frozen
 go_wp2_with fail
 refine AL (Zu w4.heap.size 2 [(n1,n2,n3,n4),(n5,n6,n5,n6)] _ Ac Ac (WT w4 _ rfl Aa Aa)) ?_;rintro r5 w5 ⟨b,rfl,hb⟩ hx5;have hx5:=hx5.a1;clear cei0 cei1 cei2 cei3 cei4 cei5 cei6 cei7 fei cem0 cem1 cem2 cem3 fem;replace ei:=ei.ext hx5;replace em:=em.ext hx5;replace hx:=hx.trans hx5;clear hx5;have Hb:=Ad hb;clear hb;cases b with
 | false =>
  go_wp2
  go_ret
  exact Ah.mk rfl hx
 | true =>
 have hs1:=Hb.out rfl (n1,n2,n3,n4) Ac;have hs2:=Hb.out rfl (n5,n6,n5,n6) Ac;simp only at hs1 hs2;obtain⟨i1,s1⟩:=HR.out.1 12 Aa Aa Aa Aa;obtain⟨i2,s2⟩:=HR.out.2.1 12 Aa Aa Aa Aa;obtain⟨i3,s3⟩:=HR.out.2.2 12 Aa Aa Aa Aa;have HI:=Ad (Ak i1 (Ak i2 (Ak i3 (Ak s1 (Ak s2 s3)))));clear i1 i2 i3 s1 s2 s3 HR Hb;have hdg:∀ X,Ext w X→Bh 15 #[.slice A0 m0.length c0] X (fun r _=>r = .int .i64 ((pl (cz m0):Int) - 1)):=fun X x=>Fw _ m0 X (PB.out.ext x) Aa
 have HD:=Ad hdg;clear hdg
 go_wp2_with fail
 refine AL (HD.out _ hx) ?_;rintro r6 w6 rfl hx6;replace ei:=ei.ext hx6;replace em:=em.ext hx6;replace hx:=hx.trans hx6;clear hx6;by_cases hz:pl (cz m0)=0
 ·rw[hz]
  go_wp2
  go_ret
  exact Ah.mk rfl hx
 have hlt:¬ ((pl (cz m0):Int) - 1 < 0):=by omega
 have HT:=Ad (Ak (HL.out.lite (fun e=>hz (by rw[e,Ca]))) HL.out.1);clear HL;generalize (pl (cz m0):Int) - 1=dg at *;clear hz hp0;have hcnt:∀ X v a b,Ext w X→Rb X v a b→qsz a≤12→qsz b≤12→Bh 16 #[.slice A0 m0.length c0,v] X (fun r _=>r = .tuple #[.int .i64 (if a≤b then rc (CL (cz m0)) a b else 0),.int .i64 (if a≤b then 0 else 2)]):=fun X v a b x hv h1 h2 =>
  Ah.imp (QH _ v m0 a b _ 32768 12 X (PB.out.ext x) hv (by have:=HT.out.2;omega) (fun _=>HT.out.1.pg) h1 h2 Aa) fun r _ h=>by
   unfold II at h;rw[h,HT.out.1.err];simp
 have hrcn:∀ X v a b,Ext w X→Rb X v a b→qsz a≤1000→qsz b≤1000→Bh 18 #[.slice A0 m0.length c0,v] X (fun r _=>r = .int .i64 (if b≤a then 0 else rc (CL (cz m0)) a b)):=fun X v a b x hv h1 h2 =>
  Vx _ v m0 a b 1000 X (PB.out.ext x) hv HT.out.1 HT.out.2 h1 h2 Aa
 have HC:=Ad (Ak hcnt hrcn);clear hcnt hrcn;obtain⟨cei0,cei1,cei2,cei3,cei4,cei5,cei6,cei7⟩:=ei.cells8;have fei:=ei.frozen
 go_wp2_with fail
 refine AL (HC.out.1 _ _ p q hx ⟨_,_,_,_,_,_,_,_,_,_,_,_,_,_,_,_,rfl,HI.out.1.ext hx,HI.out.2.1.ext hx⟩ HI.out.2.2.2.1 HI.out.2.2.2.2.1) ?_;rintro r7 w7 e7 hx7;obtain⟨N,hN⟩:∃ N,N=(if p≤q then rc (CL (cz m0)) p q else 0):=⟨_,rfl⟩
 obtain⟨E,hE⟩:∃ E:Int,E=(if p≤q then 0 else 2):=⟨_,rfl⟩
 rw[←hN,←hE]at e7;subst e7;have HN:=Ad (Ak hN hE);clear hN hE;clear cei0 cei1 cei2 cei3 cei4 cei5 cei6 cei7 fei;replace ei:=ei.ext hx7;replace em:=em.ext hx7;replace hx:=hx.trans hx7;clear hx7;obtain⟨B,hB⟩:∃ B:Rat,B=(2:Rat)^bx (cz m0):=⟨_,rfl⟩
 obtain⟨T,hT⟩:∃ T,T=rc (CL (cz m0)) (-B) B:=⟨_,rfl⟩
 have htot:∀ X,Ext w X→Bh 17 #[.slice A0 m0.length c0] X (fun r _=>r = .tuple #[.int .i64 T,.int .i64 0]):=fun X x =>
  Ah.imp (WN _ m0 _ 32768 X (PB.out.ext x) (by have:=HT.out.2;omega) (fun _=>HT.out.1.pg)) fun r _ h=>by
   unfold UW at h;rw[h,HT.out.1.err,hT,hB];simp
 have HTT:=Ad htot;clear htot
 go_wp2_with fail
 refine AL (HTT.out _ hx) ?_;rintro r8 w8 rfl hx8;replace ei:=ei.ext hx8;replace em:=em.ext hx8;replace hx:=hx.trans hx8;clear hx8;have hbx:=Oe HT.out.1.q;have hb2:=Nb (bx (cz m0));have hpos:(0:Rat) < (2:Rat)^bx (cz m0):=Rat.pow_pos Ab;have hBp:¬ B ≤ -B:=by rw[hB];grind
 have hall:∀ X,Ext w X→Bh 19 #[.slice A0 m0.length c0] X (fun r w'=>K5 w' r (-B) B):=fun X x=>by
  have:=bN _ m0 1 X (PB.out.ext x) HT.out.1.n0 HT.out.1.q Aa (by have:=HT.out.2;omega);rw[hB];exact this
 have hqB:qsz (-B)≤1000∧qsz B≤1000:=by rw[hB];omega
 have HA:=Ad (Ak hall (Ak hqB hBp));clear hall hqB hBp hpos hbx hb2;have HX:=Ad (Ak hB hT);clear hB hT
 go_wp2_with fail
 refine AL (HA.out.1 _ hx) ?_;rintro r9 w9 hr9 hx9;have hv9:=hr9.has (by have:=HA.out.2.1;omega) (by have:=HA.out.2.1;omega);obtain⟨d1,D1,k1',f1',d2,D2,k2',f2',d3,D3,k3',f3',d4,D4,k4',f4',rfl,i91,i92⟩:=hv9;have HV9:=Ad (show Rb w9 (.agg #[.bool d1,.slice D1 k1' f1',.bool d2,.slice D2 k2' f2',.bool d3,.slice D3 k3' f3',.bool d4,.slice D4 k4' f4']) (-B) B from⟨_,_,_,_,_,_,_,_,_,_,_,_,_,_,_,_,rfl,i91,i92⟩)
 clear hr9 i91 i92;replace ei:=ei.ext hx9;replace em:=em.ext hx9;replace hx:=hx.trans hx9;clear hx9;have hc9:=HC.out.2 _ _ _ _ hx HV9.out HA.out.2.1.1 HA.out.2.1.2;rw[if_neg HA.out.2.2,←HX.out.2]at hc9;have HC9:=Ad hc9;clear hc9
 go_wp2_with fail
 refine AL HC9.out ?_;rintro r10 w10 rfl hx10;replace ei:=ei.ext hx10;replace em:=em.ext hx10;replace hx:=hx.trans hx10;clear hx10;clear HC9 HV9;obtain⟨cei0,cei1,cei2,cei3,cei4,cei5,cei6,cei7⟩:=ei.cells8;have fei:=ei.frozen
 go_wp2_with fail
 refine AL (Lf _ _ p q _ (HI.out.1.ext hx) (HI.out.2.1.ext hx) (by have:=HI.out;omega)) ?_;rintro r11 w11 rfl hx11;clear cei0 cei1 cei2 cei3 cei4 cei5 cei6 cei7 fei;replace ei:=ei.ext hx11;replace em:=em.ext hx11;replace hx:=hx.trans hx11;clear hx11;have hsg:decide (FB (p - q) > 0)=decide (q < p):=Di;by_cases hqp:q < p
 ·have hs:FB (p - q) > 0:=by simpa[hqp] using hsg
  have hN0:N=0:=by rw[HN.out.1,if_neg Au]
  have hE0:E=2:=by rw[HN.out.2,if_neg Au]
  subst hN0 hE0;generalize FB (p - q)=sg at *;clear hsg hqp;go_wp2
  go_ret
  exact Ah.mk rfl hx
 have hpq:p≤q:=by grind
 have hs:¬ FB (p - q) > 0:=by simpa[hqp] using hsg
 have hN0:N=rc (CL (cz m0)) p q:=by rw[HN.out.1,if_pos hpq]
 have hE0:E=0:=by rw[HN.out.2,if_pos hpq]
 subst hE0;have hNT:¬ N > T:=by rw[hN0,HX.out.2,HX.out.1];have:=HT.out.1.rc_all hpq;omega
 have hcN:(if q≤p then 0 else rc (CL (cz m0)) p q)=N:=by
  split
  ·rename_i h
   have:p=q:=by grind
   rw[hN0,this,Zh]
  ·exact hN0.symm
 have HP:=Ad (Ak hpq (Ak hN0 hcN));clear hpq hN0 hcN hsg hqp HN;generalize FB (p - q)=sg at *;obtain⟨cei0,cei1,cei2,cei3,cei4,cei5,cei6,cei7⟩:=ei.cells8;have fei:=ei.frozen
 go_wp2_with fail
 refine AL (HC.out.2 _ _ p q hx ⟨_,_,_,_,_,_,_,_,_,_,_,_,_,_,_,_,rfl,HI.out.1.ext hx,HI.out.2.1.ext hx⟩ (by have:=HI.out;omega) (by have:=HI.out;omega)) ?_;rintro r12 w12 rfl hx12;rw[HP.out.2.2];clear cei0 cei1 cei2 cei3 cei4 cei5 cei6 cei7 fei;replace ei:=ei.ext hx12;replace em:=em.ext hx12;replace hx:=hx.trans hx12;clear hx12;obtain⟨cei0,cei1,cei2,cei3,cei4,cei5,cei6,cei7⟩:=ei.cells8;have fei:=ei.frozen
 obtain⟨cem0,cem1,cem2,cem3⟩:=em.cells4;have fem:=em.frozen
 go_wp2_with fail
 refine AL (Lf _ _ p m _ (HI.out.1.ext hx) (HI.out.2.2.1.ext hx) (by have:=HI.out;omega)) ?_;rintro r13 w13 rfl hx13;clear cei0 cei1 cei2 cei3 cei4 cei5 cei6 cei7 fei cem0 cem1 cem2 cem3 fem;replace ei:=ei.ext hx13;replace em:=em.ext hx13;replace hx:=hx.trans hx13;clear hx13;have hsg:decide (FB (p - m) > 0)=decide (m < p):=Di;by_cases hmp:m < p
 ·have hs:FB (p - m) > 0:=by simpa[hmp] using hsg
  generalize FB (p - m)=sg at *;clear hsg hmp;go_wp2
  go_ret
  exact Ah.mk rfl hx
 have hs2:¬ FB (p - m) > 0:=by simpa[hmp] using hsg
 have HM:=Ad (show p≤m by grind);clear hmp hsg;generalize FB (p - m)=sg2 at *;obtain⟨cei0,cei1,cei2,cei3,cei4,cei5,cei6,cei7⟩:=ei.cells8;have fei:=ei.frozen;obtain⟨cem0,cem1,cem2,cem3⟩:=em.cells4;have fem:=em.frozen
 go_wp2_with fail
 refine AL (Lf _ _ m q _ (HI.out.2.2.1.ext hx) (HI.out.2.1.ext hx) (by have:=HI.out;omega)) ?_;rintro r14 w14 rfl hx14;clear cei0 cei1 cei2 cei3 cei4 cei5 cei6 cei7 fei cem0 cem1 cem2 cem3 fem;replace ei:=ei.ext hx14;replace em:=em.ext hx14;replace hx:=hx.trans hx14;clear hx14;have hsg:decide (FB (m - q) > 0)=decide (q < m):=Di;by_cases hqm:q < m
 ·have hs:FB (m - q) > 0:=by simpa[hqm] using hsg
  generalize FB (m - q)=sg at *;clear hsg hqm;go_wp2
  go_ret
  exact Ah.mk rfl hx
 have hs3:¬ FB (m - q) > 0:=by simpa[hqm] using hsg
 have HM2:=Ad (show m≤q by grind);clear hqm hsg;generalize FB (m - q)=sg3 at *;obtain⟨cei0,cei1,cei2,cei3,cei4,cei5,cei6,cei7⟩:=ei.cells8;have fei:=ei.frozen;obtain⟨cem0,cem1,cem2,cem3⟩:=em.cells4;have fem:=em.frozen
 go_wp2_with fail
 refine AL (HC.out.1 _ _ p m hx ⟨_,_,_,_,_,_,_,_,_,_,_,_,_,_,_,_,rfl,HI.out.1.ext hx,HI.out.2.2.1.ext hx⟩ HI.out.2.2.2.1 HI.out.2.2.2.2.2) ?_;rintro r15 w15 rfl hx15;rw[if_pos HM.out,if_pos HM.out];clear cei0 cei1 cei2 cei3 cei4 cei5 cei6 cei7 fei cem0 cem1 cem2 cem3 fem;replace ei:=ei.ext hx15;replace em:=em.ext hx15;replace hx:=hx.trans hx15;clear hx15;obtain⟨cei0,cei1,cei2,cei3,cei4,cei5,cei6,cei7⟩:=ei.cells8
 have fei:=ei.frozen;obtain⟨cem0,cem1,cem2,cem3⟩:=em.cells4;have fem:=em.frozen
 go_wp2_with fail
 refine AL (HC.out.1 _ _ m q hx ⟨_,_,_,_,_,_,_,_,_,_,_,_,_,_,_,_,rfl,HI.out.2.2.1.ext hx,HI.out.2.1.ext hx⟩ HI.out.2.2.2.2.2 HI.out.2.2.2.2.1) ?_;rintro r16 w16 rfl hx16;rw[if_pos HM2.out,if_pos HM2.out];clear cei0 cei1 cei2 cei3 cei4 cei5 cei6 cei7 fei cem0 cem1 cem2 cem3 fem;replace ei:=ei.ext hx16;replace em:=em.ext hx16;replace hx:=hx.trans hx16;clear hx16;have ha0:=HT.out.1.rc_pos HM.out;have hb0:=HT.out.1.rc_pos HM2.out
 have hn9:=HT.out.1.rc_bd p q;have hsum:=T9 (CL (cz m0)) p m q;rw[←HP.out.2.1]at hn9 hsum;generalize rc (CL (cz m0)) p m=na at *;generalize rc (CL (cz m0)) m q=nb at *;clear HP HX HT;go_wp2
 go_ret
 exact Ah.mk (by first | rfl | (simp;omega)) hx
open Go.ChangeShapes Go.WideShapes Go.ChangeAt
open Go.ChangeMaps (open_string shut_string)
theorem own_:ownKnob Tryz.prog.godebug=none:=by kernel_rfl
theorem laidOut_:laidOutB Tryz.prog=true:=by kernel_rfl
set_option maxRecDepth 100000 in
theorem realrootsCounts_lifted(os:Os)(started:os.Started)(H:Type)(enc:TypeId×Value→H)(F:Stop.Interp) :
  ReturnsInHanded {} Tryz.checked os 3 .any ((Rows.OpenSpec.upto Rows.realrootsCountsSpec).pre6 enc Tryz.prog Tryz.f3 Rows.realrootsCountsUptoRow.domain false) (((Rows.OpenSpec.upto Rows.realrootsCountsSpec).at F).post enc Tryz.prog Tryz.f3 false true false false):=by
 refine returnsInHanded_of_cond (C:=Tryz.checked) (s:=Rows.OpenSpec.upto Rows.realrootsCountsSpec) (k:=Rows.uptoSmall) rfl own_ started EH Tryz.func3
  (OpenSpec.witness (enc:=enc) (C:=Tryz.checked) (s:=Rows.OpenSpec.upto Rows.realrootsCountsSpec) (k:=Rows.uptoSmall) rfl false ⟨#[],#[.slice none 0 0,.agg #[.bool false,.slice none 0 0,.bool false,.slice none 0 0,.bool false,.slice none 0 0,.bool false,.slice none 0 0],.agg #[.bool false,.slice none 0 0,.bool false,.slice none 0 0]],[]⟩ 8 EH EH EH
   (x:=([.nil,.agg [.agg [.agg [.lit (.bool false),.nil],.agg [.lit (.bool false),.nil]],.agg [.agg [.lit (.bool false),.nil],.agg [.lit (.bool false),.nil]]],.agg [.agg [.lit (.bool false),.nil],.agg [.lit (.bool false),.nil]]],[],[])) EH rfl EH) ?_
 intro W base args ds gs before hval hW _ hk _;have hW':=hW;obtain⟨p,q,hA0,hV,rfl,hfz,hnd⟩:=hW;have hA:DataW.TrodAll enc Tryz.prog W 0 (fun _=>true) true Tryz.f3.params.toList args.toList ds p:=hA0;rw[Tryz.params3]at hA hval;obtain⟨v0,v1,v2,d0,d1,d2,p0,p1,p2,hargs,rfl,rfl,h0,h1,h2⟩:=trodAll_three hA;obtain rfl:args=#[v0,v1,v2]:=by cases args;simp_all
 obtain⟨rfl,rfl⟩:=trodVars_none hV;have lt0:∀ x∈p0,x.block < W.heap.size:=by obtain⟨m,hm⟩:=h0;exact DataW.trod_lt m _ _ _ hm
 have lt1:∀ x∈p1,x.block < W.heap.size:=by obtain⟨m,hm⟩:=h1;exact DataW.trod_lt m _ _ _ hm
 have lt2:∀ x∈p2,x.block < W.heap.size:=by obtain⟨m,hm⟩:=h2;exact DataW.trod_lt m _ _ _ hm
 have hkk:=of_decide_eq_true hk;have hb0:Rows.uptoBulk d0≤1048576:=Nat.le_trans (DT (d:=d0) (l:=[d0,d1,d2] ++ []) Ac) hkk;have hb1:Rows.uptoBulk d1≤1048576:=Nat.le_trans (DT (d:=d1) (l:=[d0,d1,d2] ++ []) Ac) hkk;have hb2:Rows.uptoBulk d2≤1048576:=Nat.le_trans (DT (d:=d2) (l:=[d0,d1,d2] ++ []) Ac) hkk;obtain⟨l0,w0,b0⟩:∃ l,En W v0 l∧Sz l:=by
  obtain⟨m,hm⟩:=h0;have hs:=okWide_slice Tryz.underlying23 (hval 0 23 v0 rfl rfl);obtain⟨l,hl⟩:=Sn Tryz.underlying23 hm hs;exact⟨l,hl,V7 Tryz.underlying23 hm hs hl hb0⟩
 obtain⟨x1,y1,w1,b1⟩:∃ x y,WK W v1 x y∧x.2.1.length≤1048576∧x.2.2.2.length≤1048576∧y.2.1.length≤1048576∧y.2.2.2.length≤1048576:=by
  obtain⟨m,hm⟩:=h1;obtain⟨x,y,cs,e1,e2,e3,e4⟩:=ZH hm;exact⟨x,y,by rw[O1 e1 e2];exact e3,by have hq:Rows.uptoBulk (d1,p1).fst≤1048576:=hb1;omega⟩
 obtain⟨x2,w2,b2⟩:∃ x,Fe W v2 x∧x.2.1.length≤1048576∧x.2.2.2.length≤1048576:=by
  obtain⟨m,hm⟩:=h2;exact UQ hm hb2
 clear hA0 hkk hk;refine(Sj v0 v1 v2 l0 x1 y1 x2 W w0 w1 w2 b0 b1 b2).mono fun e W' ⟨v,he,hv,bel⟩=>?_;subst he hv;exact⟨_,rfl,_,_,_,[],_,[],hW',trodAll_mk1 (shut_bool Tryz.underlying4 _),(trodAll_cons_mk (Below.trod laidOut_ EH (of_decide_eq_true EH) h0 bel lt0) (trodAll_cons_mk (Below.trod laidOut_ EH (of_decide_eq_true EH) h1 bel lt1) (trodAll_cons_mk (Below.trod laidOut_ EH (of_decide_eq_true EH) h2 bel lt2) trodAll_mk0))),rfl,bel.frame _,fun h=>by cases h⟩
theorem realrootsCounts_over:Rows.realrootsCountsUptoRow.holds Tryz.pinned (Rows.OpenSpec.upto Rows.realrootsCountsSpec):=
 OpenClaim.holds_of_cond 3 Tryz.f3 rfl rfl rfl rfl rfl rfl rfl ⟨rfl,rfl,rfl,rfl,rfl⟩ rfl rfl rfl rfl rfl EH Tryz.func3 EH
  (of_decide_eq_true EH) (by unfold Func.isWrapper;first | (rw[if_pos (by decide +kernel)];kernel_rfl) | (rw[if_neg (by decide +kernel)];exact⟨rfl,rfl⟩))
  (fun os started H enc _ F=>realrootsCounts_lifted os started H enc F)
theorem realrootsCounts_proved:Rows.RealrootsCountsUptoSaid:=realrootsCounts_over
end Go.Proofs.YtmhgnigpmompmaaGreat
