/- The statement RealrootsIsolates holds for arguments of bulk at most 1048576 (its '..Upto' form): for every such polynomial and every number the law returns true, and the arguments read afterwards as before. -/
import Derived.Test.YtmhgnigpmompmaaGreatMi1
import Derived.Test.YtmhgnigpmompmaaGreatMi2
import Derived.Test.YtmhgnigpmompmaaGreatMi3
import Derived.Test.YtmhgnigpmompmaaGreatMi4
import Derived.Test.YtmhgnigpmompmaaGreatMi5
set_option linter.unusedVariables false
set_option linter.unusedSimpArgs false
set_option maxHeartbeats 16000000
namespace Go.Hp
def B7:Nat:=7*(4095*7*15^7*15^7)
theorem Dk.div{F E:Nat->Rat}(h:Dk F)(hE:BK E)(hd:Dv E F)(i:Nat):(E i).num.natAbs<=B7:=by
 have hP:=BK.pp h.z h.f h.n0;have hpl:=Ef h.z h.f;have h1:=Uv hP.z hP.f hP.n hE.z hE.f (hP.zdv hE ((FB h.z h.f).2 hd)) (n:=7) (by rw[hpl];exact h.p) (V5 hP.z (Tv h.z h.f h.n0 h.b));refine TW hE.z (fun i=>?_) i;refine Std.le_trans (h1 i) ?_;have e:(1:Rat)+2*((7:Nat):Rat)=((15:Nat):Rat):=by exact_mod_cast(rfl:1+2*7=15)
 rw[e,Jk];have:((7:Nat):Rat)*(((4095:Nat):Rat)*((7:Nat):Rat)*((15^7:Nat):Rat)*((15^7:Nat):Rat))=((7*(4095*7*15^7*15^7):Nat):Rat):=Rh 7 4095 7 _;rw[this];exact Std.le_refl _
structure Mid(F:Nat->Rat):Prop where
 z:ZI F
 f:Af F
 n0:F≠pz
 p:pl F<=7
 c:cn F<=4095
 d:∀ E,BK E->Dv E F->∀ i,(E i).num.natAbs<=B7
theorem Dk.cnt{F:Nat->Rat}(h:Dk F):cn F<=4095:=by
 have hp:=Bb h.f h.n0;have ht:=Eo h.f hp;have hd:=Im h.f (pl F - 1);have hn:(F (pl F - 1)).num≠0:=fun e=>ht (by rw[h.z.num,e];rfl);have h1:Hp.cn F<=(F (pl F - 1)).num.natAbs:=Nat.le_of_dvd Aa (by have:=Int.natAbs_dvd_natAbs.2 hd;simpa using this);exact Nat.le_trans h1 (h.b _)
theorem Dk.mid{F:Nat->Rat}(h:Dk F):Mid F:=⟨h.z,h.f,h.n0,h.p,h.cnt,fun _ a b=>h.div a b⟩
theorem ZF{F G:Nat->Rat}(zF:ZI F)(fF:Af F)(zG:ZI G)(fG:Af G):Dv (Eg F G) F:=(Je _).trans (IA fF fG zF zG).2.2.2.2.2.2.1
theorem Mid.gcd{F G:Nat->Rat}(h:Mid F)(zG:ZI G)(fG:Af G):Mid (Eg F G):=by
 have k:=IA h.f fG h.z zG;have hd:=ZF h.z h.f zG fG;refine⟨k.2.1,k.1,TE h.z h.f zG fG h.n0,Nat.le_trans (Dv.le k.1 h.f h.n0 hd) h.p,?_,fun E a b=>h.d E a (b.trans hd)⟩;rw[k.2.2.2.1];exact Nat.le_trans (Nat.le_of_dvd (Nat.pos_of_ne_zero (IK h.z h.f h.n0)) (Nat.gcd_dvd_left _ _)) h.c
theorem Mid.ppn{F:Nat->Rat}(h:Mid F)(i:Nat):(pp F i).num.natAbs<=B7:=h.d _ (BK.pp h.z h.f h.n0) ((FB h.z h.f).1 (Dv.refl _)) i
theorem Mid.coef{F:Nat->Rat}(h:Mid F)(i:Nat):(F i).num.natAbs<=4095*B7:=by
 have e:(F i).num=pcn F*(pp F i).num:=by
  have h1:=MR h.z h.f h.n0 i;have h2:(pp F i).num=(F i).num / pcn F:=by rw[h1];rfl
  rw[h2,Int.mul_ediv_cancel' (Ie h.f i)]
 rw[e,Int.natAbs_mul,F5];exact Nat.mul_le_mul h.c (h.ppn i)
theorem Mid.q{F:Nat->Rat}(h:Mid F)(i:Nat):qsz (F i)<=3:=DI h.z Ab (Nat.lt_of_le_of_lt (h.coef i) (by decide +kernel))
theorem Mid.sqn{F:Nat->Rat}(h:Mid F)(i:Nat):(Bw F i).num.natAbs<=B7:=h.d _ (D6 h.z h.f h.n0).p (K8 h.z h.f h.n0) i
theorem Mid.chn{F:Nat->Rat}(h:Mid F):KR (Bw F) 3 (pl (Bw F)+pl (pd (Bw F))) 32768/\pl (Bw F)+pl (pd (Bw F))<=13:=by
 have h1:=h.sqn;have h2:=Nat.le_trans (fM h.z h.f h.n0) h.p;have hS:=D6 h.z h.f h.n0;have h3:=LU hS.p.f;have h4:=Bb hS.p.f hS.p.n;have hD:pl (Bw F)+pl (pd (Bw F))<=13:=by omega
 have hp:2^(pl (Bw F)+pl (pd (Bw F)))<=2^13:=Nat.pow_le_pow_right Ab hD;have hm:(pl (Bw F)+pl (pd (Bw F))+1)*(32768+1)<=14*32769:=Nat.mul_le_mul_right _ Aa;refine⟨⟨hS.p.z,hS.p.f,fun i=>DI hS.p.z Ab (Nat.lt_of_le_of_lt (h1 i) (by decide +kernel)),fun i=>DI (Ex hS.p.z) Ab (Nat.lt_of_le_of_lt (O0 hS.p.z hS.p.f (n:=6) Aa h1 i) (by decide +kernel)),rfl,Aa,Aa,Aa⟩,hD⟩
theorem Mid.sim{F:Nat->Rat}(h:Mid F):P9 F 3 7 32768 36000:=by
 have hP:=BK.pp h.z h.f h.n0;have hpl:=Ef h.z h.f;have hpn:=h.ppn;exact⟨h.z,h.f,h.n0,h.q,fun i=>DI (Ex hP.z) Ab (Nat.lt_of_le_of_lt (O0 hP.z hP.f (n:=6) (by rw[hpl];exact h.p) hpn i) (by decide +kernel)),
  fun i=>UD hP (n:=7) (s:=3) (by rw[hpl];exact h.p) Ab (fun i=>DI hP.z Ab (Nat.lt_of_le_of_lt (hpn i) (by decide +kernel))) Ab i,h.p,Ab,Ab,Ab,Ab⟩
theorem Mid.err{F:Nat->Rat}(h:Mid F):Dn F=0:=by
 refine Mj h.n0 (by have:=h.p;omega) fun⟨i,b,h1,h2⟩=>?_;have:=h1.le (m:=96) (Nat.lt_of_le_of_lt (h.coef i) (by decide +kernel));omega
theorem Mid.pg{F:Nat->Rat}(h:Mid F):Pg F (pl (Bw F)+pl (pd (Bw F))) 32768:=
 ⟨h.z,h.f,h.n0,h.err,fun i=>Nat.le_trans (h.q i) Ab,by have:=h.p;omega,⟨3,7,32768,36000,h.sim⟩,⟨3,h.chn.1⟩⟩
theorem Mid.rcr{l:List Int}(h:Mid (cz l))(hl:l.length<=1000):kM l (Bw (cz l)) 3 7 32768 36000 600000 3 (pl (Bw (cz l))+pl (pd (Bw (cz l)))) 32768 (kn (Bw (cz l))):=
 ⟨Aa,h.sim,Aa,Aa,Aa,Aa,rfl,h.chn.1,(D6 h.z h.f h.n0).st.k⟩
open Go.RowKit
section
variable{P:Program}
theorem II(w:World)(t ty e:TypeId)(i:TypeInfo)(ht:P.underlying t=some (.slice e))(hi:P.info? e=some i)(b:Option Addr)(n cap:Nat)(hle:n<=cap)(A:Option Addr)(c:Nat) :
  (Builtin.append_ #[t,t] ty #[.slice b n cap,.slice A 0 c]).run P w = .ok (.slice b n cap) w:=by
 have hf:∀ a,(Builtin.firstCells i.size 0 (.slice (some a) 0 c)).run P w = .ok #[] w:=fun a=>run_firstCells_some (P:=P) w i.size 0 a 0 c [] Ac Ac;cases b<;>cases A<;>simp[Builtin.append_,run_underlying ht,sizeOf,typeInfo,hi,Builtin.lenOf,hle,run_firstCells_none,hf,storeCells]
theorem Me(w:World)(k base:Nat)(t ty e:TypeId)(i:TypeInfo)(z:Value)(bytes:Nat)(ht:P.underlying t=some (.slice e))(hi:P.info? e=some i)(hz:i.zero=some z)
  (hsize:i.size=k) (hby:i.bytes=bytes) (hzs:z.cells.size=k) (hzd:nodig z.cells=true) (hsz:0 < k)
  (v:Value) (n:Nat) (xs:List Value) (hown:K3 k base e w v n xs)
  (a:Addr) (m c:Nat) (hm:0 < m) (news:List Value) (hl:news.length=m*k) (hnews:∀ j u,news[j]? = some u->w.cell? (a.add j)=some u) (h1:∀ u∈news,u.oneCell'=true) (hnd:∀ u∈news,Ae u=false)
  (h63:n+m<=maxLen) (hbytes:(n+m)*bytes<=140737488355328) (hbase:base<=w.heap.size) :
  ∃ v' w',(Builtin.append_ #[t,t] ty #[v,.slice (some a) m c]).run P w = .ok v' w'/\K3 k base e w' v' (n+m) (xs ++ news)/\Ch (blk v) w w'/\∀ g∈blk v',g∈blk v\/w.heap.size<=g:=by
 subst hsize;subst hby;have hlen:(xs ++ news).length=(n+m)*i.size:=by rw[List.length_append,hown.1,hl,Nat.add_mul]
 have hsmall:n+m<=9223372036854775807:=by simp only[maxLen]at h63;omega
 have hzl:=BH.1 hzd;have hzc:∀ m,∀ u∈(Builtin.zeroCells z.cells m).toList,Ae u=false:=by
  intro m u hu;simp only[Builtin.zeroCells,Array.toList_map,Array.toList_range,List.mem_map,List.mem_range]at hu;obtain⟨j,hj,rfl⟩:=hu;have:j % z.cells.size < z.cells.size:=Nat.mod_lt _ Aa;rw[getElem!_pos z.cells _ this];exact hzl _ Ac
 have hxd:∀ u∈xs,Ae u=false:=by
  rcases hown.2 with⟨_,h0⟩ | ⟨g,cap,cur,_,_,hb,_,_,_,htake⟩
  ·intro u hu
   have:xs=[]:=List.eq_nil_of_length_eq_zero (by rw[hown.1,h0,Nat.zero_mul]);rw[this]at hu;cases hu
  ·intro u hu
   rw[<-htake]at hu;exact BH.1 hb.2 _ (List.mem_of_mem_take hu)
 have grown:∀(old:Nat),old < n+m ->
   K3 i.size base e (w.drew.alloc (.cells (xs.toArray ++ news.toArray ++ Builtin.zeroCells z.cells (grownCap w (n+m) old e - (n+m))) e)) (.slice (some ⟨w.heap.size,0,none⟩) (n+m) (grownCap w (n+m) old e)) (n+m) (xs ++ news) /\
   ∀ G,Ch G w (w.drew.alloc (.cells (xs.toArray ++ news.toArray ++ Builtin.zeroCells z.cells (grownCap w (n+m) old e - (n+m))) e)):=by
  intro old ho;have hge:=grownCap_ge w (n+m) old e;have hcm:grownCap w (n+m) old e<=maxLen:=grownCap_le_maxLen w (n+m) old e h63;refine⟨⟨hlen,.inr ⟨w.heap.size,_,_,rfl,hbase,⟨heap_alloc_new w.drew _,?_⟩,hge,hcm,?_,?_⟩⟩,fun G=>Ch.of_ext ((Ext.refl w).drew.alloc _)⟩
  ·rw[BH]
   intro u hu;simp only[Array.toList_append,List.mem_append]at hu;rcases hu with(hu | hu) | hu
   ·exact hxd u (by simpa using hu)
   ·exact hnd u (by simpa using hu)
   ·exact hzc _ u hu
  ·simp only[Array.size_append,List.size_toArray,size_zeroCells,hzs,hown.1,hl]
   rw[<-Nat.add_mul,<-Nat.add_mul];congr 1;omega
  ·simp only[Array.toList_append,List.append_assoc]
   rw[<-List.append_assoc,<-hlen];exact List.take_left
 rcases hown.2 with⟨rfl,rfl⟩ | ⟨g,cap,cur,rfl,hbg,hb,hnc,hcm,hcs,htake⟩
 ·have hx:xs=[]:=List.eq_nil_of_length_eq_zero (by simpa using hown.1)
  subst hx;have hr:=run_append_nil (P:=P) w t ty e i z ht hi hz a m c news hl hnews hm Aa (by have hb:=hbytes;simp only[Nat.zero_add]at hb;omega);have hgr:=grown 0 Aa;simp only[Nat.zero_add,List.nil_append,Array.empty_append]at hgr ⊢;exact⟨_,_,hr,hgr.1,hgr.2 _,fun g' hg' => .inr (by simp[blk,Value.ownBlock]at hg';omega)⟩
 ·have hg:=hb.1
  by_cases hroom:n+m<=cap
  ·have hfit:n*i.size+news.length<=cur.size:=by rw[hl,hcs,<-Nat.add_mul];exact Nat.mul_le_mul_right _ hroom
   have hr:=run_append_room (P:=P) w t ty e i ht hi g n cap cur hg a m c news hl hnews h1 hroom hfit;have hnew:∀ u∈cur.toList.take (n*i.size) ++ news ++ cur.toList.drop (n*i.size+news.length),Ae u=false:=by
    intro u hu;simp only[List.mem_append]at hu;rcases hu with(hu | hu) | hu
    ·exact BH.1 hb.2 _ (List.mem_of_mem_take hu)
    ·exact hnd u hu
    ·exact BH.1 hb.2 _ (List.mem_of_mem_drop hu)
   have hbx:Bg (w.setRow g (cur.toList.take (n*i.size) ++ news ++ cur.toList.drop (n*i.size+news.length)).toArray) g e _:=⟨setRow_heap w g cur _ e _ hg,BH.2 (by simpa using hnew)⟩
   refine⟨_,_,hr,⟨hlen,.inr ⟨g,cap,_,rfl,hbg,hbx,hroom,hcm,?_,?_⟩⟩,⟨fun g' o hg' ho=>?_,Ko hb fun h hne _=>setRow_other w g h _ hne,fun a' ha hG=>?_⟩,fun g' hg' => .inl hg'⟩
   ·simp only[List.size_toArray,List.length_append,List.length_take,List.length_drop,Array.length_toList]
    omega
   ·rw[htake,<-hlen]
    exact List.take_left
   ·rw[setRow_other w g g' _ (fun e=>hg' (by simp[blk,Value.ownBlock,e]))];exact ho
   ·have hga:a'.heap.size<=g:=hG g (by simp[blk,Value.ownBlock])
    exact ha.grown (row:=some g) ⟨rfl,rfl,rfl,by simp[World.setRow],fun k _ hk=>setRow_other w g k _ (fun e=>hk (by rw[e]))⟩ (fun k hk=>by cases hk;exact hga)
  ·have holds:∀ j u,xs[j]? = some u->w.cell? ((⟨g,0,none⟩:Addr).add j)=some u:=hown.owns.cells (g:=g) rfl
   have hr:=run_append_grow (P:=P) w t ty e i z ht hi hz ⟨g,0,none⟩ n cap xs hown.1 holds a m c news hl hnews Aa Aa (growslice_fits Aa hbytes);have hgr:=grown cap Aa;exact⟨_,_,hr,hgr.1,hgr.2 _,fun g' hg' => .inr (by simp[blk,Value.ownBlock]at hg';omega)⟩
end
theorem BA.append_own{α:Type}{k:Nat}{rd:World->Value->α->Prop}{base b2:Nat}{e:TypeId}{w:World}{v u:Value}{l l2:List α}{P:Program}(h:BA k rd base e w v l)(h':BA k rd b2 e w u l2)
  (t ty:TypeId) (i:TypeInfo) (z:Value) (bytes:Nat) (ht:P.underlying t=some (.slice e)) (hi:P.info? e=some i) (hz:i.zero=some z)
  (hsize:i.size=k) (hby:i.bytes=bytes) (hzs:z.cells.size=k) (hzd:nodig z.cells=true) (hsz:0 < k)
  (hone:∀ c y,rd w (.agg c) y->∀ u∈c.toList,u.oneCell'=true/\Ae u=false)
  (h63:l.length+l2.length<=maxLen) (hbytes:(l.length+l2.length)*bytes<=140737488355328) (hbase:base<=w.heap.size) (hr:∀ w' u y,KD w w'->rd w u y->rd w' u y) :
  ∃ v' w',(Builtin.append_ #[t,t] ty #[v,u]).run P w = .ok v' w'/\BA k rd base e w' v' (l ++ l2)/\Ch (blk v) w w'/\∀ g∈blk v',g∈blk v\/w.heap.size<=g:=by
 by_cases h0:l2=[]
 ·subst h0
  obtain⟨A,c,rfl⟩:=h'.len;have h9:=h;obtain⟨ess,g1,g2,⟨g3,g4⟩,g5⟩:=h;rw[List.append_nil];rcases g4 with⟨rfl,h0⟩ | ⟨g,cap,cur,rfl,-,-,hnc,-⟩
  ·exact⟨_,_,II w t ty e i ht hi none 0 0 Aa A c,h9,Ch.of_ext (Ext.refl w),fun g hg => .inl hg⟩
  ·exact⟨_,_,II w t ty e i ht hi _ _ cap hnc A c,h9,Ch.of_ext (Ext.refl w),fun g hg => .inl hg⟩
 ·have hpos:0 < l2.length:=List.length_pos_iff.2 h0
  obtain⟨ess,g1,g2,g3,g5⟩:=h;obtain⟨ess',f1,f2,f3,f5⟩:=h';rcases f3.2 with⟨-,e0⟩ | ⟨g,cap,cur,rfl,-⟩
  ·omega
  have hnews:∀ j u,(ess'.flatMap Array.toList)[j]? = some u->w.cell? ((⟨g,0,none⟩:Addr).add j)=some u:=f3.owns.cells (g:=g) rfl;have hmem:∀ u∈ess'.flatMap Array.toList,u.oneCell'=true/\Ae u=false:=by
   intro u hu;obtain⟨c,hc,hu⟩:=List.mem_flatMap.1 hu;obtain⟨j,hj,rfl⟩:=List.mem_iff_getElem.1 hc;exact hone _ _ (f5 j Aa hj) u hu
  obtain⟨v',w',hrun,hown,hupd,hat⟩:=Me (P:=P) w k base t ty e i z bytes ht hi hz hsize hby hzs hzd hsz v l.length _ g3 ⟨g,0,none⟩ l2.length cap hpos (ess'.flatMap Array.toList) f3.1 hnews (fun u hu=>(hmem u hu).1) (fun u hu=>(hmem u hu).2) h63 hbytes hbase;refine⟨v',w',hrun,⟨ess ++ ess',by simp[g1,f1],?_,?_,?_⟩,hupd,hat⟩
  ·intro d hd
   rcases List.mem_append.1 hd with hd | hd
   ·exact g2 d hd
   ·exact f2 d hd
  ·rw[List.flatMap_append,List.length_append]
   exact hown
  ·intro j hj hj'
   rw[List.length_append]at hj;rcases Nat.lt_or_ge j l.length with hlt | hge
   ·rw[List.getElem_append_left hlt,List.getElem_append_left Aa]
    exact hr _ _ _ hupd.kd (g5 j hlt Aa)
   ·rw[List.getElem_append_right hge,List.getElem_append_right Aa]
    have:=hr _ _ _ hupd.kd (f5 (j - l.length) Aa Aa);simpa only[g1] using this
theorem Wm{w:World}{c:Array Value}{y:Rat×Rat}(h:kL w (.agg c) y):∀ u∈c.toList,u.oneCell'=true/\Ae u=false:=by
 obtain⟨b1,A1,n1,c1,b2,A2,n2,c2,b3,A3,n3,c3,b4,A4,n4,c4,e⟩:=Es.cells h;cases e;intro u hu;simp only[List.mem_cons,List.not_mem_nil,or_false]at hu;rcases hu with rfl | rfl | rfl | rfl | rfl | rfl | rfl | rfl<;>exact⟨rfl,rfl⟩
theorem Cv.single{base:Nat}{t:TypeId}{w:World}{g:Nat}{b1 A1 n1 c1 b2 A2 n2 c2 b3 A3 n3 c3 b4 A4 n4 c4}{p q:Rat}
  (hb:Bg w g t #[.bool b1,.slice A1 n1 c1,.bool b2,.slice A2 n2 c2,.bool b3,.slice A3 n3 c3,.bool b4,.slice A4 n4 c4])
  (h:Es w (.agg #[.bool b1,.slice A1 n1 c1,.bool b2,.slice A2 n2 c2,.bool b3,.slice A3 n3 c3,.bool b4,.slice A4 n4 c4]) p q) (hg:base<=g):Cv base t w (.slice (some ⟨g,0,none⟩) 1 1) [(p,q)]:=by
 refine⟨[#[.bool b1,.slice A1 n1 c1,.bool b2,.slice A2 n2 c2,.bool b3,.slice A3 n3 c3,.bool b4,.slice A4 n4 c4]],rfl,fun d hd=>?_,⟨rfl,.inr ⟨g,1,_,rfl,hg,hb,Nat.le_refl _,by simp only[maxLen];omega,rfl,rfl⟩⟩,fun j hj hj'=>?_⟩
 ·rw[List.mem_singleton.1 hd];rfl
 ·obtain rfl:j=0:=by simp at hj;omega
  exact h
theorem Dk.iso{F:Nat->Rat}(h:Dk F){N:Nat}(hN:700000000<=N)(hN9:N<=700000001):(iso (rc (Bw F)) N (-(2:Rat)^bx F) ((2:Rat)^bx F)).length<=1000 /\
  ∀ x∈iso (rc (Bw F)) N (-(2:Rat)^bx F) ((2:Rat)^bx F),rc (Bw F) x.1 x.2=1/\x.1 < x.2/\qsz x.1<=700400000/\qsz x.2<=700400000/\ab x.1<=2^400 - 1/\ab x.2<=2^400 - 1:=by
 have hbx:=OC h.q;have hqj:=MW (bx F);have hpos:=Ca (bx F);have hPQ : -(2:Rat)^bx F < (2:Rat)^bx F:=by grind
 have hsf:=D6 h.z h.f h.n0;have hn:=OG hsf hPQ (fun d p q hn hd=>h.deep d p q hn Aa) N 0 _ _ (Hp.Node.root _ _) Aa;have hb:=h.rc_bd (-(2:Rat)^bx F) (2^bx F);refine⟨by have:=hn.2.1;omega,fun x hx=>?_⟩;obtain⟨a,⟨d,_,hd,hn'⟩,b1,b2⟩:=hn.1 x hx;obtain⟨s1,s2⟩:=hn'.qsz (a:=100000) Aa Aa;have hlt:=(hn'.within hPQ).2.1;obtain⟨E,hE⟩:∃ E,E=400:=⟨_,rfl⟩
 have hB:=YQ (b:=E) (bx F) Aa;rw[hE]at hB;exact⟨a,hlt,Aa,Aa,F7.2 ⟨Ah,Ah⟩,F7.2 ⟨Ah,Ah⟩⟩
end Go.Hp
namespace Go.Proofs.YtmhgnigpmompmaaGreat
open Go.RowKit Go.Hp
theorem N7(v u:Value)(l:List Int)(p q:Rat)(t:Nat)(w:World)(hv:Dq 0 w v l)(hu:KU w u p q)(hL:Mid (cz l))(hl:l.length<=1000)(hp:qsz p<=t)(hq:qsz q<=t)(ht:t<=4500000000) :
  Be 18 #[v,u] w (fun r _=>r = .int .i64 (if q<=p then 0 else rc (Bw (cz l)) p q)):=by
 have h:=XV v u l _ p q _ _ _ _ _ _ _ _ _ t w hv hu (hL.rcr hl) hp hq (by
  have:=hL.chn.2;have h1:(pl (Bw (cz l))+pl (pd (Bw (cz l))))*(32768+t+1)<=13*(32768+t+1):=Nat.mul_le_mul_right _ this;omega)
 rw[Jb (D6 hL.z hL.f hL.n0).st.k]at h;exact h
theorem Tf(W:World)(base b2 ty:Nat)(v u:Value)(l m:List (Rat×Rat))(h:Cv base 30 W v l)(h':Cv b2 30 W u m)(hn:l.length+m.length<=1000000)(hb:base<=W.heap.size) :
  ∃ v' w',(Builtin.append_ #[51,51] ty #[v,u]).run Tryz.prog W = .ok v' w'/\(Cv base 30 w' v' (l ++ m)/\Ch (blk v) W w'):=by
 obtain⟨i0,hi,hz0,hz1,hz2⟩:=info_parts Yp;obtain⟨v',w',a,b,c,d⟩:=BA.append_own (P:=Tryz.prog) h h' 51 ty i0 _ 128 Tryz.underlying51 hi hz0 hz1 hz2 rfl (by simp[nodig,Ae,Value.cells]) Ab
  (fun _ _ hc=>Wm hc) (by simp only[maxLen];omega) Aa hb (fun _ _ _ k hq=>Es.kd hq k)
 exact⟨v',w',a,b,c⟩
set_option maxRecDepth 20000 in
theorem Ty(u:Value)(l:List Int)(P Q:Rat)(N T aP:Nat)(a:World)(hu:Dq 0 a u l)(hPQ:P < Q)(hP:qsz P<=aP)(hQ:qsz Q<=aP)
  (hdeep:∀ d p q,Hp.Node P Q d p q->N<=d->rc (Bw (cz l)) p q<=1) (h0:∀ d p q,Hp.Node P Q d p q->0<=rc (Bw (cz l)) p q) (hT:3*aP+N+4<=T) (hT9:T<=100000000000)
  (hcf:∀ X,Ext a X->∀ z P Q,KU X z P Q->qsz P<=T->qsz Q<=T->Be 18 #[u,z] X (fun r _=>r = .int .i64 (if Q<=P then 0 else rc (Bw (cz l)) P Q))) :
  ∀(n d:Nat) (p q:Rat) (z:Value) (w:World),Hp.Node P Q d p q->N<=n+d->d<=N->Ext a w->Es w z p q->(iso (rc (Bw (cz l))) n p q).length<=1000 ->
   Be 32 #[u,z] w (fun r w'=>Cv w.heap.size 30 w' r (iso (rc (Bw (cz l))) n p q)):=by
 obtain⟨A,c,rfl⟩:=hu.len;clear hu;intro nn;induction nn using Nat.strongRecOn with
 | _ nn ih =>
  intro d p q z w hn hN hd hx hz hl;obtain⟨hp,hq⟩:=hn.qsz hP hQ;have hlt:=(hn.within hPQ).2.1;have hnle:¬ q<=p:=by grind
  obtain⟨d1,A1,n1,c1,d2,A2,n2,c2,d3,A3,n3,c3,d4,A4,n4,c4,rfl,hi1,hi2⟩:=hz;obtain⟨R,hR⟩:∃ R,R=rc (Bw (cz l)) p q:=⟨_,rfl⟩
  have hR0:=h0 d p q hn;have hRd:=hdeep d p q hn;rw[<-hR]at hR0 hRd;have hcnt:∀ X,Ext w X->Be 18 #[.slice A l.length c,.agg #[.bool d1,.slice A1 n1 c1,.bool d2,.slice A2 n2 c2,.bool d3,.slice A3 n3 c3,.bool d4,.slice A4 n4 c4]] X (fun r _=>r = .int .i64 R):=fun X x=>by
   have:=hcf X (hx.trans x) _ p q ⟨_,_,_,_,_,_,_,_,_,_,_,_,_,_,_,_,rfl,(hi1.ext x).has Aa,(hi2.ext x).has Aa⟩ Aa Aa;rw[if_neg hnle,<-hR]at this;exact this
  have HC:=Ad (Ai hcnt (Ai hi1 (Ai hi2 (Ai hR hx))));clear hcnt hi1 hi2 hR hx
  go_enter Tryz.func32,Tryz.ntmps32
  obtain⟨W1,eW1,ea,hx⟩:=Bg.made w 30 #[.bool d1,.slice A1 n1 c1,.bool d2,.slice A2 n2 c2,.bool d3,.slice A3 n3 c3,.bool d4,.slice A4 n4 c4] (by simp[Ae])
  go_upto_region 1 with(fail)
  rw[<-eW1];clear eW1;have cea:=ea.cells8;have fea:=ea.frozen
  go_wp2_with fail
  refine AB (HC.out.1 _ hx) ?_;rintro r4 w4 rfl hx4;clear cea fea;replace ea:=ea.ext hx4;replace hx:=hx.trans hx4;clear hx4;by_cases hz:R=0
  ·have hb:(R==0)=true:=by simpa using hz
   have HF:=Ad (show Cv w.heap.size 30 w4 (.slice none 0 0) (iso (rc (Bw (cz l))) nn p q) by rw[Kn (by rw[<-HC.out.2.2.2.1];exact hz)];exact Cv.nil _ _ _);clear hz;go_wp2
   go_ret
   exact Ag.mk HF.out hx
  have hb0:(R==0)=false:=by simpa using hz
  by_cases hone:R=1
  ·have hb1:(R==1)=true:=by simpa using hone
   have hsz:=hx.size;obtain⟨W5,eW5,e5,y5⟩:=Bg.made w4 30 #[.bool d1,.slice A1 n1 c1,.bool d2,.slice A2 n2 c2,.bool d3,.slice A3 n3 c3,.bool d4,.slice A4 n4 c4] (by simp[Ae]);have hx5:=hx.trans y5;have HF:=Ad (show Cv w.heap.size 30 W5 (.slice (some ⟨w4.heap.size,0,none⟩) 1 1) (iso (rc (Bw (cz l))) nn p q) by
    rw[JA (by rw[<-HC.out.2.2.2.1];exact hone)];exact Cv.single e5 ⟨_,_,_,_,_,_,_,_,_,_,_,_,_,_,_,_,rfl,HC.out.2.1.ext hx5,HC.out.2.2.1.ext hx5⟩ hsz)
   clear hone hz e5 y5;have cea:=ea.cells8;have fea:=ea.frozen;go_wp2
   go_ret
   rw[<-eW5];exact Ag.mk HF.out hx5
  ·have hb1:(R==1)=false:=by simpa using hone
   have hdN:d < N:=by
    rcases Nat.lt_or_ge d N with q | q
    ·exact q
    ·have:=hRd q;omega
   obtain⟨n,rfl⟩:∃ n,nn=n+1:=⟨nn - 1,Aa⟩
   replace ih:=ih n Aa;obtain⟨m,hm⟩:∃ m,m=(p+q) / 2:=⟨_,rfl⟩
   obtain⟨L1,hL1⟩:∃ L,L=iso (rc (Bw (cz l))) n p m:=⟨_,rfl⟩
   obtain⟨L2,hL2⟩:∃ L,L=iso (rc (Bw (cz l))) n m q:=⟨_,rfl⟩
   have hiso:iso (rc (Bw (cz l))) (n+1) p q=L1 ++ L2:=by
    rw[hL1,hL2,hm];exact KS (by rw[<-HC.out.2.2.2.1];exact hz) (by rw[<-HC.out.2.2.2.1];exact hone)
   rw[hiso]at hl;rw[List.length_append]at hl;have HJ:=Ad hiso;obtain⟨n1',n2'⟩:=hn.half;rw[<-hm]at n1' n2';have hhalf:∀ X,Ext w X->∀ up,Be 78 #[.agg #[.bool d1,.slice A1 n1 c1,.bool d2,.slice A2 n2 c2,.bool d3,.slice A3 n3 c3,.bool d4,.slice A4 n4 c4],.bool up] X (fun r w'=>Es w' r (if up=true then m else p) (if up=true then q else m)):=fun X x up=>by
    rw[hm];exact V9 _ up p q T X ⟨_,_,_,_,_,_,_,_,_,_,_,_,_,_,_,_,rfl,(HC.out.2.1.ext x).has Aa,(HC.out.2.2.1.ext x).has Aa⟩ Aa Aa Aa
   have hc1:∀ X,Ext w X->∀ v,Es X v p m->Be 32 #[.slice A l.length c,v] X (fun r w'=>Cv X.heap.size 30 w' r L1):=fun X x v hv=>by
    rw[hL1]at hl ⊢;exact ih (d+1) p m v X n1' Aa Aa (HC.out.2.2.2.2.trans x) hv Aa
   have hc2:∀ X,Ext w X->∀ v,Es X v m q->Be 32 #[.slice A l.length c,v] X (fun r w'=>Cv X.heap.size 30 w' r L2):=fun X x v hv=>by
    rw[hL2]at hl ⊢;exact ih (d+1) m q v X n2' Aa Aa (HC.out.2.2.2.2.trans x) hv Aa
   have HM:=Ad (Ai hhalf (Ai hc1 hc2));clear hhalf hc1 hc2 n1' n2' ih hiso hm hL1 hL2 hR0 hRd hz hone hp hq hn hcf hdeep h0 hnle hlt hP hQ hPQ hT hT9 hN hdN;have cea:=ea.cells8;have fea:=ea.frozen
   go_wp2_with fail
   refine Cu 8 [15,16,17,18,19,20,21,22] [0,3] [_,_] [(kv ?_),(kv ?_),(fun γ=>γ 2),(fun γ=>γ 3),(kv ?_),(kv ?_),(fun γ=>γ 6),(fun γ=>γ 7)] (fun γ w'=>[True,True,Es w' (γ 2) p m,Cv w.heap.size 30 w' (γ 3) L1,True,True,Es w' (γ 6) m q,Cv w.heap.size 30 w' (γ 7) L2]) ?s1 ?_
   case s1 =>
    iterate 8 refine⟨?_,?_⟩
    trivial
    iterate 2 focus
     refine AX fun _ w' he R hR=>?_;have hc:=he.cells;have cq0:=(ea.ext he).cells8;go_simp;exact Bo hR
    ·refine AX fun _ w' he R hR=>?_
     have h9:=HM.out.1 w' (hx.trans he) false;go_simp;refine AB h9 ?_;rintro v w2 hv hx;exact⟨v,rfl,hR v w2 hx rfl hv⟩
    ·refine El fun γ w' he hf R hR=>?_;have f2:Es w' (γ 2) p m:=hf 2 Ab;clear hf
     have h9:=HM.out.2.1 w' (hx.trans he) _ f2;have hs9:=(hx.trans he).size;go_simp;refine AB h9 ?_;rintro v w2 hv hx;exact⟨v,rfl,hR v w2 hx rfl (Cv.lower hv hs9)⟩
    iterate 2 focus
     refine AX fun _ w' he R hR=>?_;have hc:=he.cells;have cq0:=(ea.ext he).cells8;go_simp;exact Bo hR
    ·refine AX fun _ w' he R hR=>?_
     have h9:=HM.out.1 w' (hx.trans he) true;go_simp;refine AB h9 ?_;rintro v w2 hv hx;exact⟨v,rfl,hR v w2 hx rfl hv⟩
    ·refine El fun γ w' he hf R hR=>?_;have f6:Es w' (γ 6) m q:=hf 6 Ab;clear hf
     have h9:=HM.out.2.2 w' (hx.trans he) _ f6;have hs9:=(hx.trans he).size;go_simp;refine AB h9 ?_;rintro v w2 hv hx;exact⟨v,rfl,hR v w2 hx rfl (Cv.lower hv hs9)⟩
   intro γ w6 hx6 hF;have p2:Es w6 (γ 2) p m:=Ak.get hF 2 Ab;have p3:Cv w.heap.size 30 w6 (γ 3) L1:=Ak.get hF 3 Ab;have p6:Es w6 (γ 6) m q:=Ak.get hF 6 Ab;have p7:Cv w.heap.size 30 w6 (γ 7) L2:=Ak.get hF 7 Ab;clear hF;simp only[Bf,Nat.reduceAdd];generalize γ 2=g2 at *;generalize γ 3=g3 at *;generalize γ 6=g6 at *;generalize γ 7=g7 at *;clear γ;clear cea fea p2 p6;replace ea:=ea.ext hx6;replace hx:=hx.trans hx6
   clear hx6;have hsz:=hx.size;have hb3:=BA.blk_ge p3;have HP:=Ad (Ai p3 p7);clear p3 p7
   go_wp2_with (at_builtin;refine Av rfl _ _ 51 rfl g3 g7 rfl rfl (Tf w6 w.heap.size w.heap.size _ _ _ L1 L2 HP.out.1 HP.out.2 Aa hsz) ?_)
   intro v' w7 hown U;have hx7:=U.from_ hx fun g hg=>(hb3 g hg).1;have HF:=Ad hown;clear hown U hb3;go_wp2
   go_ret
   exact Ag.mk (by rw[HJ.out];exact HF.out) hx7
theorem Yn(v:Value)(l:List Int)(N:Nat)(w:World)(hv:Dq 0 w v l)(hl:l.length<=12)(hL:Dk (cz l))(hN:700000000<=N)(hN9:N<=700000001) :
  Be 25 #[v] w (fun r w'=>∃ c,r = .tuple #[c,.int .i64 0]/\Cv 0 30 w' c (iso (rc (Bw (cz l))) N (-(2:Rat)^bx (cz l)) ((2:Rat)^bx (cz l)))):=by
 refine Ag.imp (NA v l _ 32768 N w hv Aa (fun _=>hL.pg) (fun _ d p q hn hd=>hL.deep d p q hn Aa) Aa (by have:=hL.chn.2;omega)) fun r w' ⟨c,e1,e2,_⟩=>?_;rw[hL.err]at e1;exact⟨c,e1,(e2 hL.err).lower (Nat.zero_le _)⟩
theorem VZ(v z:Value)(l:List Int)(N:Nat)(w:World)(hv:Dq 0 w v l)(hl:l.length<=12)(hL:Dk (cz l))(hN:700000000<=N)(hN9:N<=700000001)(hz:Es w z (-(2:Rat)^bx (cz l)) ((2:Rat)^bx (cz l))) :
  Be 32 #[v,z] w (fun r w'=>Cv 0 30 w' r (iso (rc (Bw (cz l))) N (-(2:Rat)^bx (cz l)) ((2:Rat)^bx (cz l)))):=by
 have hbx:=OC hL.q;have hqj:=MW (bx (cz l));have hpos:=Ca (bx (cz l));have hPQ : -(2:Rat)^bx (cz l) < (2:Rat)^bx (cz l):=by grind
 refine Ag.imp (Ty v l _ _ N 1000000000 100000 w hv hPQ Aa Aa (fun d p q hn hd=>hL.deep d p q hn Aa) (fun d p q hn=>hL.rc_pos (Std.le_of_lt (hn.within hPQ).2.1)) Aa Aa
  (fun X x z p q hz hp hq=>N7 v z l p q 1000000000 X (hv.ext x) hz hL.mid Aa hp hq Aa) N 0 _ _ z w (Hp.Node.root _ _) Aa Aa (Ext.refl w) hz (hL.iso hN hN9).1) fun r w' h=>h.lower (Nat.zero_le _)
set_option maxRecDepth 20000 in
theorem Pq(v0:Value)(n:Int)(l0:List K5)(w:World)(h0:En w v0 l0)(hB:Tp l0) :
  Be 6 #[v0,.int .i64 n] w (fun r _=>r = .bool true):=by
 have H0:=Ad h0;have PB:=Ad (h0.has hB.2).1;have hlB:(l0.map Zh).length<=1048576:=by simpa using hB.1
 obtain⟨A0,c0,rfl,k1,k2⟩:=h0.len;clear h0 hB;have hll0:(l0.map Zh).length=l0.length:=by simp
 obtain⟨m0,hm0⟩:∃ m0,m0=l0.map Zh:=⟨_,rfl⟩
 rw[<-hm0]at PB hlB hll0;rw[<-hll0]at k1 PB ⊢;clear hm0 hll0 H0;have hp0:=Bl (BJ m0)
 go_enter Tryz.func6,Tryz.ntmps6
 go_wp2_with fail
 refine AB (XE _) ?_;rintro r w3 rfl hx
 go_upto_region 3 with(fail)
 go_cut [29] (fun bv wx=>Ext w wx/\(bv = .bool true\/(bv = .bool false/\Dk (cz m0)/\m0.length<=12/\(n<=40\/1000 < n))))
 case first =>
  go_wp2_with fail
  refine AB (Zp w3.heap.size 1 [(.slice A0 m0.length c0,m0)] _ Ac Ac (Tk w3 _ (PB.out.ext hx) rfl)) ?_;rintro r4 w4 ⟨b,rfl,hb⟩ hx4;have hx4:=hx4.a1;replace hx:=hx.trans hx4;clear hx4;have Hb:=Ad hb;clear hb;cases b with
  | false =>
   go_wp2
   go_meet
   case rel=>exact⟨hx,.inl rfl⟩
  | true =>
  have HL:=Ad (Hb.out rfl (.slice A0 m0.length c0,m0) Ac);clear Hb;have hdg:∀ X,Ext w X->Be 15 #[.slice A0 m0.length c0] X (fun r _=>r = .int .i64 ((pl (cz m0):Int) - 1)):=fun X x=>FC _ m0 X (PB.out.ext x) Aa;have HD:=Ad hdg;clear hdg
  go_wp2_with fail
  refine AB (HD.out _ hx) ?_;rintro r6 w6 rfl hx6;replace hx:=hx.trans hx6;clear hx6;by_cases hz:pl (cz m0)=0
  ·rw[hz]
   go_wp2
   go_meet
   case rel=>exact⟨hx,.inl rfl⟩
  have hlt:¬ ((pl (cz m0):Int) - 1 < 0):=by omega
  have HT:=Ad (Ai (HL.out.lite (fun e=>hz (by rw[e,C8]))) HL.out.1);clear HL HD;generalize (pl (cz m0):Int) - 1=dg at *;clear hz hp0;by_cases hn40:n > 40
  ·by_cases hn1:n<=1000
   ·go_wp2
    go_meet
    case rel=>exact⟨hx,.inl rfl⟩
   ·have HN:=Ad hn1
    go_wp2
    go_meet
    case rel=>exact⟨hx,.inr ⟨by simp[hlt,HN.out],HT.out.1,HT.out.2,.inr (by have:=HN.out;omega)⟩⟩
  ·have HN:=Ad hn40
   go_wp2
   go_meet
   case rel=>exact⟨hx,.inr ⟨by simp[hlt],HT.out.1,HT.out.2,.inl (by have:=HN.out;omega)⟩⟩
 case rest =>
 clear hx;obtain⟨hx,rfl | ⟨rfl,hL,hl12,hn⟩⟩:=hcut
 ·go_wp2
  go_ret
  exact Ag.mk rfl hx
 obtain⟨N,hN,hN9⟩:∃ N,700000000<=N/\N<=700000001:=⟨700000001,Aa,Aa⟩
 have hli:=hL.iso hN hN9;have h1:∀ X,Ext w X->Be 25 #[.slice A0 m0.length c0] X (fun r w'=>∃ c,r = .tuple #[c,.int .i64 0]/\Cv 0 30 w' c (iso (rc (Bw (cz m0))) N (-(2:Rat)^bx (cz m0)) ((2:Rat)^bx (cz m0)))):=fun X x=>Yn _ m0 N X (PB.out.ext x) hl12 hL hN hN9;have h2:∀ X,Ext w X->∀ z,Es X z (-(2:Rat)^bx (cz m0)) ((2:Rat)^bx (cz m0))->Be 32 #[.slice A0 m0.length c0,z] X (fun r w'=>Cv 0 30 w' r (iso (rc (Bw (cz m0))) N (-(2:Rat)^bx (cz m0)) ((2:Rat)^bx (cz m0)))):=fun X x z hz=>VZ _ z m0 N X (PB.out.ext x) hl12 hL hN hN9 hz
 have h3:∀ X,Ext w X->Be 19 #[.slice A0 m0.length c0] X (fun r w'=>Es w' r (-(2:Rat)^bx (cz m0)) ((2:Rat)^bx (cz m0))):=fun X x=>gY _ m0 1 X (PB.out.ext x) hL.n0 hL.q Aa Aa;obtain⟨L,hLL⟩:∃ L,L=iso (rc (Bw (cz m0))) N (-(2:Rat)^bx (cz m0)) ((2:Rat)^bx (cz m0)):=⟨_,rfl⟩
 rw[<-hLL]at h1 h2 hli;have HC:=Ad (Ai h1 (Ai h2 h3));have HT:=Ad (Ai hL (Ai hl12 (Ai hn hli.2)));have hli9:=hli.1;clear h1 h2 h3 hL hl12 hn hli hLL hN hN9 hp0
 go_wp2_with fail
 refine AB (HC.out.1 _ hx) ?_;rintro r5 w5 ⟨c5,rfl,hown⟩ hx5;replace hx:=hx.trans hx5;clear hx5;obtain⟨AL,cL,rfl⟩:=hown.len;have HO:=Ad hown;clear hown
 go_wp2_with fail
 refine AB (HC.out.2.2 _ hx) ?_;rintro r6 w6 hr6 hx6;have HI:=Ad (Ai (Cv.ext HO.out hx6) hr6);clear hr6 HO;replace hx:=hx.trans hx6;clear hx6
 go_wp2_with fail
 refine AB (HC.out.2.1 _ hx _ HI.out.2) ?_;rintro r7 w7 hown hx7;obtain⟨AW,cW,rfl⟩:=hown.len;have HO:=Ad (Ai (Cv.ext HI.out.1 hx7) hown);clear hown HI;replace hx:=hx.trans hx7;clear hx7;go_wp2
 go_loopw [8] (fun iv wr=>∃ k:Nat,k<=L.length/\iv = .int .i64 (k:Nat)/\Ext w7 wr) (fun iv _=>L.length - (intOf iv).toNat)
 case atStart=>exact⟨0,Aa,rfl,Ext.refl _⟩
 case round =>
  obtain⟨k,hk,rfl,hy⟩:=hrel;by_cases hkn:k < L.length
  ·obtain⟨g,o,b1,A1,n1,c1,b2,A2,n2,c2,b3,A3,n3,c3,b4,A4,n4,c4,rfl,q0,q1,q2,q3,q4,q5,q6,q7,hi0⟩:=(Cv.ext HO.out.1 hy).at_ (j:=k) hkn
   obtain⟨g',o',d1,B1,m1,k1,d2,B2,m2,k2,d3,B3,m3,k3,d4,B4,m4,k4,rfl,s0,s1,s2,s3,s4,s5,s6,s7,hi1⟩:=(Cv.ext HO.out.2 hy).at_ (j:=k) hkn;have hm:=HT.out.2.2.2 L[k] (List.getElem_mem hkn);obtain⟨p,hp⟩:∃ p,p=L[k].1:=⟨_,rfl⟩
   obtain⟨q,hq⟩:∃ q,q=L[k].2:=⟨_,rfl⟩
   rw[<-hp,<-hq]at hi0 hi1 hm;have hs:∀ X,Ext wr X->Be 33 #[.agg #[.bool b1,.slice A1 n1 c1,.bool b2,.slice A2 n2 c2,.bool b3,.slice A3 n3 c3,.bool b4,.slice A4 n4 c4],.agg #[.bool d1,.slice B1 m1 k1,.bool d2,.slice B2 m2 k2,.bool d3,.slice B3 m3 k3,.bool d4,.slice B4 m4 k4]] X (fun r _=>r = .bool true):=fun X x =>
    Ag.imp (Ml _ _ p q p q X (hi0.ext x) (hi1.ext x)) fun _ _ h=>by rw[h,decide_eq_true ⟨rfl,rfl⟩]
   have hD20:pl (Bw (cz m0))+pl (pd (Bw (cz m0)))<=20:=by have:=HT.out.1.chn.2;omega
   have hiv:∀ X,Ext wr X->KU X (.agg #[.bool b1,.slice A1 n1 c1,.bool b2,.slice A2 n2 c2,.bool b3,.slice A3 n3 c3,.bool b4,.slice A4 n4 c4]) p q:=fun X x=>(hi0.ext x).has (Nat.le_trans hm.2.2.1 Ab) (Nat.le_trans hm.2.2.2.1 Ab);have hl12:=HT.out.2.1;have hr:∀ X,Ext wr X->Be 34 #[.slice A0 m0.length c0,.agg #[.bool b1,.slice A1 n1 c1,.bool b2,.slice A2 n2 c2,.bool b3,.slice A3 n3 c3,.bool b4,.slice A4 n4 c4],.int .i64 n] X (fun r w'=>UG (cz m0) p q n r w'):=fun X x =>
    VI _ _ m0 p q n _ _ 700400000 X (PB.out.ext ((hx.trans hy).trans x)) (hiv X x) Aa (fun _=>HT.out.1.pg) hD20 hm.2.2.1 hm.2.2.2.1 Aa
   have hrr:∀ M:Nat,M<=12->∀ X,Ext wr X->Be 35 #[.slice A0 m0.length c0,.agg #[.bool b1,.slice A1 n1 c1,.bool b2,.slice A2 n2 c2,.bool b3,.slice A3 n3 c3,.bool b4,.slice A4 n4 c4],.int .i64 (M:Nat)] X (fun r w'=>Es w' r (Fz (rc (Bw (cz m0))) p q M).1 (Fz (rc (Bw (cz m0))) p q M).2):=fun M hM X x =>
    Vg _ _ m0 p q M 4000000000 X (PB.out.ext ((hx.trans hy).trans x)) (hiv X x) (D6 HT.out.1.z HT.out.1.f HT.out.1.n0) hm.2.1 hm.1 (fun j hj=>by
     have:=UR (R:=rc (Bw (cz m0))) hm.2.2.1 hm.2.2.2.1 j;exact⟨Nat.le_trans this.1 Aa,Nat.le_trans this.2.1 Aa,Nat.le_trans this.2.2 Aa⟩) Aa Aa
     (fun Y y z P Q hz hP hQ=>N7 _ z m0 P Q 4000000000 Y (PB.out.ext ((hx.trans hy).trans (x.trans y))) hz HT.out.1.mid Aa hP hQ Aa)
   have HS:=Ad (Ai hs (Ai hr (Ai hrr (Ai hm.1 hm.2.1))));clear hs hr hrr hm hp hq hi0 hi1 hiv hl12 hD20
   go_upto_region 12 with(fail)
   refine Cu 9 [54,55,56,57,58,59,60,61,62] [5,8,7] [_,_,_] [(kv ?_),(kv ?_),(kv ?_),(kv ?_),(kv ?_),(kv ?_),(kv ?_),(kv ?_),(kv (.bool true))] (fun γ w'=>[True,True,True,True,True,True,True,True,True]) ?s1 ?_
   case s1 =>
    iterate 9 refine⟨?_,?_⟩
    trivial
    iterate 8 focus
     refine AX fun _ w' he R hR=>?_;have hc:=he.cells;have cq0:=he.cell q0;have cq1:=he.cell q1;have cq2:=he.cell q2;have cq3:=he.cell q3;have cq4:=he.cell q4;have cq5:=he.cell q5;have cq6:=he.cell q6;have cq7:=he.cell q7;have cq8:=he.cell s0;have cq9:=he.cell s1;have cq10:=he.cell s2;have cq11:=he.cell s3;have cq12:=he.cell s4;have cq13:=he.cell s5;have cq14:=he.cell s6;have cq15:=he.cell s7;go_simp;(try go_ints);(try(rw[if_neg Aa]));(try(rw[if_pos Aa]));(try go_simp);(try go_ints)
     exact Bo hR
    ·refine AX fun _ w' he R hR=>?_
     go_simp;exact Ku (HS.out.1 w' he) hR
   intro γ w8 hx8 hF;clear hF;simp only[Bf,Nat.reduceAdd];clear γ;clear s0 s1 s2 s3 s4 s5 s6 s7;replace q0:=hx8.cell q0;replace q1:=hx8.cell q1;replace q2:=hx8.cell q2;replace q3:=hx8.cell q3;replace q4:=hx8.cell q4;replace q5:=hx8.cell q5;replace q6:=hx8.cell q6;replace q7:=hx8.cell q7
   go_wp2_with fail
   refine AB (HS.out.2.1 _ hx8) ?_;rintro r9 w9 ⟨z9,E9,rfl,hz9,hz9',hE9⟩ hx9;rw[if_neg (fun h=>h HT.out.1.err)]at hE9;replace q0:=hx9.cell q0;replace q1:=hx9.cell q1;replace q2:=hx9.cell q2;replace q3:=hx9.cell q3;replace q4:=hx9.cell q4;replace q5:=hx9.cell q5;replace q6:=hx9.cell q6;replace q7:=hx9.cell q7;have hy9:=hx8.trans hx9;clear hx8 hx9;by_cases ho:n < 0\/1000 < n
   ·rw[if_pos ho]at hE9
    subst hE9;obtain rfl:=hz9' Ab;clear hz9 hz9' q0 q1 q2 q3 q4 q5 q6 q7;have hY:∀ X,Ext wr X->Ext w7 X:=fun X x=>hy.trans x;by_cases hneg:n < 0
    ·clear ho
     go_wp2
     go_roundw
     case rel=>exact⟨k+1,Aa,by go_num,hY _ (hy9.alloc _)⟩
     case measure=>simp[intOf];omega
    ·have hbig:n > 1000:=by omega
     clear ho;go_wp2
     go_roundw
     case rel=>exact⟨k+1,Aa,by go_num,hY _ (hy9.alloc _)⟩
     case measure=>simp[intOf];omega
   ·rw[if_neg ho,if_pos ⟨HS.out.2.2.2.2,HS.out.2.2.2.1⟩]at hE9
    subst hE9;obtain⟨M,rfl⟩:∃ M:Nat,n=M:=⟨n.toNat,Aa⟩
    have hn0:¬ (M:Int) < 0:=by omega
    have hn1:¬ (M:Int) > 1000:=by omega
    obtain⟨P,hP⟩:∃ P,P=Fz (rc (Bw (cz m0))) p q M:=⟨_,rfl⟩
    obtain⟨f1,F1,e1,t1,f2,F2,e2,t2,f3,F3,e3,t3,f4,F4,e4,t4,rfl,j1,j2⟩:=(show Es w9 z9 P.1 P.2 from by rw[hP];exact hz9 rfl)
    clear hz9 hz9' ho;obtain⟨W9,eW9,er,y9⟩:=Bg.made w9 30 #[.bool f1,.slice F1 e1 t1,.bool f2,.slice F2 e2 t2,.bool f3,.slice F3 e3 t3,.bool f4,.slice F4 e4 t4] (by simp[Ae]);have hx10:=hy9.trans y9;have HP:=Ad (Ai hP (Ai (j1.ext y9) (j2.ext y9)));replace q0:=y9.cell q0;replace q1:=y9.cell q1;replace q2:=y9.cell q2;replace q3:=y9.cell q3;replace q4:=y9.cell q4;replace q5:=y9.cell q5;replace q6:=y9.cell q6
    replace q7:=y9.cell q7;clear hP j1 j2 hy9 y9
    go_upto_region 18 with(fail)
    rw[<-eW9];clear eW9;generalize w9.heap.size=gr at *;have cer:=er.cells8;have fer:=er.frozen
    go_cut [99] (fun bv wx=>bv = .bool false/\Ext wr wx)
    case first =>
     by_cases h12:(M:Int)<=12
     ·have hM12:M<=12:=by omega
      have hfs:∀ X,Ext wr X->Ext W9 X->Be 35 #[.slice A0 m0.length c0,.agg #[.bool b1,.slice A1 n1 c1,.bool b2,.slice A2 n2 c2,.bool b3,.slice A3 n3 c3,.bool b4,.slice A4 n4 c4],.int .i64 (M:Nat)] X (fun r w'=>Es w' r P.1 P.2):=fun X x _=>by
       rw[HP.out.1];exact HS.out.2.2.1 M hM12 X x
      have hsm:∀ X,Ext W9 X->∀ v,Es X v P.1 P.2->Be 33 #[.agg #[.bool f1,.slice F1 e1 t1,.bool f2,.slice F2 e2 t2,.bool f3,.slice F3 e3 t3,.bool f4,.slice F4 e4 t4],v] X (fun r _=>r = .bool true):=fun X x v hv =>
       Ag.imp (Ml _ v P.1 P.2 P.1 P.2 X ⟨_,_,_,_,_,_,_,_,_,_,_,_,_,_,_,_,rfl,HP.out.2.1.ext x,HP.out.2.2.ext x⟩ hv) fun _ _ h=>by rw[h,decide_eq_true ⟨rfl,rfl⟩]
      have HF:=Ad (Ai hfs hsm);clear hfs hsm hM12;have HD:=Ad (show decide ((M:Int)<=12)=true from decide_eq_true h12);clear h12;refine Cu 15 [82,83,84,85,86,87,88,89,90,91,92,93,94,95,96] [10,1,9,0,5,8] [_,_,_,_,_,_] [(kv ?_),(kv ?_),(kv ?_),(kv ?_),(kv (.bool true)),(kv ?_),(kv ?_),(kv ?_),(kv ?_),(kv ?_),(kv ?_),(kv ?_),(kv ?_),(fun γ=>γ 13),(kv (.bool true))] (fun γ w'=>[True,True,True,True,True,True,True,True,True,True,True,True,True,Es w' (γ 13) P.1 P.2,True]) ?s2 ?_
      case s2 =>
       iterate 15 refine⟨?_,?_⟩
       trivial
       iterate 3 focus
        refine AX fun _ w' he R hR=>?_;have hc:=he.cells;go_simp;(try go_ints);(try(rw[if_neg Aa]));(try(rw[if_pos Aa]));(try go_simp);(try go_ints)
        exact Bo hR
       iterate 1 focus
        intro γ w' he hf;clear hf;refine⟨by trivial,?_⟩;intro R hR;have hc:=he.cells;go_simp;exact Bo hR
       ·intro γ w' he hf;clear hf;refine⟨rfl,?_⟩;intro R hR
        have hc:=he.cells;go_simp
        (try go_ints);(try(rw[if_neg Aa]));(try(rw[if_pos Aa]));(try go_simp);(try go_ints)
        refine hR _ _ (Ext.refl _) ?_ trivial;rw[HD.out];rfl
       iterate 8 focus
        intro γ w' he hf;clear hf;refine⟨by trivial,?_⟩;intro R hR;have hc:=he.cells;have cq0:=(er.ext he).cells8;have cq1:=he.cell q0;have cq2:=he.cell q1;have cq3:=he.cell q2;have cq4:=he.cell q3;have cq5:=he.cell q4;have cq6:=he.cell q5;have cq7:=he.cell q6;have cq8:=he.cell q7;go_simp;(try go_ints);(try(rw[if_neg Aa]));(try(rw[if_pos Aa]));(try go_simp);(try go_ints)
        exact Bo hR
       ·intro γ w' he hf;clear hf;refine⟨rfl,?_⟩;intro R hR
        have h9:=HF.out.1 w' (hx10.trans he) he;go_simp;refine AB h9 ?_;rintro v w2 hv hx;exact⟨v,rfl,hR v w2 hx rfl hv⟩
       ·intro γ w' he hf;have f13:Es w' (γ 13) P.1 P.2:=hf 13 Ab;clear hf;refine⟨rfl,?_⟩;intro R hR
        go_simp;exact Ku (HF.out.2 w' he _ f13) hR
      intro γ w11 hx11 hF;have p13:Es w11 (γ 13) P.1 P.2:=Ak.get hF 13 Ab;clear hF;simp only[Bf,Nat.reduceAdd];generalize γ 13=g13 at *;clear γ;have hx12:=hx10.trans hx11;clear p13;go_wp2
      go_meet
      case rel=>exact⟨rfl,hx12⟩
     ·rename_i hJ hM'
      have hd12:decide ((M:Int)<=12)=false:=decide_eq_false h12
      go_region
      refine hM' _ _ (Met.intro (hJ _ _ ?_))
      (repeat apply Exists.intro)
      refine⟨?rel,rfl⟩
      case rel=>exact⟨rfl,hx10.trans (Ext.refl _).drew⟩
    case rest =>
    clear cer fer er q0 q1 q2 q3 q4 q5 q6 q7 hx10;obtain⟨rfl,hx13⟩:=hcut;have hx14:=hy.trans hx13;go_wp2
    go_roundw
    case rel=>exact⟨k+1,Aa,by go_num,hx14⟩
    case measure=>simp[intOf];omega
  ·obtain rfl:k=L.length:=by omega
   have hx8:=hx.trans hy;go_wp2
   go_ret
   exact Ag.mk rfl hx8
open Go.ChangeShapes Go.WideShapes Go.ChangeAt
open Go.ChangeMaps (open_string shut_string)
theorem own_:ownKnob Tryz.prog.godebug=none:=by kernel_rfl
theorem laidOut_:laidOutB Tryz.prog=true:=by kernel_rfl
set_option maxRecDepth 100000 in
theorem realrootsIsolates_lifted(os:Os)(started:os.Started)(H:Type)(enc:TypeId×Value->H)(F:Stop.Interp) :
  ReturnsInHanded {} Tryz.checked os 6 .any ((Rows.OpenSpec.upto Rows.realrootsIsolatesSpec).pre6 enc Tryz.prog Tryz.f6 Rows.realrootsIsolatesUptoRow.domain false) (((Rows.OpenSpec.upto Rows.realrootsIsolatesSpec).at F).post enc Tryz.prog Tryz.f6 false true false false):=by
 refine returnsInHanded_of_cond (C:=Tryz.checked) (s:=Rows.OpenSpec.upto Rows.realrootsIsolatesSpec) (k:=Rows.uptoSmall) rfl own_ started G8 Tryz.func6
  (OpenSpec.witness (enc:=enc) (C:=Tryz.checked) (s:=Rows.OpenSpec.upto Rows.realrootsIsolatesSpec) (k:=Rows.uptoSmall) rfl false ⟨#[],#[.slice none 0 0,.int .i64 0],[]⟩ 8 G8 G8 G8
   (x:=([.nil,.lit (.int .i64 0)],[],[])) G8 rfl G8) ?_
 intro W base args ds gs before hval hW _ hk _;have hW':=hW;obtain⟨p,q,hA0,hV,rfl,hfz,hnd⟩:=hW;have hA:DataW.TrodAll enc Tryz.prog W 0 (fun _=>true) true Tryz.f6.params.toList args.toList ds p:=hA0;rw[Tryz.params6]at hA hval;obtain⟨v0,v1,d0,d1,p0,p1,hargs,rfl,rfl,h0,h1⟩:=trodAll_two hA;obtain rfl:args=#[v0,v1]:=by cases args;simp_all
 obtain⟨rfl,rfl⟩:=trodVars_none hV;have lt0:∀ x∈p0,x.block < W.heap.size:=by obtain⟨m,hm⟩:=h0;exact DataW.trod_lt m _ _ _ hm
 have hkk:=of_decide_eq_true hk;have hb0:Rows.uptoBulk d0<=1048576:=Nat.le_trans (Lp (d:=d0) (l:=[d0,d1] ++ []) Ac) hkk;obtain⟨l0,w0,b0⟩:∃ l,En W v0 l/\Tp l:=by
  obtain⟨m,hm⟩:=h0;have hs:=okWide_slice Tryz.underlying23 (hval 0 23 v0 rfl rfl);obtain⟨l,hl⟩:=TB Tryz.underlying23 hm hs;exact⟨l,hl,VM Tryz.underlying23 hm hs hl hb0⟩
 obtain⟨a1,rfl,rfl,rfl,w1⟩:=open_int Tryz.underlying3 (hval 1 3 v1 rfl rfl) h1;clear hA0 hkk hk;refine(Pq v0 a1 l0 W w0 b0).mono fun e W' ⟨v,he,hv,bel⟩=>?_;subst he hv;exact⟨_,rfl,_,_,_,[],_,[],hW',trodAll_mk1 (shut_bool Tryz.underlying4 _),(trodAll_cons_mk (Below.trod laidOut_ G8 (of_decide_eq_true G8) h0 bel lt0) (trodAll_cons_mk (shut_int Tryz.underlying3 w1) trodAll_mk0)),rfl,bel.frame _,fun h=>by cases h⟩
theorem realrootsIsolates_over:Rows.realrootsIsolatesUptoRow.holds Tryz.pinned (Rows.OpenSpec.upto Rows.realrootsIsolatesSpec):=
 OpenClaim.holds_of_cond 6 Tryz.f6 rfl rfl rfl rfl rfl rfl rfl ⟨rfl,rfl,rfl,rfl,rfl⟩ rfl rfl rfl rfl rfl G8 Tryz.func6 G8
  (of_decide_eq_true G8) (by unfold Func.isWrapper;first | (rw[if_pos (by decide +kernel)];kernel_rfl) | (rw[if_neg (by decide +kernel)];exact⟨rfl,rfl⟩))
  (fun os started H enc _ F=>realrootsIsolates_lifted os started H enc F)
theorem realrootsIsolates_proved:Rows.RealrootsIsolatesUptoSaid:=realrootsIsolates_over
end Go.Proofs.YtmhgnigpmompmaaGreat
