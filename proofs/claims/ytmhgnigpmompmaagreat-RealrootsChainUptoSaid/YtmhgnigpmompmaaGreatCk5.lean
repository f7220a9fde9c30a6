/- Lemmas: The walk of zpoly.Eval. The walks of the reference's Eval and Compose over integers. Sturm's theorem on one small cell, in rational numbers alone. Plain. The walks of changes, on both sides. The walk of zpoly.Gcd. The walk of zpoly.SquareFree. Composition: what both sides compute, from the highest coefficient on. Plain. The walk of the reference's Compose. The walk of zpoly.Compose. The walks of simple, count and in. The walks of factor.prepare, factor.bound, factor.Bound and realroots.prepare. The walks of factor.Bound and realroots.prepare. The walk of counter.in. A region that draws its order, one operation of whose first part may come late, and whose new blocks are told apart. The walk of the reference's Divide over the integers. The walks of the reference's PseudoDiv and Gcd over the integers. The walk of the reference's Gcd over the integers. The walk of the reference's SquareFree. The walk of the reference's Free. The walk of the reference's Count. The walks of middle, one and half. The walks of one and half. The walk of the reference's Half. The walk of copied. Sturm's theorem: a chain's values on small cells. Plain. Sturm's theorem: on intervals. Plain. Counting roots: what Sturm's counts say about signs, zeros and products. Plain. How large a factor over the integers is: its absolute values. Plain. Cauchy's bound as both sides compute it. Plain. How near to each other roots may be: bounds in powers of two. Plain. Square-free polynomials and their roots; the roots of a greatest common divisor. Plain. Roots do not lie too near to each other. Plain. Rows that are appended to: where they lie; rows of intervals. Plain. The nodes of a bisection: where they lie, how large their numbers are. Plain. The walk of realroots.isolate. The walk of rational.Abs. The walk of the reference's Abs of a fraction. The walk of realroots.bound. The walks of Bound, Chain, whole, Count, Total and Isolate (realroots). The walks of Bound, Count and Isolate (realroots). Small polynomials: the room that they need, and how near their roots lie. Plain. awake's polynomial x^2 - 2. Plain. The walks of the helpers of the statements about zpoly: Zs, long. The helpers of the statements about realroots: span, Same; intervals in a row. The walk of awake of the statements about realroots. The walk of light of the statements about realroots. The walk of the reference's Bound. -/
import Derived.Test.YtmhgnigpmompmaaGreatCk1
import Derived.Test.YtmhgnigpmompmaaGreatCk2
import Derived.Test.YtmhgnigpmompmaaGreatCk3
import Derived.Test.YtmhgnigpmompmaaGreatCk4
import Derived.Deep.RegionHeld3
set_option linter.unusedVariables false
set_option linter.unusedSimpArgs false
namespace Go.Hp
open Go.RowKit
def hac{n:Nat}(F:Nat→Rat)(x:Rat)(pre:List (Fin n)):Rat:=pre.foldl (fun a p=>a*x+F p.1) 0
theorem Qw{n:Nat}(F:Nat→Rat)(x:Rat)(pre:List (Fin n))(p:Fin n):hac F x (pre ++ [p])=hac F x pre*x+F p.1:=by simp[hac]
theorem XQ{n:Nat}(F:Nat→Rat)(x:Rat):∀ k (h:k≤n),hac F x (dz n k h)=hor F x n (n - k)
 | 0,h=>by rw[Nat.sub_zero,Tg];rfl
 | k+1,h=>by
  rw[OV h,Qw,XQ F x k Aa,M4 F x (show n - (k+1) < n by omega),show n - (k+1)+1=n - k from by omega];show hor F x n (n - k)*x+F (n - 1 - k)=_;rw[show n - 1 - k=n - (k+1)from by omega]
theorem Yd{n s t:Nat}{F:Nat→Rat}{x:Rat}(hF:∀ i,qsz (F i)≤s)(hx:qsz x≤t)(pre:List (Fin n)):qsz (hac F x pre)≤1+pre.length*(s+t+1):=by
 have key:∀(pre:List (Fin n)) (a:Rat),qsz (pre.foldl (fun a p=>a*x+F p.1) a)≤qsz a+pre.length*(s+t+1):=by
  intro pre;induction pre with
  | nil=>intro a;simp
  | cons p pre ih =>
   intro a;have h1:=ih (a*x+F p.1);have h2:=EA (a*x) (F p.1);have h3:=Cq a x;have h4:=hF p.1;rw[List.foldl_cons,List.length_cons,Nat.succ_mul];omega
 have:=key pre 0;have h0:qsz (0:Rat)=1:=by decide
 unfold hac;omega
end Go.Hp
namespace Go.Proofs.YtmhgnigpmompmaaGreat
open Go.RowKit Go.Hp Go.Shelf
attribute [local go_sem] Oper.semAt_some
set_option maxRecDepth 100000 in
set_option maxHeartbeats 4000000 in
theorem Yp(v u:Value)(l:List Int)(x:Rat)(s t:Nat)(w:World)(hv:EI 0 w v l)(hu:BQ w u x)(hs:∀ i,qsz (cz l i)≤s)(ht:qsz x≤t)(hK:1+l.length*(s+t+1)+s+t+1≤274877906944)(hn:l.length≤2748779069) :
  Calls Tryz.prog 90 #[v,u] w (Ad w fun r w'=>Bw w' r (CK l.length (cz l) x)):=by
 have HU:=Lib.hid hu;obtain⟨b1,A1,n1,c1,b1',A1',n1',c1',x0,y0,rfl,-⟩:=hu.form;obtain⟨A,c,rfl,hl,hc,hA⟩:=hv;clear hu;have HA:Hid (I1 0 w A l):=Lib.hid hA;clear hA;have HS:=Lib.hid (And.intro hs ht);clear hs ht;refine(callsIn_wide (n:=5)).1 ?_;refine callsIn_of_wp_marks Tryz.func90 rfl trivial ?_ rfl;simp only[Tryz.ntmps90,List.size_toArray,List.length_cons,List.length_nil,Nat.reduceAdd,Nat.reduceSub,Array.replicate_succ,Array.replicate_zero,List.push_toArray,List.append_toArray,List.nil_append,List.cons_append]
 gi_wp2_with (refine⟨trivial,?_⟩;gi_at_call 120;refine(callsIn_wide.2 (X5 0 _ Aa Aa)).mono ?_;rintro e w1 ⟨r1,rfl,hr1,hx1⟩;obtain⟨b5,A5,n5,c5,b6,A6,n6,c6,rfl⟩:=hr1.cells)
 obtain⟨W9,eW9,e9,x9⟩:=Be.made w1 28 #[.bool b5,.slice A5 n5 c5,.bool b6,.slice A6 n6 c6] (by simp[Ag]);rw[←eW9];clear eW9;have hgb:w.heap.size+1+1≤w1.heap.size:=by have:=hx1.size;simpa using this
 have eb:=CL.mk e9 (hr1.ext x9);replace hx1:=hx1.trans x9;clear x9 hr1 e9;generalize w1.heap.size=gb at *;refine⟨trivial,?_⟩
 gi_at_call 139
 refine(Xa _ _ trivial rfl _ _ _ _).mono ?_;rintro e w2 ⟨rfl,rfl⟩
 gi_wp2
 obtain⟨WA,hWA⟩:∃ WA,(w.alloc (.cells #[.bool b1,.slice A1 n1 c1,.bool b1',.slice A1' n1' c1'] 28)).alloc (.cells #[.bool false,.slice none 0 0,.bool false,.slice none 0 0] 28)=WA:=⟨_,rfl⟩
 have hAsz:WA.heap.size=w.heap.size+2:=by rw[←hWA];simp
 have eu:Be WA w.heap.size 28 #[.bool b1,.slice A1 n1 c1,.bool b1',.slice A1' n1' c1']:=by rw[←hWA];exact(Be.new w _ _ (by simp[Ag])).alloc _
 have ez:Be WA (w.heap.size+1) 28 #[.bool false,.slice none 0 0,.bool false,.slice none 0 0]:=by
  have:=Be.new (w.alloc (.cells #[.bool b1,.slice A1 n1 c1,.bool b1',.slice A1' n1' c1'] 28)) 28 #[.bool false,.slice none 0 0,.bool false,.slice none 0 0] (by simp[Ag]);rw[World.size_alloc]at this;rw[←hWA];exact this
 rw[hWA]at hx1;have hwA:Ext w WA:=by rw[←hWA];exact((Below.refl w.heap.size w).alloc (Nat.le_refl _) _).alloc Ac _
 clear hWA;have hgW:gb < W9.heap.size:=eb.lt;obtain⟨enc,hE,hcs⟩:∃ enc:Fin l.length→Value,(∀ j,Bj w (enc j) l[j.1])∧(0 < l.length→∃ b off,A=some ⟨b,off,none⟩∧b < WA.heap.size∧∀ j (hj:j < l.length),FB (W9.alloc (.cells #[.slice A l.length c] 23)) b (off+j*2) (enc ⟨j,hj⟩)):=by
  have key:∀ j:Fin l.length,∃ e:Value,Bj w e l[j.1]∧∃ b off,A=some ⟨b,off,none⟩∧b < w.heap.size∧FB (W9.alloc (.cells #[.slice A l.length c] 23)) b (off+j.1*2) e:=by
   rintro⟨j,hj⟩;obtain⟨g,o,b,A2,n,c2,rfl,_,q0,q1,hq⟩:=HA.out.at_ (j:=j) hj;have X:=hwA.trans (hx1.alloc (.cells #[.slice (some ⟨g,o,none⟩) l.length c] 23));exact⟨_,hq,g,o,rfl,World.block_lt_of_cell? w _ q0,_,_,_,_,rfl,X.cell q0,X.cell q1⟩
  refine⟨fun j=>Classical.choose (key j),fun j=>(Classical.choose_spec (key j)).1,fun h0=>?_⟩;obtain⟨-,b,off,e1,e2,-⟩:=Classical.choose_spec (key ⟨0,h0⟩);refine⟨b,off,e1,Aa,fun j hj=>?_⟩;obtain⟨-,b',off',e1',-,e3⟩:=Classical.choose_spec (key ⟨j,hj⟩);rw[e1]at e1';cases e1';exact e3
 have HE:=Lib.hid hE;clear hE;obtain⟨W2,hW2⟩:∃ W2,W9.alloc (.cells #[.slice A l.length c] 23)=W2:=⟨_,rfl⟩
 have h2sz:W2.heap.size=W9.heap.size+1:=by rw[←hW2];simp
 have hb2:W2.cell? ⟨W9.heap.size,0,none⟩=some (.slice A l.length c):=by rw[←hW2];exact(Boxed.new W9 _ _).cell
 have eb2:CL W2 gb 28 ((0:Int):Rat):=by
  rw[←hW2];obtain⟨b,A1,n,c,b',A1',n',c',h1,h2⟩:=eb;exact CL.mk (h1.alloc _) (h2.ext ((Below.refl _ W9).alloc (Nat.le_refl _) _))
 have hx2:Ext WA W2:=by rw[←hW2];exact hx1.alloc _
 rw[hW2]at hcs ⊢;clear hW2 eb hx1;refine wpIn_rangeFunc_ownH rfl Aa (gf:=171) (lb:=#[.pointer (some ⟨W9.heap.size,0,none⟩)]) rfl trivial (enters_of Tryz.func171 FE rfl)
  (QT _ _ trivial rfl Aa W9.heap.size WA.heap.size l.length c A enc Aa W2 Aa hx2.size hb2 hcs) Vx.trans (dN hx2.size) (Below.refl _ _) (fun _=>rfl)
  (fun pre W=>CL W gb 28 (hac (cz l) x pre)∧Below WA.heap.size WA W)
  (fun _ _ _=>False)
  (fun pre A B row hs hg hr=>⟨hs.1.own hg (fun r e=>(hr r e).2),ownFrom_below (β:=Unit) (Nat.le_refl _) hx2.size () A B row hs.2 hg hr⟩)
  (fun _ _ _ _ _ hs _ _=>hs)
  ⟨eb2,hx2⟩
  (fun p a' W=>∃ Bx b A2 n2 c2,enc p = .agg #[.bool b,.slice A2 n2 c2]∧Be W Bx 26 #[.bool b,.slice A2 n2 c2]∧a'={ tmps:=#[.slice A l.length c,.agg #[.bool b1,.slice A1 n1 c1,.bool b1',.slice A1' n1' c1'],undef,.pointer (some ⟨w.heap.size,0,none⟩),.pointer (some ⟨w.heap.size+1,0,none⟩),.pointer (some ⟨gb,0,none⟩),undef,.pointer (some ⟨Bx,0,none⟩),.agg #[.bool b5,.slice A5 n5 c5,.bool b6,.slice A6 n6 c6],.slice A l.length c,.func (.func 171) #[] #[.pointer (some ⟨W9.heap.size,0,none⟩)],.int .i64 (p.1:Nat),.agg #[.bool b,.slice A2 n2 c2],undef,undef,undef,undef,undef,undef,undef],defers:=[] })
  (fun p a' _ X Y row hs hg hr=>by obtain⟨Bx,b,A2,n2,c2,k2,k3,k4⟩:=hs;exact⟨Bx,b,A2,n2,c2,k2,k3.own hg (fun r e=>(hr r e).2),k4⟩)
  ?assign ?body ?done ?stop
 case assign =>
  rintro lp pre p W K ⟨hi,hB⟩ hK;obtain⟨b,A2,n2,c2,hpv⟩:=(HE.out p).cells;have HK:=Lib.hid hK;clear hK;have HI:=Lib.hid (And.intro hi hB);clear hi
  gi_wp2
  obtain⟨W9,eW9,e9,x9⟩:=Be.made W 26 #[.bool b,.slice A2 n2 c2] (by simp[Ag]);rw[←eW9];refine HK.out _ _ ⟨x9.size,fun k o _ h0 _=>x9.blk h0⟩ ⟨x9.mono hB.size,fun v h=>x9.cell h⟩ ⟨HI.out.1.ext x9,hB.trans (x9.mono hB.size)⟩ ⟨W.heap.size,b,A2,n2,c2,hpv,e9,rfl⟩
 case body =>
  rintro lp pre p a' W hl0 ⟨r,hr⟩ ⟨hi,hB⟩ ⟨Bx,b,A2,n2,c2,k2,k3,rfl⟩ hlt;have HQ:=Lib.hid (show Bj w (.agg #[.bool b,.slice A2 n2 c2]) l[p.1]from k2▸HE.out p);have HPl:=Lib.hid (show((l[p.1]:Int):Rat)=cz l p.1 from by rw[Cr p.2]);have HR:=Lib.hid (show qsz (hac (cz l) x pre)≤274877906944∧qsz (hac (cz l) x pre*x)≤274877906944∧qsz (cz l p.1) < 274877906944 by
   have h1:=Yd HS.out.1 HS.out.2 pre;have h2:=Cq (hac (cz l) x pre) x;have h3:=HS.out.2;have h4:=HS.out.1 p.1;have h5:pre.length*(s+t+1)≤l.length*(s+t+1):=Nat.mul_le_mul_right _ Aa;omega)
  obtain⟨z1,Z1,zn,zc,z2,Z2,zn',zc',eg,hz⟩:=hi;have Hz:=Lib.hid hz;clear hz;have hB':Ext WA W:=hB;have euW:=eu.ext hB';obtain⟨g0,g1,g2,g3⟩:=eg.cells4;obtain⟨u0,u1,u2,u3⟩:=euW.cells4;obtain⟨e0,e1⟩:=k3.cells2;have fg:=eg.frozen
  gi_wp2
  have hmx:Tryz.prog.follows .mixedOrders=true:=by kernel_rfl
  have xd:Ext W W.drew:=Below.drew (Below.refl _ W);have xA:=(hwA.trans hB').trans xd;have hm1:=(Hz.out.ext xd).has HR.out.1;have hm2:=HU.out.ext xA;have hm3:=HQ.out.ext xA;have Hm:=Lib.hid (And.intro hm1 (And.intro hm2 hm3));clear hm1 hm2 hm3
  gi_region_with_o (first | (refine⟨trivial,?_⟩;gi_at_call 140;refine(CallsIn.inRound lp (callsIn_wide.2 (VU _ _ (hac (cz l) x pre) x _ Hm.out.1 Hm.out.2.1))).mono ?_;rintro e w5 ⟨r5,rfl,hr5,hx5⟩;obtain⟨b7,A7,n7,c7,b8,A8,n8,c8,rfl⟩:=hr5.cells;have v0:=(xd.trans hx5).cell e0;have v1:=(xd.trans hx5).cell e1;have HmA:=Lib.hid (Hm.out.2.2.ext hx5);have Hr5:=Lib.hid hr5;clear hr5) | (refine⟨trivial,?_⟩;gi_at_call 102;refine(CallsIn.inRound lp (callsIn_wide.2 (GX _ _ _ HmA.out))).mono ?_;rintro e w4 ⟨r4,rfl,hr4,hx4⟩;obtain⟨b9,A9,n9,c9,b10,A10,n10,c10,rfl⟩:=hr4.cells;have HF:=Lib.hid (And.intro (Hr5.out.ext hx4) (And.intro (HPl.out▸hr4) ((xd.trans hx5).trans hx4)));clear hr4) | (refine⟨trivial,?_⟩;gi_at_call 102;refine(CallsIn.inRound lp (callsIn_wide.2 (GX _ _ _ Hm.out.2.2))).mono ?_;rintro e w4 ⟨r4,rfl,hr4,hx4⟩;obtain⟨b9,A9,n9,c9,b10,A10,n10,c10,rfl⟩:=hr4.cells;have y0:=(xd.trans hx4).cell g0;have y1:=(xd.trans hx4).cell g1;have y2:=(xd.trans hx4).cell g2;have y3:=(xd.trans hx4).cell g3;have t0:=(xd.trans hx4).cell u0;have t1:=(xd.trans hx4).cell u1;have t2:=(xd.trans hx4).cell u2;have t3:=(xd.trans hx4).cell u3;have HmB:=Lib.hid (And.intro (Hm.out.1.ext hx4) (Hm.out.2.1.ext hx4));have Hr4:=Lib.hid hr4;clear hr4) | (refine⟨trivial,?_⟩;gi_at_call 140;refine(CallsIn.inRound lp (callsIn_wide.2 (VU _ _ (hac (cz l) x pre) x _ HmB.out.1 HmB.out.2))).mono ?_;rintro e w5 ⟨r5,rfl,hr5,hx5⟩;obtain⟨b7,A7,n7,c7,b8,A8,n8,c8,rfl⟩:=hr5.cells;have HF:=Lib.hid (And.intro hr5 (And.intro (HPl.out▸Hr4.out.ext hx5) ((xd.trans hx4).trans hx5)));clear hr5) | (refine⟨trivial,?_⟩;gi_at_call 123;refine(CallsIn.inRound lp (callsIn_wide.2 (Tf _ _ (hac (cz l) x pre*x) (cz l p.1) _ (HF.out.1.has HR.out.2.1) (HF.out.2.1.has (Nat.le_of_lt HR.out.2.2))))).mono ?_;rintro e w6 ⟨r6,rfl,hr6,hx6⟩;obtain⟨b11,A11,n11,c11,b12,A12,n12,c12,rfl⟩:=hr6.cells;have x6:=HF.out.2.2.trans hx6;have eg6:=eg.ext x6;have f6:=eg6.frozen;obtain⟨s0,s1,s2,s3⟩:=eg6.cells4;have Hr6:=Lib.hid hr6;clear hr6))
  all_goals gi_wp2
  all_goals
   obtain⟨W7,eW7,e7,U7⟩:=eg6.put4 (.bool b11) (.slice A11 n11 c11) (.bool b12) (.slice A12 n12 c12) rfl rfl rfl rfl;have kf:=eP W2.heap.size x6 eW7;have kb:=aR (n₀:=WA.heap.size) (x6.mono hB'.size) eW7 Aa;have kq:=CL.mk e7 (Hr6.out.kd U7.kd);rw[←Qw (cz l) x pre p]at kq;rw[←eW7];exact⟨kf,⟨kb,fun v h=>PK U7 CY (x6.cell h)⟩,kq,Below.trans hB kb⟩
 case done =>
  rintro D ys W hD rfl ⟨hi,hB⟩ hK;rw[XQ (cz l) x l.length (Nat.le_refl _),Nat.sub_self,QB]at hi;obtain⟨z1,Z1,zn,zc,z2,Z2,zn',zc',eg,hz⟩:=hi;obtain⟨g0,g1,g2,g3⟩:=eg.cells4;have hB':Ext WA W:=hB;have ezW:=ez.ext hB';obtain⟨z0',z1',z2',z3'⟩:=ezW.cells4;have fz:=ezW.frozen;have eW3:=ezW.put4 (.bool z1) (.slice Z1 zn zc) (.bool z2) (.slice Z2 zn' zc') rfl rfl rfl rfl;have hne:D≠w.heap.size+1:=by have:=hx2.size;omega
  have Hz:=Lib.hid hz;clear hz
  gi_wp2
  obtain⟨W3,eW3,e3,U3⟩:=eW3;rw[←eW3];clear eW3;have hK3:W3.heap[D]? = some (.deferred (some [])):=U3.1 D _ (by simpa using hne) hK;have e4:=e3.own (grownBy_putObj' W3 D (.deferred none)) (fun r e=>by cases e;exact⟨_,hK3,rfl⟩);have hx3:Ext w W3:=U3.2.2 w (hwA.trans hB') Ac;have hx4:Ext w (W3.putObj D (.deferred none)):=Below.trans hx3 (belowK_b (w:=w) (Nat.le_refl _) W3 D _ _ (by have:=hx2.size;omega) hK3 rfl rfl)
  have hz4:=(Hz.out.kd U3.kd).kd (KD.own (grownBy_putObj' W3 D (.deferred none)) (fun r e=>by cases e;exact⟨_,hK3,rfl⟩));refine⟨Ac,.inl ⟨_,_,rfl,run_takeDeferred hK3,?_⟩⟩;obtain⟨y0,y1,y2,y3⟩:=e4.cells4;exact⟨_,by simp[results,Tryz.f90,go_sem,y0,y1,y2,y3],Ad.mk hz4 hx4⟩
 case stop =>
  rintro D c pre W _ _ h _;exact h.elim
end Go.Proofs.YtmhgnigpmompmaaGreat
namespace Go.Proofs.YtmhgnigpmompmaaGreat
open Go.RowKit Go.Hp
/-! ### over polynomials -/
end Go.Proofs.YtmhgnigpmompmaaGreat
namespace Go.Hp
/-! ### absolute values -/
def ab(q:Rat):Rat:=if q < 0 then -q else q
theorem Ak(q:Rat):0≤ab q:=by unfold ab;split<;>grind
theorem GZ(q:Rat):ab (-q)=ab q:=by unfold ab;split<;>split<;>grind
theorem Ij{q t:Rat}:ab q≤t ↔ -t≤q∧q≤t:=by unfold ab;split<;>grind
theorem TT(q:Rat):q≤ab q:=by unfold ab;split<;>grind
theorem TV{q:Rat}:ab q=0↔q=0:=by unfold ab;split<;>grind
theorem FH(p q:Rat):ab (p+q)≤ab p+ab q:=by unfold ab;split<;>split<;>split<;>grind
theorem WZ(p q:Rat):ab (p - q)≤ab p+ab q:=by unfold ab;split<;>split<;>split<;>grind
theorem WI{q:Rat}:0 < ab q↔q≠0:=by unfold ab;split<;>grind
theorem Dw{q:Rat}(h:0≤q):ab q=q:=by unfold ab;split<;>grind
theorem PN{p q:Rat}(hp:p < 0)(hq:q < 0):0 < p*q:=by
 have:=Rat.mul_pos (a:=-p) (b:=-q) Aj Aj;grind
theorem JJ{p q:Rat}(hp:0 < p)(hq:q < 0):p*q < 0:=by
 have:=Rat.mul_pos (a:=p) (b:=-q) hp Aj;grind
theorem Cf(p q:Rat):ab (p*q)=ab p*ab q:=by
 have z0:ab 0=0:=rfl;by_cases p0:p=0
 ·rw[p0,Rat.zero_mul,z0,Rat.zero_mul]
 by_cases q0:q=0
 ·rw[q0,Rat.mul_zero,z0,Rat.mul_zero]
 by_cases a:p < 0<;>by_cases b:q < 0
 ·have:=PN a b;unfold ab;rw[if_neg (show ¬ p*q < 0 by grind),if_pos a,if_pos b];grind
 ·have:=JJ (show 0 < q by grind) a;unfold ab;rw[if_pos (show p*q < 0 by grind),if_pos a,if_neg b];grind
 ·have:=JJ (show 0 < p by grind) b;unfold ab;rw[if_pos (show p*q < 0 by grind),if_neg a,if_pos b];grind
 ·have:=Rat.mul_pos (show 0 < p by grind) (show 0 < q by grind);unfold ab;rw[if_neg (show ¬ p*q < 0 by grind),if_neg a,if_neg b]
theorem Ey{a b c d:Rat}(h1:a≤b)(h2:c≤d)(hc:0≤c)(hb:0≤b):a*c≤b*d:=by
 have e1:a*c≤b*c:=Rat.mul_le_mul_of_nonneg_right h1 hc;have e2:b*c≤b*d:=Rat.mul_le_mul_of_nonneg_left h2 hb;grind
/-! ### signs -/
def BA(q:Rat):Int:=if 0 < q then 1 else if q < 0 then -1 else 0
theorem Du{q:Rat}:BA q=0↔q=0:=by unfold BA;split<;>(try split)<;>grind
theorem Ed(q:Rat):BA q=0∨BA q=1∨BA q = -1:=by unfold BA;split<;>(try split)<;>simp
def KC:Int→List Int→Nat
 | _,[]=>0
 | last,s::l=>if s=0 then KC last l else(if last = -s then 1 else 0)+KC s l
inductive Jo:Int→List (Int×Int)→Prop
 | nil (σ:Int):Jo σ []
 | tight (σ p:Int) (l:List (Int×Int)) (hp:p≠0) (h:Jo p l):Jo σ ((p,p)::l)
 | loose (σ p q:Int) (l:List (Int×Int)) (h:Jo (-σ) l):Jo σ ((p,q)::(-σ,-σ)::l)
theorem QO{σ p:Int}(hσ:σ=1∨σ = -1)(hp:p=0∨p=1∨p = -1)(l:List Int):KC σ (p :: -σ::l)=1+KC (-σ) l:=by
 rcases hσ with rfl | rfl<;>rcases hp with rfl | rfl | rfl<;>simp[KC]
theorem QV{σ:Int}{l:List (Int×Int)}(h:Jo σ l):(σ=1∨σ = -1)→(∀ x∈l,(x.1=0∨x.1=1∨x.1 = -1)∧(x.2=0∨x.2=1∨x.2 = -1))→KC σ (l.map (·.1))=KC σ (l.map (·.2)):=by
 induction h with
 | nil σ=>intro _ _;rfl
 | tight σ p l hp h ih =>
  intro hσ hx;have hpq:=(hx (p,p) Ac).1;have hp1:p=1∨p = -1:=by rcases hpq with a | a | a;exact absurd a hp;exact .inl a;exact .inr a
  have:=ih hp1 (fun x hm=>hx x (by simp[hm]));simp only[List.map_cons,KC,if_neg hp,this]
 | loose σ p q l h ih =>
  intro hσ hx;have hpq:=hx (p,q) Ac;have hσ' : -σ=1 ∨ -σ = -1:=by rcases hσ with rfl | rfl;exact .inr rfl;exact .inl rfl
  have:=ih hσ' (fun x hm=>hx x (by simp[hm]));simp only[List.map_cons];rw[QO hσ hpq.1,QO hσ hpq.2,this]
structure Kb(m:Nat)(a b:Nat→Rat)(T d:Rat):Prop where
 t1:1≤T
 d0:0 < d
 sm:4*(T*(T*(T*(T*d)))) < 1
 lip:∀ i,i≤m→ab (a i - b i)≤T*d
 beza:∀ i,i < m→∃ U W,U*a i+W*a (i+1)=1∧ab U≤T∧ab W≤T
 bezb:∀ i,i < m→∃ U W,U*b i+W*b (i+1)=1∧ab U≤T∧ab W≤T
 reca:∀ i,i+2≤m→∃ q c,a i=q*a (i+1) - c*a (i+2)∧ab q≤T∧0 < c∧1≤T*c
 recb:∀ i,i+2≤m→∃ q c,b i=q*b (i+1) - c*b (i+2)∧ab q≤T∧0 < c∧1≤T*c
 lst:a m=b m∧a m≠0
 top:1≤m→∃ k r,b 0 - a 0=d*(k*a 1+d*r)∧0 < k∧1≤T*k∧ab r≤T
section
variable{m:Nat}{a b:Nat→Rat}{T d:Rat}
theorem Kb.small(h:Kb m a b T d):0 < T∧2*(T*d) < 1∧2*(T*(T*d)) < 1∧2*(T*(T*(T*d))) < 1∧0 < T*d∧0 < T*(T*d)∧T*d≤T*(T*d):=by
 have hT:0 < T:=by have:=h.t1;grind
 have hd:=h.d0;have e1:0 < T*d:=Rat.mul_pos hT hd;have e2:0 < T*(T*d):=Rat.mul_pos hT e1;have e3:0 < T*(T*(T*d)):=Rat.mul_pos hT e2;have f1:1*(T*(T*(T*d)))≤T*(T*(T*(T*d))):=Rat.mul_le_mul_of_nonneg_right h.t1 Aj;have f2:1*(T*(T*d))≤T*(T*(T*d)):=Rat.mul_le_mul_of_nonneg_right h.t1 Aj;have f3:1*(T*d)≤T*(T*d):=Rat.mul_le_mul_of_nonneg_right h.t1 Aj;have:=h.sm;refine⟨hT,?_,?_,?_,e1,e2,?_⟩<;>grind
theorem FQ{p q t:Rat}(h:ab (p - q)≤t)(hn:¬ (BA p=BA q∧BA p≠0)):ab p≤t∧ab q≤t:=by
 rw[Ij]at h;rw[Ij,Ij];unfold BA at hn;by_cases a1:0 < p<;>by_cases a2:p < 0<;>by_cases b1:0 < q<;>by_cases b2:q < 0<;>simp_all<;>grind
theorem TL{x y U W T d:Rat}(hT:0 < T)(h2:2*(T*(T*d)) < 1)(e:U*x+W*y=1)(hU:ab U≤T)(hW:ab W≤T)(hx:ab x≤T*d):1 < 2*(T*ab y):=by
 have h1:ab (U*x)≤T*(T*d):=by rw[Cf];exact Ey hU hx (Ak _) Aj
 have h3:ab (W*y)≤T*ab y:=by rw[Cf];exact Ey hW Aj (Ak _) Aj
 have h4:=TT (U*x);have h5:=TT (W*y);grind
theorem Od{p q:Rat}(h:ab (p - q) < ab p):BA p=BA q∧BA p≠0:=by
 unfold ab at h;unfold BA
 split at h<;>split at h<;>(split<;>(try split)<;>(try split)<;>(try split))<;>grind
theorem Kb.next_tight(h:Kb m a b T d){i:Nat}(hi:i < m)(hn:¬ (BA (a i)=BA (b i)∧BA (a i)≠0)) :
  (BA (a (i+1))=BA (b (i+1))∧BA (a (i+1))≠0)∧1 < 2*(T*ab (a (i+1)))∧1 < 2*(T*ab (b (i+1)))∧ab (a i)≤T*d∧ab (b i)≤T*d:=by
 obtain⟨hT,s1,s2,s3,p1,p2,p3⟩:=h.small;obtain⟨l1,l2⟩:=FQ (h.lip i Aa) hn;obtain⟨U,W,e,hU,hW⟩:=h.beza i hi;obtain⟨U',W',e',hU',hW'⟩:=h.bezb i hi;have b1:=TL hT s2 e hU hW l1;have b2:=TL hT s2 e' hU' hW' l2;have hl:=h.lip (i+1) Aa;refine⟨Od ?_,b1,b2,l1,l2⟩;refine Std.lt_of_le_of_lt hl ?_;rcases Std.lt_trichotomy (T*d) (ab (a (i+1)))with c | c | c
 ·exact c
 ·exfalso;rw[←c]at b1;grind
 ·exfalso
  have:=Rat.mul_lt_mul_of_pos_left c hT;grind
theorem U8{x y z q c T d:Rat}(hT:0 < T)(hc:0 < c)(hTc:1≤T*c)(hq:ab q≤T)(hy:ab y≤T*d)(hz:1 < 2*(T*ab z))(hs:4*(T*(T*(T*(T*d)))) < 1)(e:x=q*y - c*z)(hd:0 < T*d):BA z = - BA x∧BA x≠0:=by
 have h1:ab (q*y)≤T*(T*d):=by rw[Cf];exact Ey hq hy (Ak _) Aj
 have h2:T*(T*d) < c*ab z:=by
  -- 1 < 2 T |z| and 1≤T c
  have hz0:0≤ab z:=Ak z;have k1:1*(T*ab z)≤(T*c)*(T*ab z):=Rat.mul_le_mul_of_nonneg_right hTc (by have:=Rat.mul_nonneg (show 0≤T by grind) hz0;grind);have k2:2*(T*(T*(c*ab z))) > 1:=by grind
  have k3:T*(T*(T*(T*d))) < T*(T*(c*ab z)):=by grind
  rcases Std.lt_trichotomy (T*(T*d)) (c*ab z)with a | a | a
  ·exact a
  ·exfalso;rw[a]at k3;grind
  ·exfalso
   have m1:=Rat.mul_lt_mul_of_pos_left a hT;have m2:=Rat.mul_lt_mul_of_pos_left m1 hT;grind
 have h3:=Ij.1 h1;have hzne:z≠0:=fun e0=>by rw[e0]at hz;have:ab 0=0:=rfl;rw[this]at hz;grind
 rcases Std.lt_trichotomy z 0 with a | a | a
 ·have e1:ab z = -z:=by unfold ab;rw[if_pos a]
  rw[e1]at h2;have hx:0 < x:=by grind
  unfold BA;rw[if_neg (show ¬ 0 < z by grind),if_pos a,if_pos hx];exact⟨rfl,Ab⟩
 ·exact absurd a hzne
 ·have e1:ab z=z:=by unfold ab;rw[if_neg Aj]
  rw[e1]at h2;have hx:x < 0:=by grind
  unfold BA;rw[if_pos a,if_neg (show ¬ 0 < x by grind),if_pos hx];exact⟨rfl,Ab⟩
def Rf(a b:Nat→Rat)(i n:Nat):List (Int×Int):=(List.range n).map fun j=>(BA (a (i+j)),BA (b (i+j)))
theorem K9(a b:Nat→Rat)(i n:Nat):Rf a b i (n+1)=(BA (a i),BA (b i))::Rf a b (i+1) n:=by
 unfold Rf;rw[List.range_succ_eq_map,List.map_cons,List.map_map,Nat.add_zero];congr 1;refine List.map_congr_left fun j _=>?_;show(BA (a (i+(j+1))),BA (b (i+(j+1))))=(BA (a (i+1+j)),BA (b (i+1+j)));rw[show i+(j+1)=i+1+j by omega]
theorem Kb.good(h:Kb m a b T d):∀(n i:Nat),i+n=m→(BA (a i)=BA (b i)∧BA (a i)≠0)→Jo (BA (a i)) (Rf a b (i+1) n):=by
 intro n;induction n using Nat.strongRecOn with
 | ind n ih =>
  intro i hi ht
  match n,ih,hi with
  | 0,_,_=>exact Jo.nil _
  | n+1,ih,hi =>
   rw[K9];by_cases hn:BA (a (i+1))=BA (b (i+1))∧BA (a (i+1))≠0
   ·rw[←hn.1]
    exact Jo.tight _ _ _ hn.2 (ih n Aa (i+1) Aa hn)
   ·have hlt:i+1 < m:=by
     rcases Nat.lt_or_ge (i+1) m with c | c
     ·exact c
     ·exfalso
      have e:i+1=m:=by omega
      rw[e]at hn;exact hn ⟨by rw[h.lst.1],fun z=>h.lst.2 (Du.1 z)⟩
    obtain⟨hT,s1,s2,s3,p1,p2,p3⟩:=h.small;obtain⟨t1,t2,t3,t4,t5⟩:=h.next_tight hlt hn;obtain⟨q,c,e,hq,hc,hTc⟩:=h.reca i Aa;obtain⟨q',c',e',hq',hc',hTc'⟩:=h.recb i Aa;have o1:=(U8 hT hc hTc hq t4 t2 h.sm e p1).1;have o2:=(U8 hT hc' hTc' hq' t5 t3 h.sm e' p1).1
    match n,ih,hi with
    | 0,_,hi=>omega
    | n+1,ih,hi =>
     rw[K9];have ob:BA (b (i+1+1)) = - BA (a i):=by rw[ht.1];exact o2
     have oa:BA (a (i+1+1)) = - BA (a i):=o1;rw[ob,oa];refine Jo.loose _ _ _ _ ?_;rw[←oa];exact ih n Aa (i+1+1) Aa t1
theorem NM(a b:Nat→Rat)(i n:Nat):∀ x∈Rf a b i n,(x.1=0∨x.1=1∨x.1 = -1)∧(x.2=0∨x.2=1∨x.2 = -1):=fun x hx=>by
 obtain⟨j,-,rfl⟩:=List.mem_map.1 hx;exact⟨Ed _,Ed _⟩
def UZ(a:Nat→Rat)(n:Nat):Nat:=KC 0 ((List.range n).map fun j=>BA (a j))
theorem Yl(a b:Nat→Rat)(n:Nat):(Rf a b 0 n).map (·.1)=(List.range n).map fun j=>BA (a j):=by
 unfold Rf;rw[List.map_map];refine List.map_congr_left fun j _=>?_;simp
theorem Yw(a b:Nat→Rat)(n:Nat):(Rf a b 0 n).map (·.2)=(List.range n).map fun j=>BA (b j):=by
 unfold Rf;rw[List.map_map];refine List.map_congr_left fun j _=>?_;simp
theorem Kb.sturm(h:Kb m a b T d):UZ a (m+1)=UZ b (m+1)+(if BA (a 0)≠0∧BA (b 0)≠BA (a 0)then 1 else 0):=by
 have k1:UZ a (m+1)=KC 0 ((Rf a b 0 (m+1)).map (·.1)):=by rw[Yl];rfl
 have k2:UZ b (m+1)=KC 0 ((Rf a b 0 (m+1)).map (·.2)):=by rw[Yw];rfl
 rw[k1,k2,K9];simp only[List.map_cons];by_cases ht:BA (a 0)=BA (b 0)∧BA (a 0)≠0
 ·have hg:=h.good m 0 Aa ht
  have hσ:BA (a 0)=1∨BA (a 0) = -1:=by rcases Ed (a 0)with c | c | c;exact absurd c ht.2;exact .inl c;exact .inr c
  have:=QV hg hσ (NM _ _ _ _);rw[if_neg (fun q=>q.2 ht.1.symm)];simp only[KC,←ht.1,if_neg ht.2,this];rfl
 ·have hm:0 < m:=by
   rcases Nat.eq_zero_or_pos m with c | c
   ·subst c;exact absurd ⟨by rw[h.lst.1],fun z=>h.lst.2 (Du.1 z)⟩ ht
   ·exact c
  obtain⟨n,rfl⟩:∃ n,m=n+1:=⟨m - 1,Aa⟩
  obtain⟨hT,s1,s2,s3,p1,p2,p3⟩:=h.small;obtain⟨t1,t2,t3,t4,t5⟩:=h.next_tight hm ht;have hg:=h.good n 1 Aa t1;have hσ:BA (a 1)=1∨BA (a 1) = -1:=by rcases Ed (a 1)with c | c | c;exact absurd c t1.2;exact .inl c;exact .inr c
  have hv:=QV hg hσ (NM _ _ _ _);rw[K9];simp only[List.map_cons]
  -- the direction
  obtain⟨k,r,e,hk,hTk,hr⟩:=h.top Aa;have hd:=h.d0;have hdir:0 < ab (a 1)∧d*ab r < k*ab (a 1):=by
   have ha:0 < ab (a 1):=WI.2 fun z=>t1.2 (Du.2 z);refine⟨ha,?_⟩;have g1:d*ab r≤d*T:=Rat.mul_le_mul_of_nonneg_left hr Aj;have k1:1*(T*ab (a 1))≤(T*k)*(T*ab (a 1)):=Rat.mul_le_mul_of_nonneg_right hTk (by have:=Rat.mul_pos hT ha;grind);have k2:2*(T*(T*(k*ab (a 1)))) > 1:=by have:=t2;grind
   have k3:T*(T*(T*d)) < T*(T*(k*ab (a 1))):=by grind
   rcases Std.lt_trichotomy (T*d) (k*ab (a 1))with c | c | c
   ·grind
   ·exfalso;rw[c]at k3;grind
   ·exfalso
    have m1:=Rat.mul_lt_mul_of_pos_left c hT;have m2:=Rat.mul_lt_mul_of_pos_left m1 hT;grind
  have hup:(0 < a 1→a 0 < b 0)∧(a 1 < 0→b 0 < a 0):=by
   have hr2:=Ij.1 (Std.le_refl (ab r));have hdr:d*r≤d*ab r∧d*(-r)≤d*ab r:=⟨Rat.mul_le_mul_of_nonneg_left hr2.2 Aj,Rat.mul_le_mul_of_nonneg_left Aj Aj⟩
   refine⟨fun hp=>?_,fun hp=>?_⟩
   ·have e1:ab (a 1)=a 1:=by unfold ab;rw[if_neg Aj]
    rw[e1]at hdir;have:=Rat.mul_pos hd (show 0 < k*a 1+d*r by grind);grind
   ·have e1:ab (a 1) = - a 1:=by unfold ab;rw[if_pos hp]
    rw[e1]at hdir;have:=JJ hd (show k*a 1+d*r < 0 by grind);grind
  have hcase:(BA (a 0) = - BA (a 1)∧BA (b 0) ≠ - BA (a 1))∨(BA (a 0)=0∧BA (b 0)=BA (a 1)):=by
   rcases hσ with c | c
   ·have hp:0 < a 1:=by unfold BA at c;split at c;assumption;split at c<;>simp at c
    have h1:=hup.1 hp;rw[c];unfold BA at ht ⊢;by_cases a1:0 < a 0<;>by_cases a2:a 0 < 0<;>by_cases b1:0 < b 0<;>by_cases b2:b 0 < 0<;>simp_all<;>grind
   ·have hp:a 1 < 0:=by unfold BA at c;split at c;simp at c;split at c;assumption;simp at c
    have h1:=hup.2 hp;rw[c];unfold BA at ht ⊢;by_cases a1:0 < a 0<;>by_cases a2:a 0 < 0<;>by_cases b1:0 < b 0<;>by_cases b2:b 0 < 0<;>simp_all<;>grind
  have key:∀ p,(p=0∨p=1∨p = -1)→KC 0 (p::BA (a 1)::(Rf a b (0+1+1) n).map (·.2))=(if p = - BA (a 1)then 1 else 0)+KC (BA (a 1)) ((Rf a b (0+1+1) n).map (·.2)):=by
   intro p hp;rcases hσ with c | c<;>rw[c]<;>rcases hp with rfl | rfl | rfl<;>simp[KC]
  have e1:(0+1+1)=1+1:=rfl;have ez:BA (b (0+1))=BA (a 1):=t1.1.symm;rw[ez];have kb:=key (BA (b 0)) (Ed _);have ka:=key (BA (a 0)) (Ed _);have hx:KC 0 (BA (a 0)::BA (a (0+1))::(Rf a b (0+1+1) n).map (·.1))=KC 0 (BA (a 0)::BA (a 1)::(Rf a b (0+1+1) n).map (·.2)):=by
   have:BA (a (0+1))=BA (a 1):=rfl;rw[this];rcases hσ with c | c<;>rw[c]at hv ⊢ <;> rcases Ed (a 0)with q | q | q<;>rw[q]<;>simp only[KC]<;>simp[e1,hv]
  rw[hx,ka,kb];rcases hcase with⟨c1,c2⟩ | ⟨c1,c2⟩
  ·have n1:BA (a 0)≠0:=by rw[c1];rcases hσ with q | q<;>rw[q]<;>decide
   rw[if_pos c1,if_neg c2,if_pos ⟨n1,fun q=>c2 (q.trans c1)⟩];omega
  ·have n1:¬ (BA (a 0) = - BA (a 1)):=by rw[c1];rcases hσ with q | q<;>rw[q]<;>decide
   have n2:¬ (BA (b 0) = - BA (a 1)):=by rw[c2];rcases hσ with q | q<;>rw[q]<;>decide
   rw[if_neg n1,if_neg n2,if_neg (fun q=>q.1 c1)];omega
end
end Go.Hp
namespace Go.Hp
open Go.RowKit
theorem O5(q:Rat):KA q=BA q:=by
 unfold BA
 split
 ·rename_i h;exact Oq h
 ·split
  ·rename_i h1 h
   have h2:=K8 (q:=-q);have h3:(-q).num = -q.num:=rfl;have h4:0 < -q:=by grind
   have:=h2.2 h4;exact Int.sign_eq_neg_one_of_neg Aa
  ·rename_i h1 h2
   have:q=0:=by grind
   rw[this];rfl
noncomputable def V(l:List (Nat→Rat))(x:Rat):Nat:=KC 0 (l.map fun F=>BA (ev F x))
theorem XU(l:List Int):∀ σ,KC σ l≤l.length:=by
 induction l with
 | nil=>intro σ;exact Nat.le_refl _
 | cons s l ih =>
  intro σ;rw[KC]
  split
  ·have:=ih σ;simp;omega
  ·have:=ih s
   split<;>simp<;>omega
end Go.Hp
namespace Go.Proofs.YtmhgnigpmompmaaGreat
open Go.RowKit Go.Hp
theorem XJ(v u:Value)(F:Nat→Rat)(x:Rat)(s t n:Nat)(w:World)(hv:AQ 0 w v F)(hu:BQ w u x)(hs:∀ i,qsz (F i)≤s)(ht:qsz x≤t)(hn:pl F≤n)(hK:1+n*(s+t+1)+s+t+1≤274877906944)(hn9:n≤1000) :
  Calls Tryz.prog 90 #[v,u] w (Ad w fun r w'=>Bw w' r (ev F x)):=by
 obtain⟨l,a1,a2,-,a4⟩:=hv.hz (fun i=>by have:=hs i;omega);have hK2:l.length*(s+t+1)≤n*(s+t+1):=Nat.mul_le_mul_right _ Aa;have:=Yp v u l x s t w a1 hu (by rw[a4];exact hs) ht Aa Aa;rw[←EU (Cb l),a4]at this;exact this
set_option maxRecDepth 20000 in
set_option maxHeartbeats 4000000 in
theorem Va(v u:Value)(us:List Value)(l:List (Nat→Rat))(x:Rat)(base s t n:Nat)(w:World)(hv:Ib base 23 w v us l)(hu:BQ w u x)(hs:∀ F∈l,(∀ i,qsz (F i)≤s)∧pl F≤n∧Af F)(ht:qsz x≤t)
  (hK:1+n*(s+t+1)+s+t+1≤274877906944) (hn9:n≤1000) (hl:l.length≤1000) :
  Calls Tryz.prog 101 #[v,u] w (Ad w fun r _=>r = .int .i64 (V l x:Nat)):=by
 have HV:=Lib.hid hv;have HU:=Lib.hid hu;obtain⟨A0,c0,rfl⟩:=hv.shape;obtain⟨b,B,n1,c1,b',B',n1',c1',x0,y0,rfl,-⟩:=hu.form;clear hv hu;have hev:∀ W (x1:Ext w W) i (h:i < l.length) u,AQ 0 W u l[i]→Calls Tryz.prog 90 #[u,.agg #[.bool b,.slice B n1 c1,.bool b',.slice B' n1' c1']] W (Ad W fun r w'=>Bw w' r (ev l[i] x)):=fun W x1 i h u hu =>
  XJ u _ l[i] x s t n W hu (HU.out.ext x1) (hs _ (List.getElem_mem h)).1 ht (hs _ (List.getElem_mem h)).2.1 hK hn9
 have hqz:∀ i (h:i < l.length),qsz (ev l[i] x)≤274877906944:=fun i h=>by
  obtain⟨h1,h2,h3⟩:=hs _ (List.getElem_mem h);have h4:=RA ((AJ h3).mono h2) h1 ht;omega
 obtain⟨sg,hsg⟩:∃ sg,sg=l.map fun F=>BA (ev F x):=⟨_,rfl⟩
 have hsl:sg.length=l.length:=by rw[hsg,List.length_map]
 have hsi:∀ i (h:i < l.length) (h':i < sg.length),KA (ev l[i] x)=sg[i]:=fun i h h'=>by
  rw[O5];simp[hsg]
 have hsc:∀ i (h':i < sg.length),sg[i]=0∨sg[i]=1∨sg[i] = -1:=fun i h'=>by
  simp only[hsg,List.getElem_map];exact Ed _
 have hV:V l x=KC 0 sg:=by unfold V;rw[hsg]
 rw[hV];have HC:=Lib.hid (And.intro hev (And.intro hqz (And.intro hsi hsc)));clear hev hqz hsi hsc hs ht hK hsg hV
 go_enter Tryz.func101,Tryz.ntmps101
 have ea:=Be.new w 28 #[.bool b,.slice B n1 c1,.bool b',.slice B' n1' c1'] (by simp[Ag]);have hx:=(Ext.refl w).alloc (.cells #[.bool b,.slice B n1 c1,.bool b',.slice B' n1' c1'] 28)
 go_upto_region 1 with(fail)
 generalize w.alloc (.cells #[.bool b,.slice B n1 c1,.bool b',.slice B' n1' c1'] 28)=W0 at *;go_wp2
 go_loopw [5,6,12] (fun cv lv iv wr=>∃ (i cc:Nat) (la:Int),i≤l.length∧iv = .int .i64 (i:Nat)∧cv = .int .i64 (cc:Nat)∧cc≤i∧lv = .int .i64 la∧(la=0∨la=1∨la = -1)∧cc+KC la (sg.drop i)=KC 0 sg∧Be wr w.heap.size 28 #[.bool b,.slice B n1 c1,.bool b',.slice B' n1' c1']∧Ext w wr) (fun _ _ iv _=>l.length - (intOf iv).toNat)
 case atStart=>exact⟨0,0,0,Nat.zero_le _,rfl,rfl,Nat.le_refl _,rfl,.inl rfl,Ac,ea,hx⟩
 case round =>
  clear ea hx;obtain⟨i,cc,la,hi,rfl,rfl,hcc,rfl,hla,hval,ea,hx⟩:=hrel;have Hval:=Lib.hid hval;clear hval;by_cases hil:i < l.length
  ·obtain⟨g,o,E,d,rfl,hc,h5⟩:=(HV.out.ext hx).at_ hil
   have H5:=Lib.hid h5;clear h5;obtain⟨cea0,cea1,cea2,cea3⟩:=ea.cells4;have fea:=ea.frozen
   go_wp2_with fail
   refine Calls.mono (HC.out.1 _ hx i hil _ H5.out) ?_;rintro e w2 ⟨r2,rfl,hr2,hx2⟩
   go_wp2_with fail
   refine Calls.mono (Na _ _ _ (hr2.has (HC.out.2.1 i hil))) ?_;rintro e w3 ⟨r3,rfl,rfl,hx3⟩;rw[HC.out.2.2.1 i hil Aa];have hdrop:sg.drop i=sg[i]'(Aa)::sg.drop (i+1):=List.drop_eq_getElem_cons Aa;have hsc:=HC.out.2.2.2 i Aa;have hval:=Hval.out;rw[hdrop,KC]at hval;obtain⟨sv,hsv⟩:∃ sv,sv=sg[i]'(Aa):=⟨_,rfl⟩
   simp only[←hsv]at hval hsc ⊢;clear hsv hdrop Hval hc H5 hr2 cea0 cea1 cea2 cea3 fea;have x23:=hx2.trans hx3;replace ea:=ea.ext x23;replace hx:=hx.trans x23;clear x23;clear hx2 hx3;rcases hsc with rfl | hs1
   ·rw[if_pos rfl]at hval
    have Hval:=Lib.hid hval;clear hval;go_wp2
    go_roundw
    case rel=>exact⟨i+1,cc,la,Aa,by go_num,rfl,Aa,rfl,hla,Hval.out,ea,hx⟩
    case measure=>simp[intOf]<;>omega
   ·have hs0:sv≠0:=by rcases hs1 with h | h<;>rw[h]<;>decide
    rw[if_neg hs0]at hval;have hsb:(sv==0)=false:=by simpa using hs0
    by_cases hch:la = -sv
    ·rw[if_pos hch]at hval
     have Hval:=Lib.hid hval;clear hval;have hneg:la*sv = -1:=by rw[hch];rcases hs1 with h | h<;>rw[h]<;>decide
     have HS:=Lib.hid hs1;clear hs0 hch hs1;go_wp2
     go_roundw
     case rel=>exact⟨i+1,cc+1,sv,Aa,by go_num,by go_num,Aa,rfl,.inr HS.out,by have:=Hval.out;omega,ea,hx⟩
     case measure=>simp[intOf]<;>omega
    ·rw[if_neg hch]at hval
     have Hval:=Lib.hid hval;clear hval;have hneg:decide (la*sv < 0)=false:=by
      rcases hla with rfl | rfl | rfl<;>rcases hs1 with rfl | rfl<;>first | rfl | (exact absurd rfl hch)
     have HS:=Lib.hid hs1;have hw:wrap64 (la*sv)=la*sv:=by
      rcases hla with rfl | rfl | rfl<;>rcases hs1 with rfl | rfl<;>exact IntWalk.wrap64_in _ ⟨Aa,Aa⟩
     clear hs0 hch hs1;go_wp2
     go_roundw
     case rel=>exact⟨i+1,cc,sv,Aa,by go_num,rfl,Aa,rfl,.inr HS.out,by have:=Hval.out;omega,ea,hx⟩
     case measure=>simp[intOf]<;>omega
  ·obtain rfl:i=l.length:=by omega
   have hval:=Hval.out;rw[List.drop_eq_nil_of_le Aa]at hval;have hv2:cc=KC 0 sg:=hval;have Hv2:=Lib.hid hv2;clear hv2 hval Hval;go_wp2
   go_ret
   exact Ad.mk (by rw[←Hv2.out];rfl) hx
set_option maxRecDepth 20000 in
set_option maxHeartbeats 8000000 in
theorem bE(v u:Value)(l m:List Int)(S M:Nat)(w:World)(hv:EI 0 w v l)(hu:EI 0 w u m)(hs:∀ i,qsz (cz l i)≤S)(ht:∀ i,qsz (cz m i)≤S)(hn:l.length≤549755813888)(hm:m.length≤549755813888)(hM:(S+1)*2^(pl (cz l)+pl (cz m))≤M)(hB:M+(pl (cz l)+pl (cz m)+1)*(M+1)+M≤549755813888) :
  Calls Tryz.prog 42 #[v,u] w (Ad w fun r w'=>AQ 0 w' r (Ic (cz l) (cz m))):=by
 have HV:=Lib.hid hv;have HU:=Lib.hid hu;obtain⟨A0,c0,rfl⟩:=hv.len;obtain⟨A1,c1,rfl⟩:=hu.len;clear hv hu;have hc1:=BB (Cb l);have hc2:=BB (Cb m);have hSM:S+1≤M:=by
  have h:0 < 2^(pl (cz l)+pl (cz m)):=Nat.pow_pos Ab;have:=Nat.le_mul_of_pos_right (S+1) h;omega
 have hcn:sz (cn (cz l))≤S∧sz (cn (cz m))≤S:=⟨Gh hs _,Gh ht _⟩
 have hst:=Ia.start (Af.cz l) (Af.cz m) (ZI.cz l) (ZI.cz m) hs ht;have hP1:=fun W (x:Ext w W)=>F7 _ l W (HV.out.ext x) Aa;have hP2:=fun W (x:Ext w W)=>F7 _ m W (HU.out.ext x) Aa;have hC1:=Jr _ l w HV.out Aa;have hC2:=fun W (x:Ext w W)=>Jr _ m W (HU.out.ext x) Aa;have hz:=(show(∀ A,Ia (cz l) (cz m) (pl (cz l)+pl (cz m)) S A pz→psc ((Nat.gcd (cn (cz l)) (cn (cz m)):Nat):Rat) A=Ic (cz l) (cz m))from
  fun A h=>(WC (h.end_ (Af.cz l) (Af.cz m) (ZI.cz l) (ZI.cz m) rfl)).symm)
 have hpl:pl (cz l)+pl (cz m)≤1099511627776:=by omega
 obtain⟨F,hF⟩:∃ F,F=cz l:=⟨_,rfl⟩
 obtain⟨G,hG⟩:∃ G,G=cz m:=⟨_,rfl⟩
 rw[←hF]at hcn hC1;rw[←hG]at hcn;rw[←hF,←hG]at hM hB hst hz hpl ⊢;simp only[←hF]at hP1;simp only[←hG]at hP2 hC2;have HC:=Lib.hid (And.intro hC1 (And.intro hC2 (And.intro hP1 hP2)));have HX:=Lib.hid (And.intro hM (And.intro hB (And.intro hz (And.intro hcn hSM))));have HSt:=Lib.hid (And.intro hst hpl);clear hs ht hn hm hM hB hc1 hc2 hSM hcn hst hP1 hP2 hC1 hC2 hz hF hG hpl HV HU
 go_enter Tryz.func42,Tryz.ntmps42
 go_wp2_with fail
 refine Calls.mono HC.out.1 ?_;rintro e w1 ⟨r1,rfl,hr1,hx⟩
 go_wp2_with fail
 refine Calls.mono (HC.out.2.1 w1 hx) ?_;rintro e w2 ⟨r2,rfl,hr2,hx2⟩;have H12:=Lib.hid (And.intro ((hr1.kd hx2.kd).has (by have h1:=HX.out.2.2.2.1.1;have h2:=HX.out.2.2.2.2;have h3:=HX.out.2.1;simp;omega)) (hr2.has (by have h1:=HX.out.2.2.2.1.2;have h2:=HX.out.2.2.2.2;have h3:=HX.out.2.1;simp;omega)));replace hx:=hx.trans hx2;clear hr1 hr2 hx2
 go_wp2_with fail
 refine Calls.mono (Tm _ _ (cn F:Nat) (cn G:Nat) _ H12.out.1 H12.out.2) ?_;rintro e w3 ⟨r3,rfl,hr3,hx3⟩;obtain⟨b5,A5,n5,c5,rfl⟩:=hr3.cells;obtain⟨cc,hcc⟩:∃ cc:Nat,cc=Nat.gcd (cn F) (cn G):=⟨_,rfl⟩
 replace hr3:AC w3 (.agg #[.bool b5,.slice A5 n5 c5]) (cc:Nat):=by rw[hcc];exact hr3
 obtain⟨W4,eW4,e4,x4⟩:=Be.made w3 26 #[.bool b5,.slice A5 n5 c5] (by simp[Ag]);have ec:=Bh.mk e4 (hr3.kd x4.kd);replace hx:=(hx.trans hx3).trans x4;have HCC:=Lib.hid hcc;clear hx3 x4 hr3 e4 H12 hcc
 go_wp2_with fail
 rw[←eW4];clear eW4;generalize w3.heap.size=gc at *;refine Calls.mono (HC.out.2.2.1 W4 hx) ?_;rintro e w5 ⟨r5,rfl,hr5,hx5⟩;have ec5:=ec.ext hx5;replace hx:=hx.trans hx5;have H5:=Lib.hid (hr5.base_le (Nat.zero_le _));clear hr5 hx5
 go_wp2_with fail
 refine Calls.mono (HC.out.2.2.2 w5 hx) ?_;rintro e w6 ⟨r6,rfl,hr6,hx6⟩;replace ec5:=ec5.ext hx6;replace hx:=hx.trans hx6;have h5:=H5.out.ext hx6;have h6:=hr6.base_le (Nat.zero_le _);clear hr6 hx6 H5;go_wp2
 go_loopw [0,1] (fun fv gv wr=>∃ A B,AQ 0 wr fv A∧AQ 0 wr gv B∧Ia F G (pl F+pl G) S A B∧Bh wr gc 26 (cc:Nat)∧Ext w wr) (fun _ gv _=>Ra gv)
 case atStart=>exact⟨_,_,h5,h6,HSt.out.1,ec5,hx⟩
 case round =>
  clear h5 h6 ec5 hx ec;obtain⟨A,B,hA,hB,hst,ec,hx⟩:=hrel;obtain⟨A2,c2,rfl,-⟩:=hA.shape;obtain⟨A3,c3,rfl,-⟩:=hB.shape;have HA:=Lib.hid (And.intro hA hB);clear hA hB;have HS:=Lib.hid hst;clear hst;by_cases h0:0 < pl B
  ·have hbn:B≠pz:=fun e=>by rw[e,BV]at h0;omega
   have hroom:=HS.out.room rfl;have hpl:=HS.out.deg;have HR:=Lib.hid (show(∀ i,qsz (A i)≤M)∧(∀ i,qsz (B i)≤M)∧M+(pl A+1)*(M+1)+M≤549755813888∧B≠pz∧pl A≤1099511627776∧pl B≤1099511627776 from by
    refine⟨fun i=>Nat.le_trans (hroom.1 i) HX.out.1,fun i=>Nat.le_trans (hroom.2.1 i) HX.out.1,?_,hbn,by have:=HSt.out.2;omega,by have:=HSt.out.2;omega⟩;have h1:=HX.out.2.1;have h2:(pl A+1)*(M+1)≤(pl F+pl G+1)*(M+1):=Nat.mul_le_mul_right _ Aa;omega)
   have hst2:=HS.out.step hbn (R:=CX A B (pl A+1 - pl B)) rfl;have HS2:=Lib.hid (And.intro hst2.1 (And.intro hst2.2 hroom.2.2));clear hst2 hbn hroom hpl
   go_wp2_with fail
   refine Calls.mono (aC _ _ A B M _ HA.out.1 HA.out.2 HR.out.1 HR.out.2.1 HR.out.2.2.2.1 (by have h1:=HR.out.2.2.1;have:(pl A+1)*1≤(pl A+1)*(M+1):=Nat.mul_le_mul_left _ Aa;omega) (by
    have h1:=HX.out.2.1;have h2:=HS.out.deg;have:(pl F+pl G+1)*1≤(pl F+pl G+1)*(M+1):=Nat.mul_le_mul_left _ Aa;omega) HR.out.2.2.1) ?_
   rintro e w7 ⟨r7,rfl,⟨qv,rv,rfl,hq,hr⟩,hx7⟩;have hrr:=hr.base_le (b:=0) (Nat.zero_le _);have hB7:=HA.out.2.ext hx7;have ec7:=ec.ext hx7;replace hx:=hx.trans hx7;have H7:=Lib.hid (And.intro hrr hB7);clear hr hrr hB7 hq hx7 ec
   go_wp2_with fail
   refine Calls.mono (IA _ _ _ H7.out.1 (fun i=>by
    have h1:=HS2.out.2.2 i;have h2:=HX.out.1;have h3:(S+1)*2^(pl F+pl G - (pl A+pl B)+(pl A+1 - pl B))≤(S+1)*2^(pl F+pl G)*2:=by
     have e1:(S+1)*2^(pl F+pl G)*2=(S+1)*2^(pl F+pl G+1):=by rw[Nat.pow_succ,Nat.mul_assoc]
     rw[e1];refine Nat.mul_le_mul_left _ (Nat.pow_le_pow_right Ab ?_);have:=HS.out.deg;omega
    have h4:=HX.out.2.1;omega) (by have:=U5 HS.out.fA HS.out.fB HR.out.2.2.2.1;have:=HR.out.2.2.2.2.2;omega)) ?_
   rintro e w8 ⟨r8,rfl,hr8,hx8⟩;have hB8:=H7.out.2.ext hx8;have hp8:=hr8.base_le (b:=0) (Nat.zero_le _);have ec8:=ec7.ext hx8;replace hx:=hx.trans hx8;obtain⟨A4,c4,rfl,-⟩:=hr8.shape;have H8:=Lib.hid (And.intro hB8 hp8);clear hB8 hp8 hr8 hx8 ec7 H7;go_wp2
   go_roundw
   case rel=>exact⟨_,_,H8.out.1,H8.out.2,HS2.out.1,ec8,hx⟩
   case measure=>exact HS2.out.2.1
  ·have hbz:B=pz:=(BF HS.out.fB).1 Aa
   have hroom:=HS.out.room rfl;subst hbz;have hz:=HX.out.2.2.1 A HS.out;have HZ:=Lib.hid (And.intro hz (And.intro hroom.1 (show pl A≤1099511627776 by have:=HS.out.deg;have:=HSt.out.2;omega)));have h0:pl pz=0:=BV;rw[h0];clear hz hroom;obtain⟨b,Bv,bn,bc,e8,hb8⟩:=ec;have Hb:=Lib.hid hb8;clear hb8;obtain⟨ce80,ce81⟩:=e8.cells2;have fe8:=e8.frozen
   go_wp2_with fail
   refine Calls.mono (KZ _ _ A (cc:Nat) _ HA.out.1 (fun i=>by have h1:=HZ.out.2.1 i;have h2:=HX.out.1;have h3:=HX.out.2.1;omega) (Hb.out.has (by
    rw[HCC.out];have h1:=HX.out.2.2.2.1;have h2:sz (Nat.gcd (cn F) (cn G))≤S:=by
     by_cases e:cn F=0
     ·rw[e,Nat.gcd_zero_left];exact h1.2
     ·exact Nat.le_trans (Bf (Nat.gcd_le_left _ (Nat.pos_of_ne_zero e))) h1.1
    have h3:=HX.out.2.2.2.2;have h4:=HX.out.2.1;simp only[Int.natAbs_natCast];omega)) HZ.out.2.2) ?_
   rintro e w9 ⟨r9,rfl,hr9,hx9⟩;have h9:AQ 0 w9 r9 (Ic F G):=by
    rw[←HZ.out.1,←HCC.out];exact hr9
   have H9:=Lib.hid h9;clear h9 hr9;go_wp2
   go_ret
   exact Ad.mk H9.out (hx.trans hx9)
theorem ZN(v u:Value)(F G:Nat→Rat)(S M:Nat)(w:World)(hv:AQ 0 w v F)(hu:AQ 0 w u G)(hs:∀ i,qsz (F i)≤S)(ht:∀ i,qsz (G i)≤S)(hn:pl F≤549755813888)(hm:pl G≤549755813888)(hM:(S+1)*2^(pl F+pl G)≤M)(hB:M+(pl F+pl G+1)*(M+1)+M≤549755813888) :
  Calls Tryz.prog 42 #[v,u] w (Ad w fun r w'=>AQ 0 w' r (Ic F G)):=by
 have hSM:S+1≤M:=by
  have h:0 < 2^(pl F+pl G):=Nat.pow_pos Ab;have:=Nat.le_mul_of_pos_right (S+1) h;omega
 obtain⟨l,h1,h2,-,rfl⟩:=hv.hz (fun i=>by have:=hs i;omega);obtain⟨m,k1,k2,-,rfl⟩:=hu.hz (fun i=>by have:=ht i;omega);exact bE v u l m S M w h1 k1 hs ht Aa Aa hM hB
end Go.Proofs.YtmhgnigpmompmaaGreat
namespace Go.Hp
open Go.RowKit
theorem Yn{g:Nat→Rat}{n s:Nat}(h:BI g)(hn:pl g≤n)(hn9:n≤16)(hs:∀ i,qsz (g i)≤s)(hs9:s≤5)(k:Nat) :
  (∀ i,qsz ((yw (y0 g) (yc g) k).1 i)≤36000)∧(∀ i,qsz ((yw (y0 g) (yc g) k).2 i)≤36000)∧pl (yw (y0 g) (yc g) k).1+pl (yw (y0 g) (yc g) k).2≤n+1:=by
 obtain⟨hC,hW,e,d1,-⟩:=FX h;obtain⟨p1,p2⟩:=OJ hW hC k;obtain⟨e1,e2⟩:=X6 hW hC k;have dW:J8 g (y0 g):=⟨yc g,hC.z,hC.f,by rw[Bl];exact e⟩
 have l1:=Dv.le p1.f hW.f hW.n (M5 e1);have l2:=Dv.le p2.f hC.f hC.n (M5 e2);have l3:=Gv hW.f hC.f hW.n hC.n;rw[←e]at l3;have:=hW.pos;exact⟨TM h.z h.f h.n p1.z p1.f (Ja dW e1) hn hn9 hs hs9,TM h.z h.f h.n p2.z p2.f (Ja d1 e2) hn hn9 hs hs9,Aa⟩
theorem Za{g:Nat→Rat}{n s:Nat}(h:BI g)(hn:pl g≤n)(hn9:n≤16)(hs:∀ i,qsz (g i)≤s)(hs9:s≤5)(i:Nat):qsz (yc g i)≤36000:=(Yn h hn hn9 hs hs9 0).2.1 i
def fZ(g:Nat→Rat)(K:Nat):Prop:=pl (yw (y0 g) (yc g) K).1≤1∧∀ j,j < K→1 < pl (yw (y0 g) (yc g) j).1
theorem fZ.uniq{g:Nat→Rat}{K L:Nat}(h:fZ g K)(k:fZ g L):K=L:=by
 rcases Nat.lt_trichotomy K L with a | a | a
 ·have:=k.2 K a;have:=h.1;omega
 ·exact a
 ·have:=h.2 L a;have:=k.1;omega
end Go.Hp
namespace Go.Proofs.YtmhgnigpmompmaaGreat
open Go.RowKit Go.Hp
end Go.Proofs.YtmhgnigpmompmaaGreat
namespace Go.Hp
end Go.Hp
namespace Go.Proofs.YtmhgnigpmompmaaGreat
open Go.RowKit Go.Hp
end Go.Proofs.YtmhgnigpmompmaaGreat
namespace Go.Hp
open Go.RowKit
theorem Be.put1{w:World}{g:Nat}{t:TypeId}{a:Value}(h:Be w g t #[a])(u:Value)(hu:Ag u=false):∃ W,W=w.setCell ⟨g,0,none⟩ u∧Be W g t #[u]∧Ch [g] w W:=
 ⟨_,rfl,h.set_ 0 hu,Ch.set_ h.nodig 0 u⟩
theorem Be.cells1{w:World}{g:Nat}{t:TypeId}{a:Value}(h:Be w g t #[a]):w.cell? ⟨g,0,none⟩=some a:=h.cell rfl
theorem AQ.own{b:Nat}{A B:World}{row:Option Nat}{v:Value}{F:Nat→Rat}(h:AQ b A v F)(hg:A.grownBy B row)(hr:∀ r,row=some r→∃ o:Obj,A.heap[r]? = some o∧o.isCells=false):AQ b B v F:=by
 obtain⟨l,⟨A',c,h1,h2,h3,h4⟩,h5,rfl⟩:=h;refine⟨l,⟨A',c,h1,h2,h3,fun h0=>?_⟩,h5,rfl⟩;obtain⟨g,o,ha,hb,hc⟩:=h4 h0;refine⟨g,o,ha,hb,fun j hj=>?_⟩;obtain⟨cs,q1,q2,q3⟩:=hc j hj;refine⟨cs,q1,fun i hi=>?_,q3.kd (KD.own hg hr)⟩;have e:cs[i]? = some (cs[i]'(Aa)):=Array.getElem?_eq_getElem Aa;rw[e];exact cell_kept ((q2 i hi).trans e) hg hr
end Go.Hp
namespace Go.Proofs.YtmhgnigpmompmaaGreat
open Go.RowKit Go.Hp Go.Shelf
end Go.Proofs.YtmhgnigpmompmaaGreat
namespace Go.Hp
open Go.RowKit
structure UC(F:Nat→Rat)(S n M T:Nat):Prop where
 z:ZI F
 f:Af F
 n0:F≠pz
 s:∀ i,qsz (F i)≤S
 d:∀ i,qsz (pd (pp F) i)≤S
 t:∀ i,qsz (yc (pp F) i)≤T
 p:pl F≤n
 n9:n≤16
 m:(S+1)*2^(n+(n - 1))≤M
 b:M+(n+(n - 1)+1)*(M+1)+M≤549755813888
 k:S+(n+2)*(T+1)+T≤1099511627776
theorem UC.sS{F:Nat→Rat}{S n M T:Nat}(h:UC F S n M T):S≤M:=by
 have:=Nat.mul_le_mul_left (S+1) (Nat.one_le_two_pow (n:=n+(n - 1)));have:=h.m;omega
structure LQ(W:Nat→Rat)(S D M:Nat):Prop where
 z:ZI W
 f:Af W
 s:∀ i,qsz (W i)≤S
 d:∀ i,qsz (pd W i)≤S
 e:pl W+pl (pd W)=D
 m:(S+1)*2^D≤M
 b:M+(D+1)*(M+1)≤1000000
 D9:D≤900
def RY(base:Nat)(t:TypeId)(w:World)(v:Value)(W:Nat→Rat):Prop:=∃ c us K,v = .agg #[c]∧Nv W (pd W) K∧K≤pl (pd W)+1∧Ib base t w c us (F4 W (pd W) K)
theorem RY.ext{base:Nat}{t:TypeId}{w w':World}{v:Value}{W:Nat→Rat}(h:RY base t w v W)(x:Ext w w'):RY base t w' v W:=by
 obtain⟨c,us,K,h1,h2,h3,h4⟩:=h;exact⟨c,us,K,h1,h2,h3,h4.ext x⟩
theorem LQ.SM{W:Nat→Rat}{S D M:Nat}(h:LQ W S D M):S < M:=by
 have:=Nat.mul_le_mul_left (S+1) (Nat.one_le_two_pow (n:=D));have:=h.m;omega
theorem Ib.upd1{base g:Nat}{t t':TypeId}{w w':World}{v x:Value}{us:List Value}{l:List (Nat→Rat)}(h:Ib base t w v us l)(hx:QZ x=false)(e:Be w g t' #[x])(hg:g < base)(U:Ch [g] w w'):Ib base t w' v us l:=by
 have hb:=BD.blk_ge h.out;have hne:∀ g'∈blk v,g'∉[g]:=fun g' hg' hm=>by
  have:=hb g' hg';have:g'=g:=by simpa using hm
  omega
 have hN:Nt w (.slice (some ⟨g,0,none⟩) 1 1):=Pj e.1 (by simpa using hx);refine⟨BD.upd h.out U hne fun _ _ q=>q,h.len,fun g' hg' i c hc=>?_,fun i a b=>(h.el i a b).updB U fun g' hg'=>hN g' (by simpa[blk,Value.ownBlock] using hg')⟩;obtain⟨o,ho⟩:∃ o,w.heap[g']? = some o:=⟨_,Array.getElem?_eq_getElem (hb g' hg').2⟩
 have hk:=U.1 g' o (hne g' hg') ho;rw[World.cell?_of_block (hk.trans ho.symm)]at hc;exact h.nb g' hg' i c hc
theorem LQ.mem{W:Nat→Rat}{S D M K:Nat}(h:LQ W S D M)(hK:Nv W (pd W) K):∀ F∈F4 W (pd W) K,(∀ i,qsz (F i)≤M)∧pl F≤D∧Af F:=by
 intro F hF;obtain⟨k,hk,rfl⟩:∃ k,k < K∧F=C9 W (pd W) k:=by
  unfold F4 at hF;obtain⟨k,h1,h2⟩:=List.mem_map.1 hF;exact⟨k,List.mem_range.1 h1,h2.symm⟩
 have hst:∀ j,(∀ i,1≤i→i≤j→C9 W (pd W) i≠pz)→F5 W (pd W) D S (C9 W (pd W) j) (C9 W (pd W) (j+1)):=fun j hj=>by
  rw[←h.e];exact JG h.f (BS h.f) h.z (EM h.z) h.s h.d j hj
 obtain⟨f1,f2,z1,z2,hd,q1,q2⟩:=(hst k fun i a b=>hK.2.2 i a Aa).facts;exact⟨fun i=>Nat.le_trans (q1 i) h.m,Aa,f1⟩
end Go.Hp
namespace Go.Proofs.YtmhgnigpmompmaaGreat
open Go.RowKit Go.Hp
set_option maxHeartbeats 4000000 in
theorem XO(v:Value)(F:Nat→Rat)(S n M T:Nat)(w:World)(hv:AQ 0 w v F)(hR:UC F S n M T) :
  Calls Tryz.prog 100 #[v] w (Ad w fun r w'=>AQ 0 w' r (y0 (pp F))):=by
 have hg:=BI.pp hR.z hR.f hR.n0;have hpg:pl (pp F)=pl F:=Ep hR.z hR.f;have hsg:∀ i,qsz (pp F i)≤S:=Fj hR.z hR.f hR.s;have hSM:=hR.sS;have hp:=hR.p;have hn:=hR.n9;have hM:=hR.m;have hB:=hR.b;have hKk:=hR.k;have hM9:M≤549755813888:=by omega
 have hpr:Calls Tryz.prog 85 #[v] w (Ad w fun r w'=>AQ w.heap.size w' r (pp F)):=IA v _ w hv (fun i=>by have:=hR.s i;omega) Aa;have hde:∀ W u,AQ 0 W u (pp F)→Calls Tryz.prog 66 #[u] W (Ad W fun r w'=>AQ 0 w' r (pd (pp F))):=fun W u hu=>by
  obtain⟨m,g1,g2,-,g4⟩:=hu.hz (fun i=>by have:=hsg i;omega);rw[←g4];exact Ad.imp (G7 _ m W g1 Aa) fun _ _ h=>h.base_le (Nat.zero_le _)
 have hpd:pl (pd (pp F))≤n - 1:=by rw[NE hg.f];omega
 have hg1:∀ W u z,AQ 0 W u (pp F)→AQ 0 W z (pd (pp F))→Calls Tryz.prog 42 #[u,z] W (Ad W fun r w'=>AQ 0 w' r (yc (pp F))):=fun W u z hu hz=>by
  have e:2^(pl (pp F)+pl (pd (pp F)))≤2^(n+(n - 1)):=Nat.pow_le_pow_right Ab Aa;have e2:(S+1)*2^(pl (pp F)+pl (pd (pp F)))≤(S+1)*2^(n+(n - 1)):=Nat.mul_le_mul_left _ e;have e3:(pl (pp F)+pl (pd (pp F))+1)*(M+1)≤(n+(n - 1)+1)*(M+1):=Nat.mul_le_mul_right _ Aa;exact ZN u z _ _ S M W hu hz hsg hR.d Aa Aa Aa Aa
 obtain⟨hC,hW,eg,dC,-⟩:=FX hg;have hcl:pl (yc (pp F))≤pl (pp F):=Dv.le hC.f hg.f hg.n (M5 dC);have hd1:∀ W u z,AQ 0 W u (pp F)→AQ 0 W z (yc (pp F))→Calls Tryz.prog 88 #[u,z] W (Ad W fun r w'=>∃ q,r = .tuple #[q,.int .i64 0]∧AQ 0 w' q (y0 (pp F))):=fun W u z hu hz=>by
  have e3:(pl (pp F)+2)*(T+1)≤(n+2)*(T+1):=Nat.mul_le_mul_right _ Aa;refine Ad.imp (UM u z _ _ S T W hu hz hsg hR.t Aa Aa hC.n Aa) fun r w' hr=>?_;obtain⟨q,e1,e2⟩:=hr.1 dC;exact⟨q,e1,e2.base_le (Nat.zero_le _)⟩
 obtain⟨A0,c0,rfl,-⟩:=hv.shape;have HC:=Lib.hid (And.intro hpr (And.intro hde (And.intro hg1 hd1)));clear hpr hde hg1 hd1 hv hR hg hpg hsg hSM hp hn hM hB hKk hM9 hpd hC hW eg dC hcl
 go_enter Tryz.func100,Tryz.ntmps100
 go_wp2_with fail
 refine Calls.mono HC.out.1 ?_;rintro e w1 ⟨r1,rfl,hr1,hx1⟩;replace hr1:=hr1.base_le (b:=0) (Nat.zero_le _)
 go_wp2_with fail
 refine Calls.mono (HC.out.2.1 _ _ hr1) ?_;rintro e w2 ⟨r2,rfl,hr2,hx2⟩;replace hr1:=hr1.ext hx2;replace hx1:=hx1.trans hx2
 go_wp2_with fail
 refine Calls.mono (HC.out.2.2.1 _ _ _ hr1 hr2) ?_;rintro e w3 ⟨r3,rfl,hr3,hx3⟩;replace hr1:=hr1.ext hx3;replace hx1:=hx1.trans hx3
 go_wp2_with fail
 refine Calls.mono (HC.out.2.2.2 _ _ _ hr1 hr3) ?_;rintro e w4 ⟨r4,rfl,⟨q,rfl,hq⟩,hx4⟩;go_wp2
 go_ret
 exact Ad.mk hq (hx1.trans hx4)
set_option maxHeartbeats 4000000 in
theorem YA(v:Value)(F W:Nat→Rat)(S n M T S2 D M2:Nat)(w:World)(hv:AQ 0 w v F)(hR:UC F S n M T)(hW:W=y0 (pp F))(hC:LQ W S2 D M2) :
  Calls Tryz.prog 50 #[v] w (Ad w fun r w'=>RY w.heap.size 23 w' r W):=by
 have h1:=fun X (x:Ext w X)=>XO v F S n M T X (hv.ext x) hR;simp only[←hW]at h1;have hSM:=hC.SM;have hM9:M2≤1000000:=by have:=hC.b;omega
 have hde:∀ X u,AQ 0 X u W→Calls Tryz.prog 66 #[u] X (Ad X fun r w'=>AQ 0 w' r (pd W)):=fun X u hu=>by
  obtain⟨m,g1,g2,-,g4⟩:=hu.hz (fun i=>by have:=hC.s i;omega);rw[←g4];exact Ad.imp (G7 _ m X g1 (by have:=hC.e;have:=hC.D9;omega)) fun _ _ h=>h.base_le (Nat.zero_le _)
 have hch:∀ X u z,AQ 0 X u W→AQ 0 X z (pd W)→Calls Tryz.prog 65 #[u,z] X (Ad X fun r w'=>∃ us K,Nv W (pd W) K∧K≤pl (pd W)+1∧Ib X.heap.size 23 w' r us (F4 W (pd W) K)):=fun X u z hu hz =>
  TI u z W (pd W) S2 D M2 X hu hz hC.z (EM hC.z) hC.f (BS hC.f) hC.s hC.d hC.e hC.m hC.b hC.D9
 obtain⟨A0,c0,rfl,-⟩:=hv.shape;have HC:=Lib.hid (And.intro h1 (And.intro hde hch));clear h1 hde hch hv hR hW hC hSM hM9
 go_enter Tryz.func50,Tryz.ntmps50
 have ez:=Be.new w 92 #[.slice none 0 0] (by simp[Ag]);have hx:=(Ext.refl w).alloc (.cells #[.slice none 0 0] 92)
 go_upto_region 1 with(fail)
 generalize w.alloc (.cells #[.slice none 0 0] 92)=W0 at *
 go_wp2_with fail
 refine Calls.mono (HC.out.1 _ hx) ?_;rintro e w1 ⟨r1,rfl,hr1,hx1⟩;obtain⟨A1,c1,rfl,-⟩:=hr1.shape;replace ez:=ez.ext hx1;replace hx:=hx.trans hx1;have H1:=Lib.hid hr1;clear hr1 hx1
 go_wp2_with fail
 refine Calls.mono (HC.out.2.1 _ _ H1.out) ?_;rintro e w2 ⟨r2,rfl,hr2,hx2⟩;replace ez:=ez.ext hx2;replace hx:=hx.trans hx2;have H2:=Lib.hid (And.intro (H1.out.ext hx2) hr2);clear hr2 hx2 H1
 go_wp2_with fail
 refine Calls.mono (HC.out.2.2 _ _ _ H2.out.1 H2.out.2) ?_;rintro e w3 ⟨r3,rfl,⟨us,K,hK,hK9,hP⟩,hx3⟩;have hlt:=ez.lt;replace ez:=ez.ext hx3;replace hx:=hx.trans hx3;obtain⟨A3,c3,rfl⟩:=hP.shape;have hl:(F4 W (pd W) K).length=K:=Co _ _ _;rw[hl]at hP ⊢;have H3:=Lib.hid (And.intro hK (And.intro hK9 hP));clear hK hK9 hP hx3 H2;have cz0:=ez.cells1;have fz:=ez.frozen;go_wp2;obtain⟨W4,eW,ez',U⟩:=ez.put1 (.slice A3 K c3) rfl
 rw[←eW];have hP4:=H3.out.2.2.upd1 rfl ez hlt U;replace hx:=U.from_ hx Ac;clear eW cz0 fz ez;have cz0:=ez'.cells1;have fz:=ez'.frozen;refine bodyPost_ret (v := .agg #[.slice A3 K c3]) (by simp[results,Tryz.results50,go_sem,cz0]) rfl ?_;exact Ad.mk ⟨_,us,K,rfl,H3.out.1,H3.out.2.1,hP4.base_le (Nat.le_of_lt hlt)⟩ hx
end Go.Proofs.YtmhgnigpmompmaaGreat
namespace Go.Hp
open Go.RowKit
def Sa(F:Nat→Rat):Prop:=∃ i b,BL (F i).num.natAbs b∧4096 < b
noncomputable def CV(F:Nat→Rat):Int:=open Classical in if F=pz then 5 else if 33 < pl F∨Sa F then 7 else 0
theorem NL{F:Nat→Rat}(h:F=pz):CV F=5:=by unfold CV;rw[if_pos h]
theorem JL{F:Nat→Rat}(h0:F≠pz)(h:33 < pl F∨Sa F):CV F=7:=by unfold CV;rw[if_neg h0,if_pos h]
theorem OZ{F:Nat→Rat}(h0:F≠pz)(h1:¬ 33 < pl F)(h2:¬ Sa F):CV F=0:=by unfold CV;rw[if_neg h0,if_neg (fun q=>q.elim h1 h2)]
theorem Et(F:Nat→Rat):(F=pz∧CV F=5)∨(F≠pz∧CV F=7)∨(F≠pz∧pl F≤33∧¬ Sa F∧CV F=0):=by
 by_cases h0:F=pz
 ·exact .inl ⟨h0,NL h0⟩
 by_cases h:33 < pl F∨Sa F
 ·exact .inr (.inl ⟨h0,JL h0 h⟩)
 ·exact .inr (.inr ⟨h0,Aa,fun q=>h (.inr q),OZ h0 (fun q=>h (.inl q)) fun q=>h (.inr q)⟩)
theorem bT{F:Nat→Rat}(z:ZI F)(h:¬ Sa F)(i:Nat):qsz (F i)≤129:=by
 obtain⟨b,hb⟩:=BL.ex (F i).num.natAbs;have h1:b≤4096:=by
  rcases Nat.lt_or_ge 4096 b with q | q
  ·exact absurd ⟨i,b,hb,q⟩ h
  ·exact q
 have h2:(F i).num.natAbs < bp 129:=by
  obtain⟨E,hE⟩:∃ E,E=129:=⟨_,rfl⟩;rw[← hE,Cm];exact Nat.lt_of_lt_of_le hb.1 (Nat.pow_le_pow_right Ab Aa)
 have h3:=C8 h2;rw[z.num i,Ba];omega
def QJ(F:Nat→Rat)(w:World)(r:Value):Prop:=∃ u,r = .tuple #[u,.int .i64 (CV F)]∧(CV F=0→AQ 0 w u F)∧(CV F≠0→u = .slice none 0 0)
theorem QJ.ext{F:Nat→Rat}{w w':World}{r:Value}(h:QJ F w r)(x:Ext w w'):QJ F w' r:=by
 obtain⟨u,h1,h2,h3⟩:=h;exact⟨u,h1,fun e=>(h2 e).ext x,h3⟩
end Go.Hp
namespace Go.Proofs.YtmhgnigpmompmaaGreat
open Go.RowKit Go.Hp
set_option maxHeartbeats 4000000 in
theorem YF(v:Value)(l:List Int)(w:World)(hv:EI 0 w v l)(hn:l.length≤1000000):Calls Tryz.prog 147 #[v] w (Ad w fun r w'=>QJ (cz l) w' r):=by
 have HV:=Lib.hid hv;have hq:∀ i,qsz (cz l i)≤1099511627776:=P5 hv.sz Aa;have hpl:pl (cz l)≤l.length:=BB (Cb l);have fF:Af (cz l):=⟨_,Cb l⟩
 obtain⟨A,c,rfl⟩:=hv.len;clear hv
 go_enter Tryz.func147,Tryz.ntmps147
 go_wp2_with fail
 refine Calls.mono (KF _ l _ HV.out Aa) ?_;rintro e w1 ⟨r1,rfl,hr1,hx1⟩;have HR:=Lib.hid (hr1.base_le (Nat.zero_le _));obtain⟨A1,c1,m,rfl,k1,k2,hA,k3,k4,k5⟩:=hr1.form;have HA:=Lib.hid (And.intro hA (And.intro k3 k5));clear hA k3 k4 k5 hr1;have HQ:=Lib.hid hq;clear hq;by_cases h0:cz l=pz
 ·have hp:pl (cz l)=0:=(BF fF).2 h0
  have hr:=NL h0;have H:=Lib.hid (And.intro hr h0);clear hr h0;rw[hp];go_wp2;refine bodyPost_ret (v := .tuple #[.slice none 0 0,.int .i64 5]) (by simp[results,Tryz.results147,go_sem]) rfl ?_;exact Ad.mk ⟨_,by rw[H.out.1],fun e=>by rw[H.out.1]at e;exact absurd e Ab,fun _=>rfl⟩ hx1
 have hp:=AY fF h0;obtain⟨N,hN⟩:∃ N,N=pl (cz l):=⟨_,rfl⟩
 rw[←hN]at hp hpl k1 ⊢;have hb:(((N:Nat):Int)==0)=false:=beq_eq_false_iff_ne.2 Aa;have HN:=Lib.hid (And.intro hN h0);clear hN h0;by_cases h33:33 < N
 ·have hr:CV (cz l)=7:=JL HN.out.2 (.inl (by rw[←HN.out.1];exact h33))
  have H:=Lib.hid hr;clear hr;go_wp2;refine bodyPost_ret (v := .tuple #[.slice none 0 0,.int .i64 7]) (by simp[results,Tryz.results147,go_sem]) rfl ?_;exact Ad.mk ⟨_,by rw[H.out],fun e=>by rw[H.out]at e;exact absurd e Ab,fun _=>rfl⟩ hx1
 go_wp2
 go_loopw [17] (fun iv wr=>∃ i:Nat,i≤N∧iv = .int .i64 (i:Nat)∧(∀ j,j < i→∀ b,BL (cz l j).num.natAbs b→b≤4096)∧Ext w1 wr) (fun iv _=>N - (intOf iv).toNat)
 case atStart=>exact⟨0,Aa,rfl,fun j hj=>Aa,Ext.refl _⟩
 case round =>
  obtain⟨i,hi,rfl,hlow,hx⟩:=hrel;have HL:=Lib.hid hlow;clear hlow;by_cases hiN:i < N
  ·have hlt:i < m.length:=by have:=HA.out.2.1;have:=HN.out.1;omega
   have hli:cz l i=(m[i]:Rat):=by rw[←Cr hlt,HA.out.2.2]
   have hqi:=HQ.out i;rw[hli,Ba]at hqi;obtain⟨g,o,b3,A3,n3,c3,e3,-,q0,q1,hq⟩:=HA.out.1.at_ hlt;cases e3;have hqh:=hq.has (by omega:sz (m[i]).natAbs≤1099511627776);obtain⟨y,hy⟩:∃ y,y=m[i]:=⟨_,rfl⟩
   rw[←hy]at hqh hli;have HI:=Lib.hid (And.intro hqh hli);clear hqh hq hqi hli hy hlt;replace q0:=hx.cell q0;replace q1:=hx.cell q1
   go_wp2_with fail
   refine Calls.mono (Sw _ y _ (HI.out.1.ext (hx.alloc _))) ?_;rintro e w2 ⟨r,rfl,⟨b,rfl,hbl⟩,hx2⟩;have hx':=hx2.a1;have HB:=Lib.hid hbl;clear hbl;have hcast:(cz l i).num.natAbs=y.natAbs:=by rw[HI.out.2];rfl
   have HC:=Lib.hid hcast;clear hcast;by_cases hbb:4096 < b
   ·have hr:CV (cz l)=7:=JL HN.out.2 (.inr ⟨i,b,by rw[HC.out];exact HB.out,hbb⟩)
    have H:=Lib.hid hr;clear hr;go_wp2;refine bodyPost_ret (v := .tuple #[.slice none 0 0,.int .i64 7]) (by simp[results,Tryz.results147,go_sem]) rfl ?_;exact Ad.mk ⟨_,by rw[H.out],fun e=>by rw[H.out]at e;exact absurd e Ab,fun _=>rfl⟩ ((hx1.trans hx).trans hx')
   ·clear hx2
    go_wp2
    go_roundw
    case rel=>exact⟨i+1,Aa,by go_num,fun j hj b' hb'=>by
     rcases Nat.lt_or_ge j i with q | q
     ·exact HL.out j q b' hb'
     ·obtain rfl:j=i:=by omega
      rw[HC.out]at hb';have:=hb'.uniq HB.out;omega,hx.trans hx'⟩
    case measure=>simp[intOf];omega
  ·obtain rfl:i=N:=by omega
   have hnw:¬ Sa (cz l):=fun⟨j,b,h1,h2⟩=>by
    rcases Nat.lt_or_ge j i with q | q
    ·have:=HL.out j q b h1;omega
    ·have hz:cz l j=0:=(AJ fF) j (by have:=HN.out.1;omega)
     rw[hz]at h1;have:=h1.uniq BL.zero;omega
   have hr:=OZ HN.out.2 (by rw[←HN.out.1];exact h33) hnw;have H:=Lib.hid hr;clear hr hnw;have HF:=Lib.hid (HR.out.ext hx);rw[←HN.out.1]at HF;go_wp2;refine bodyPost_ret (v := .tuple #[.slice A1 i c1,.int .i64 0]) (by simp[results,Tryz.results147,go_sem]) rfl ?_;exact Ad.mk ⟨_,by rw[H.out],fun _=>HF.out,fun e=>absurd H.out e⟩ (hx1.trans hx)
set_option maxHeartbeats 8000000 in
theorem WL(v:Value)(F:Nat→Rat)(w:World)(hv:AQ 0 w v F)(fF:Af F)(h0:F≠pz)(hn:pl F≤33)(hs:∀ i,qsz (F i)≤129):Calls Tryz.prog 148 #[v] w (Ad w fun r w'=>∃ x,AC w' r x):=by
 have hp:=AY fF h0;obtain⟨A,c,l,rfl,k1,k2,hA,k3,k4,k5⟩:=hv.form;have htop:=ES fF hp;obtain⟨N,hN⟩:∃ N,N=pl F:=⟨_,rfl⟩
 rw[←hN]at hp hn k1 k3 htop ⊢;have HA:=Lib.hid (And.intro hA (And.intro k3 (And.intro k5 (And.intro htop hs))));clear hA k3 k4 k5 htop hs hv hN
 go_enter Tryz.func148,Tryz.ntmps148
 obtain⟨W1,eW1,ez,y1⟩:=Be.made w 26 #[.bool false,.slice none 0 0] (by simp[Ag])
 go_upto_region 1 with(fail)
 rw[←eW1];clear eW1;have hx:=y1
 go_wp2_with fail
 refine Calls.mono (Ji 0 _ Aa Aa) ?_;rintro e w2 ⟨r2,rfl,hr2,hx2⟩;obtain⟨b5,A5,n5,c5,rfl⟩:=hr2.cells;replace ez:=ez.ext hx2;replace hx:=hx.trans hx2;clear hx2;obtain⟨W3,eW3,es,y3⟩:=Be.made w2 26 #[.bool b5,.slice A5 n5 c5] (by simp[Ag]);have hsm:=Bh.mk es (hr2.kd y3.kd);have hgs:=ez.lt;replace ez:=ez.ext y3;replace hx:=hx.trans y3;clear y3;clear hr2 es
 go_upto_region 2 with(fail)
 rw[←eW3];clear eW3;generalize w2.heap.size=gs at *;go_wp2
 go_loopw [14] (fun iv wr=>∃ (i:Nat) (x:Int),i≤N∧iv = .int .i64 (i:Nat)∧0≤x∧sz x.natAbs≤260+i∧((∃ j,j < i∧F j≠0)→0 < x)∧Bh wr gs 26 x∧Be wr w.heap.size 26 #[.bool false,.slice none 0 0]∧Ext w wr) (fun iv _=>N - (intOf iv).toNat)
 case atStart=>exact⟨0,0,Aa,rfl,Aa,Ab,fun⟨j,hj,_⟩=>Aa,hsm,ez,hx⟩
 case round =>
  clear hsm ez hx;obtain⟨i,x,hi,rfl,hx0,hxs,hxp,⟨b1,A1,n1,c1,es,hsz⟩,ez,hx⟩:=hrel;have HX:=Lib.hid (And.intro hx0 (And.intro hxs (And.intro hxp hsz)));clear hx0 hxs hxp hsz;by_cases hiN:i < N
  ·have hlt:i < l.length:=by have:=HA.out.2.1;omega
   have hli:F i=(l[i]:Rat):=by rw[←Cr hlt,HA.out.2.2.1]
   have hqi:=HA.out.2.2.2.2 i;rw[hli,Ba]at hqi;obtain⟨g,o,b3,A3,n3,c3,e3,-,q0,q1,hq⟩:=HA.out.1.at_ hlt;cases e3;obtain⟨y,hy⟩:∃ y,y=l[i]:=⟨_,rfl⟩
   rw[←hy]at hq hli hqi;have HI:=Lib.hid (And.intro (hq.has Aa) (And.intro hli (show sz y.natAbs≤129 by omega)));clear hq hqi hli hy hlt;replace q0:=hx.cell q0;replace q1:=hx.cell q1;obtain⟨W7,eW7,e6,y7⟩:=Be.made wr 26 #[.bool b3,.slice A3 n3 c3] (by simp[Ag]);have hg6:=es.lt;have hgz:=ez.lt
   go_upto_region 5 with(fail)
   rw[←eW7];clear eW7 q0 q1;replace HX:=Lib.hid (And.intro HX.out.1 (And.intro HX.out.2.1 (And.intro HX.out.2.2.1 (HX.out.2.2.2.ext_ y7))));replace ez:=ez.ext y7;replace es:=es.ext y7;replace hx:=hx.trans y7;clear y7;generalize wr.heap.size=g6 at *;obtain⟨ce60,ce61⟩:=e6.cells2;have fe6:=e6.frozen;obtain⟨ces0,ces1⟩:=es.cells2;have fes:=es.frozen;refine Ae 4 [18,19,20,21] [[],[],[],[1,2],[0,1,2,3],[0,1,2,3,4]] [3,5] [_,_] [(kv ?_),(kv ?_),(kv ?_),(fun γ=>γ 3)] (fun γ w'=>[True,True,True,AC w' (γ 3) (y*y)]) Bd Ah Ah Bb Ah Bc Bg ?hstep1 ?_
   case hstep1 =>
    iterate 4 refine⟨?_,?_⟩
    trivial
    iterate 3 focus
     intro γ w' he hf;clear hf;refine⟨by trivial,?_⟩;intro R hR;have hc:=he.cells;have cq0:=he.cell ce60;have cq1:=he.cell ce61;have cq2:=he.cell ces0;have cq3:=he.cell ces1;go_simp;refine hR _ _ (Ext.refl _) ?_ trivial;rfl
    ·intro γ w' he hf;clear hf;refine⟨trivial,?_⟩;intro R hR
     go_simp;exact AX (Dh _ _ y y w' (HI.out.1.ext (hx.trans he)) (HI.out.1.ext (hx.trans he))) hR
   intro γ w8 hx8 hF;have p3:AC w8 (γ 3) (y*y):=Au.get hF 3 Ab;clear hF;simp only[AZ,Nat.reduceAdd];generalize γ 3=g3 at *;clear γ;have hyy:sz (y*y).natAbs≤258:=by
    rw[Int.natAbs_mul];have:=BU y.natAbs y.natAbs;have:=HI.out.2.2;omega
   have hsum:sz (x+y*y).natAbs≤260+(i+1):=by
    have h1:=Bf (Int.natAbs_add_le x (y*y));have h2:=G6 x.natAbs (y*y).natAbs;have:=HX.out.2.1;omega
   have hyn:0≤y*y:=by
    rcases Int.le_total 0 y with h | h
    ·exact Int.mul_nonneg h h
    ·have:=Int.mul_nonneg (show 0 ≤ -y by omega) (show 0 ≤ -y by omega)
     rw[Int.neg_mul_neg]at this;exact this
   have hyp:F i≠0→0 < y*y:=fun hne=>by
    have hy0:y≠0:=fun e=>hne (by rw[HI.out.2.1,e];rfl);have:y*y≠0:=fun e=>by rcases Int.mul_eq_zero.1 e with q | q<;>exact hy0 q
    omega
   have HS:=Lib.hid (And.intro hsum (And.intro hyn (And.intro hyp (And.intro hyy HX.out.2.1))));clear hsum hyn hyp hyy
   go_wp2_with fail
   refine Calls.mono (Ml _ _ x (y*y) _ ((HX.out.2.2.2.ext_ hx8).has (by have:=HS.out.2.2.2.2;omega)) (p3.has (by have:=HS.out.2.2.2.1;omega))) ?_;rintro e w9 ⟨r9,rfl,hr9,hx9⟩;obtain⟨b9,A9,n9,c9,rfl⟩:=hr9.cells;have x89:=hx8.trans hx9;clear ce60 ce61 ces0 ces1 fe6 fes p3 e6;replace ez:=ez.ext x89;replace es:=es.ext x89;replace hx:=hx.trans x89;clear x89;clear hx8 hx9;obtain⟨ces0,ces1⟩:=es.cells2;have fes:=es.frozen
   go_upto_region 6 with(fail)
   obtain⟨W10,eW,es',U⟩:=es.put2 (.bool b9) (.slice A9 n9 c9) rfl rfl;rw[←eW];clear eW es;replace hr9:=hr9.kd U.kd;replace ez:=ez.upd U Ai;replace hx:=U.from_ hx Ai;have es:=es';clear U es';clear ces0 ces1 fes;go_wp2
   go_roundw
   case rel=>exact⟨i+1,x+y*y,Aa,by go_num,by have:=HX.out.1;have:=HS.out.2.1;omega,HS.out.1,fun⟨j,hj,hne⟩=>by
    have h1:=HX.out.1;have h2:=HS.out.2.1;rcases Nat.lt_or_ge j i with q | q
    ·have:=HX.out.2.2.1 ⟨j,q,hne⟩;omega
    ·obtain rfl:j=i:=by omega
     have:=HS.out.2.2.1 hne;omega,Bh.mk es hr9,ez,hx⟩
   case measure=>simp[intOf];omega
  ·obtain rfl:i=N:=by omega
   have hpos:0 < x:=HX.out.2.2.1 ⟨i - 1,Aa,HA.out.2.2.2.1⟩;have HP:=Lib.hid (And.intro hpos (show sz x.natAbs≤1000 by have:=HX.out.2.1;omega));clear hpos;have hgz:=ez.lt;obtain⟨ces0,ces1⟩:=es.cells2;have fes:=es.frozen
   go_wp2_with fail
   refine Calls.mono (VV _ x _ (HX.out.2.2.2.has (by have:=HP.out.2;omega)) HP.out.1 HP.out.2) ?_;rintro e w11 ⟨r11,rfl,⟨r0,q,bq,rfl,hr0,hq0,hqs⟩,hx11⟩;obtain⟨b12,A12,n12,c12,rfl⟩:=hr0.cells;have HQ:=Lib.hid hqs;clear hqs hq0 ces0 ces1 fes es;replace ez:=ez.ext hx11;replace hx:=hx.trans hx11;clear hx11;obtain⟨W12,eW12,er,y12⟩:=Be.made w11 26 #[.bool b12,.slice A12 n12 c12] (by simp[Ag]);have hrr:=Bh.mk er (hr0.kd y12.kd)
   have hgr:=ez.lt;replace ez:=ez.ext y12;replace hx:=hx.trans y12;clear y12;clear er hr0
   go_upto_region 8 with(fail)
   rw[←eW12];clear eW12;generalize w11.heap.size=gr at *
   go_wp2_with fail
   refine Calls.mono (Ji 2 _ Aa Aa) ?_;rintro e w13 ⟨r13,rfl,hr13,hx13⟩;replace ez:=ez.ext hx13;replace hrr:=hrr.ext hx13;replace hx:=hx.trans hx13;clear hx13;obtain⟨k,hk⟩:∃ k,i=k+1:=⟨i - 1,Aa⟩
   have hki:((i:Nat):Int) - 1=(k:Nat):=by omega
   go_wp2_with fail
   refine Calls.mono (show Calls Tryz.prog 176 _ _ (Ad _ fun r w'=>ER w' r (2^k) 0)from by
    first
     | (rw[hki];exact RJ _ k _ (hr13.has Ab) Aa)
     | exact RJ _ k _ (hr13.has Ab) Aa) ?_
   rintro e w14 ⟨r14,rfl,⟨r15,rfl,hr15⟩,hx14⟩;obtain⟨b15,A15,n15,c15,rfl⟩:=hr15.cells;clear hr13;replace ez:=ez.ext hx14;replace hrr:=hrr.ext hx14;replace hx:=hx.trans hx14;clear hx14;obtain⟨W16,eW16,et,y16⟩:=Be.made w14 26 #[.bool b15,.slice A15 n15 c15] (by simp[Ag]);have htt:=hr15.kd y16.kd;have hgt:=hrr.lt;replace ez:=ez.ext y16;replace hrr:=hrr.ext y16;replace hx:=hx.trans y16;clear y16;clear hr15
   go_upto_region 9 with(fail)
   rw[←eW16];clear eW16;generalize w14.heap.size=gt at *;obtain⟨b17,A17,n17,c17,er,hrz⟩:=hrr;have hk9:=GG k;have HT:=Lib.hid (And.intro htt (And.intro hrz (show sz ((2:Int)^k).natAbs≤1099511627776 by omega)));clear htt hrz hk9;have hs1:sz (q+1).natAbs≤1099511627776:=by
    have h1:=Bf (Int.natAbs_add_le q 1);have h2:=G6 q.natAbs (1:Int).natAbs;have h3:sz (1:Int).natAbs=1:=by decide
    have:=HQ.out;omega
   have HS1:=Lib.hid hs1;clear hs1;obtain⟨cet0,cet1⟩:=et.cells2;have fet:=et.frozen;obtain⟨cer0,cer1⟩:=er.cells2;have fer:=er.frozen;obtain⟨cez0,cez1⟩:=ez.cells2;have fez:=ez.frozen;refine Ae 4 [38,39,40,41] [[],[],[],[1,2],[0,1,2,3],[0,1,2,3,4]] [9,6] [_,_] [(kv ?_),(kv ?_),(fun γ=>γ 2),(fun γ=>γ 3)] (fun γ w'=>[True,True,AC w' (γ 2) 1,AC w' (γ 3) (q+1)]) Bd Ah Ah Bb Ah Bc Bg ?hstep2 ?_
   case hstep2 =>
    iterate 4 refine⟨?_,?_⟩
    trivial
    iterate 2 focus
     intro γ w' he hf;clear hf;refine⟨by trivial,?_⟩;intro R hR;have hc:=he.cells;have cq0:=he.cell cet0;have cq1:=he.cell cet1;have cq2:=he.cell cer0;have cq3:=he.cell cer1;go_simp;refine hR _ _ (Ext.refl _) ?_ trivial;rfl
    ·intro γ w' he hf;clear hf;refine⟨trivial,?_⟩;intro R hR
     go_simp;exact AX (Ji 1 w' Aa Aa) hR
    ·intro γ w' he hf;have f2:AC w' (γ 2) 1:=hf 2 Ab;clear hf;refine⟨trivial,?_⟩;intro R hR
     go_simp;exact AX (Ml _ _ q 1 w' ((HT.out.2.1.ext_ he).has (by have:=HQ.out;omega)) (f2.has Ab)) hR
   intro γ w18 hx18 hF;have p2:AC w18 (γ 2) 1:=Au.get hF 2 Ab;have p3:AC w18 (γ 3) (q+1):=Au.get hF 3 Ab;clear hF;simp only[AZ,Nat.reduceAdd];generalize γ 2=g2 at *;generalize γ 3=g3 at *;clear γ
   go_wp2_with fail
   refine Calls.mono (Dh _ _ (2^k) (q+1) _ ((HT.out.1.ext_ hx18).has HT.out.2.2) (p3.has HS1.out)) ?_;rintro e w19 ⟨r19,rfl,hr19,hx19⟩;obtain⟨b19,A19,n19,c19,rfl⟩:=hr19.cells;have x1819:=hx18.trans hx19;clear cet0 cet1 cer0 cer1 cez0 cez1 fet fer fez p2 p3;replace ez:=ez.ext x1819;replace hx:=hx.trans x1819;clear x1819;clear hx18 hx19;obtain⟨cez0,cez1⟩:=ez.cells2;have fez:=ez.frozen;go_wp2;obtain⟨W20,eW,ez',U⟩:=ez.put2 (.bool b19) (.slice A19 n19 c19) rfl rfl
   rw[←eW];clear eW ez;replace hr19:=hr19.kd U.kd;replace hx:=U.from_ hx Ai;have ez:=ez';clear U ez';clear cez0 cez1 fez;obtain⟨cez0,cez1⟩:=ez.cells2;have fez:=ez.frozen;refine bodyPost_ret (v := .agg #[.bool b19,.slice A19 n19 c19]) (by simp[results,Tryz.results148,go_sem,cez0,cez1]) rfl ?_;exact Ad.mk ⟨_,hr19⟩ hx
end Go.Proofs.YtmhgnigpmompmaaGreat
namespace Go.Hp
def bZ(F:Nat→Rat)(r:Value):Prop:=∃ b A n c,r = .tuple #[.agg #[.bool b,.slice A n c],.int .i64 (CV F)]
end Go.Hp
namespace Go.Proofs.YtmhgnigpmompmaaGreat
open Go.RowKit Go.Hp
set_option maxHeartbeats 2000000 in
theorem XB(v:Value)(l:List Int)(w:World)(hv:EI 0 w v l)(hn:l.length≤1000000):Calls Tryz.prog 98 #[v] w (Ad w fun r _=>bZ (cz l) r):=by
 have HV:=Lib.hid hv;have fF:Af (cz l):=⟨_,Cb l⟩
 have zF:ZI (cz l):=ZI.cz l;obtain⟨A,c,rfl⟩:=hv.len;clear hv
 go_enter Tryz.func98,Tryz.ntmps98
 obtain⟨W1,eW1,ez,y1⟩:=Be.made w 26 #[.bool false,.slice none 0 0] (by simp[Ag])
 go_upto_region 1 with(fail)
 rw[←eW1];clear eW1;have hx:=y1;clear y1
 go_wp2_with fail
 refine Calls.mono (YF _ l _ (HV.out.ext hx) hn) ?_;rintro e w2 ⟨r2,rfl,⟨u,rfl,hu1,hu2⟩,hx2⟩;replace ez:=ez.ext hx2;replace hx:=hx.trans hx2;clear hx2;have hgz:=ez.lt;obtain⟨E,hE⟩:∃ E,E=CV (cz l):=⟨_,rfl⟩
 have hc:=Et (cz l);rw[←hE]at hu1 hu2 hc ⊢;have HE:=Lib.hid hE;clear hE;have fin:∀(W:World) (b:Bool) (A:Option Addr) (n c:Nat),Ext w W→Ad w (fun r _=>bZ (cz l) r) (.returned (.tuple #[.agg #[.bool b,.slice A n c],.int .i64 E])) W:=fun W b A n c h=>Ad.mk ⟨_,_,_,_,by rw[HE.out]⟩ h;have Hfin:=Lib.hid fin;clear fin;rcases hc with⟨-,hc⟩ | ⟨-,hc⟩ | ⟨h0,hp,hw,hc⟩
 ·subst hc
  clear hu1 hu2;obtain⟨cez0,cez1⟩:=ez.cells2;have fez:=ez.frozen;go_wp2;obtain⟨W3,eW,ez',U⟩:=ez.put2 (.bool false) (.slice none 0 0) rfl rfl;rw[←eW];clear eW ez;replace hx:=U.from_ hx Ai;have ez:=ez';clear U ez';clear cez0 cez1 fez;obtain⟨cez0,cez1⟩:=ez.cells2;have fez:=ez.frozen;refine bodyPost_ret (v := .tuple #[.agg #[.bool false,.slice none 0 0],.int .i64 5]) (by simp[results,Tryz.results98,go_sem,cez0,cez1]) rfl ?_
  exact Hfin.out _ _ _ _ _ hx
 ·subst hc
  clear hu1 hu2;obtain⟨cez0,cez1⟩:=ez.cells2;have fez:=ez.frozen;go_wp2;obtain⟨W3,eW,ez',U⟩:=ez.put2 (.bool false) (.slice none 0 0) rfl rfl;rw[←eW];clear eW ez;replace hx:=U.from_ hx Ai;have ez:=ez';clear U ez';clear cez0 cez1 fez;obtain⟨cez0,cez1⟩:=ez.cells2;have fez:=ez.frozen;refine bodyPost_ret (v := .tuple #[.agg #[.bool false,.slice none 0 0],.int .i64 7]) (by simp[results,Tryz.results98,go_sem,cez0,cez1]) rfl ?_
  exact Hfin.out _ _ _ _ _ hx
 ·subst hc
  have hq:=bT zF hw;have hu:=hu1 rfl;obtain⟨A1,c1,rfl,-⟩:=hu.shape;clear hu1 hu2
  go_wp2_with fail
  refine Calls.mono (WL _ (cz l) _ hu fF h0 hp hq) ?_;rintro e w4 ⟨r4,rfl,⟨x4,hr4⟩,hx4⟩;obtain⟨b5,A5,n5,c5,rfl⟩:=hr4.cells;clear hu;replace ez:=ez.ext hx4;replace hx:=hx.trans hx4;clear hx4;obtain⟨cez0,cez1⟩:=ez.cells2;have fez:=ez.frozen;go_wp2;obtain⟨W3,eW,ez',U⟩:=ez.put2 (.bool b5) (.slice A5 n5 c5) rfl rfl;rw[←eW];clear eW ez;replace hx:=U.from_ hx Ai;have ez:=ez';clear U ez';clear cez0 cez1 fez
  obtain⟨cez0,cez1⟩:=ez.cells2;have fez:=ez.frozen;refine bodyPost_ret (v := .tuple #[.agg #[.bool b5,.slice A5 n5 c5],.int .i64 0]) (by simp[results,Tryz.results98,go_sem,cez0,cez1]) rfl ?_;exact Hfin.out _ _ _ _ _ hx
set_option maxHeartbeats 2000000 in
theorem Oz(v:Value)(l:List Int)(w:World)(hv:EI 0 w v l)(hn:l.length≤1000000):Calls Tryz.prog 48 #[v] w (Ad w fun r w'=>QJ (cz l) w' r):=by
 have HV:=Lib.hid hv;obtain⟨A,c,rfl⟩:=hv.len;clear hv
 go_enter Tryz.func48,Tryz.ntmps48
 go_wp2_with fail
 refine Calls.mono (XB _ l _ HV.out hn) ?_;rintro e w2 ⟨r2,rfl,⟨b5,A5,n5,c5,rfl⟩,hx2⟩;obtain⟨W1,eW1,-,y1⟩:=Be.made w2 26 #[.bool b5,.slice A5 n5 c5] (by simp[Ag]);have hx:=hx2.trans y1;clear hx2 y1
 go_upto_region 2 with(fail)
 rw[←eW1];clear eW1;obtain⟨E,hE⟩:∃ E,E=CV (cz l):=⟨_,rfl⟩
 have hc:=Et (cz l);rw[←hE]at hc ⊢;have HE:=Lib.hid hE;clear hE;rcases hc with⟨-,hc⟩ | ⟨-,hc⟩ | ⟨-,-,-,hc⟩
 ·subst hc
  go_wp2;refine bodyPost_ret (v := .tuple #[.slice none 0 0,.int .i64 5]) (by simp[results,Tryz.results48,go_sem]) rfl ?_;exact Ad.mk ⟨_,by rw[←HE.out],fun e=>by rw[←HE.out]at e;exact absurd e Ab,fun _=>rfl⟩ hx
 ·subst hc
  go_wp2;refine bodyPost_ret (v := .tuple #[.slice none 0 0,.int .i64 7]) (by simp[results,Tryz.results48,go_sem]) rfl ?_;exact Ad.mk ⟨_,by rw[←HE.out],fun e=>by rw[←HE.out]at e;exact absurd e Ab,fun _=>rfl⟩ hx
 ·subst hc
  go_wp2_with fail
  refine Calls.mono (KF _ l _ (HV.out.ext hx) Aa) ?_;rintro e w4 ⟨r4,rfl,hr4,hx4⟩;obtain⟨A1,c1,rfl,-⟩:=hr4.shape;have hx5:=hx.trans hx4;have HR:=Lib.hid (hr4.base_le (Nat.zero_le _));clear hr4;go_wp2;refine bodyPost_ret (v := .tuple #[.slice A1 (pl (cz l)) c1,.int .i64 0]) (by simp[results,Tryz.results48,go_sem]) rfl ?_;exact Ad.mk ⟨_,by rw[←HE.out],fun _=>HR.out,fun e=>by rw[←HE.out]at e;exact absurd rfl e⟩ hx5
end Go.Proofs.YtmhgnigpmompmaaGreat
namespace Go.Hp
open Go.RowKit
theorem bH(l:List (Nat→Rat))(x:Rat):V l x≤l.length:=by
 unfold V;have:=XU (l.map fun F=>BA (ev F x)) 0;simpa using this
end Go.Hp
namespace Go.Proofs.YtmhgnigpmompmaaGreat
open Go.RowKit Go.Hp
set_option maxHeartbeats 4000000 in
theorem eH(v u z:Value)(W:Nat→Rat)(p q:Rat)(base S D M t K:Nat)(w:World)(hv:RY base 23 w v W)(hu:BQ w u p)(hz:BQ w z q)(hC:LQ W S D M)(hK:Nv W (pd W) K)(hp:qsz p≤t)(hq:qsz q≤t)
  (ht:1+D*(M+t+1)+M+t+1≤274877906944) :
  Calls Tryz.prog 51 #[v,u,z] w (Ad w fun r _=>r = .int .i64 ((V (F4 W (pd W) K) p:Nat) - (V (F4 W (pd W) K) q:Nat):Int)):=by
 obtain⟨c,us,K',rfl,h1,h2,h3⟩:=hv;obtain rfl:=h1.uniq hK;have hl:(F4 W (pd W) K').length=K':=Co _ _ _;have hK9:K'≤1000:=by have:=hC.e;have:=hC.D9;omega
 have hch:∀ X (x:Ext w X) a r,BQ X a r→qsz r≤t→Calls Tryz.prog 101 #[c,a] X (Ad X fun o _=>o = .int .i64 (V (F4 W (pd W) K') r:Nat)):=fun X x a r ha hr =>
  Va c a us _ r base M t D X (h3.ext x) ha (hC.mem h1) hr ht (by have:=hC.D9;omega) (by rw[hl];omega)
 have b1:=bH (F4 W (pd W) K') p;have b2:=bH (F4 W (pd W) K') q;rw[hl]at b1 b2;obtain⟨Vp,hVp⟩:∃ n,n=V (F4 W (pd W) K') p:=⟨_,rfl⟩
 obtain⟨Vq,hVq⟩:∃ n,n=V (F4 W (pd W) K') q:=⟨_,rfl⟩
 have hc1:∀ X (x:Ext w X),Calls Tryz.prog 101 #[c,u] X (Ad X fun o _=>o = .int .i64 (Vp:Nat)):=fun X x=>by rw[hVp];exact hch X x u p (hu.ext x) hp
 have hc2:∀ X (x:Ext w X),Calls Tryz.prog 101 #[c,z] X (Ad X fun o _=>o = .int .i64 (Vq:Nat)):=fun X x=>by rw[hVq];exact hch X x z q (hz.ext x) hq
 rw[←hVp]at b1 ⊢;rw[←hVq]at b2 ⊢;have HP:=Lib.hid (And.intro hc1 hc2);obtain⟨A0,c0,rfl⟩:=h3.shape;rw[hl]at HP ⊢;obtain⟨b,B,n1,c1,b',B',n1',c1',x0,y0,rfl,-⟩:=hu.form;obtain⟨d,E,n2,c2,d',E',n2',c2',x1,y1,rfl,-⟩:=hz.form;clear hch hu hz hp hq h1 h2 h3 hC hK ht hl hc1 hc2 hVp hVq
 go_enter Tryz.func51,Tryz.ntmps51
 go_upto_region 1 with(fail)
 refine Ae 8 [7,8,9,10,11,12,13,14] [[],[0],[],[0,1,2],[],[4],[],[0,1,2,3,4,5,6],[0,1,2,3,4,5,6,7],[0,1,2,3,4,5,6,7,8]] [3,4,5] [_,_,_] [(kv ?_),(kv ?_),(kv ?_),(kv (.int .i64 (Vp:Nat))),(kv ?_),(kv ?_),(kv ?_),(kv (.int .i64 (Vq:Nat)))] (fun γ w'=>[True,True,True,True,True,True,True,True]) Bd Ah Ah Bb Ah Bc Bg ?hstep1 ?_
 case hstep1 =>
  iterate 8 refine⟨?_,?_⟩
  trivial
  iterate 3 focus
   intro γ w' he hf;clear hf;refine⟨by trivial,?_⟩;intro R hR;have hc:=he.cells;go_simp;refine hR _ _ (Ext.refl _) ?_ trivial;rfl
  ·intro γ w' he hf;clear hf;refine⟨trivial,?_⟩;intro R hR
   go_simp;exact Q8 (HP.out.1 w' he.a3) hR
  iterate 3 focus
   intro γ w' he hf;clear hf;refine⟨by trivial,?_⟩;intro R hR;have hc:=he.cells;go_simp;refine hR _ _ (Ext.refl _) ?_ trivial;rfl
  ·intro γ w' he hf;clear hf;refine⟨trivial,?_⟩;intro R hR
   go_simp;exact Q8 (HP.out.2 w' he.a3) hR
 intro γ w1 hx1 hF;clear hF;simp only[AZ,Nat.reduceAdd];clear γ;go_wp2
 go_ret
 exact Ad.mk rfl hx1.a3
end Go.Proofs.YtmhgnigpmompmaaGreat
namespace Go.Hp
open Go
section
variable{P:Program}{ops:Array Oper}{Q:Exit→Act→World→Prop}{a0:Act}{W0:World}
 {k ℓ:Nat} {D:List Nat} {T:List (List Nat)} {EK:List Nat} {EV:List Value} {V:(Nat→Value)→Nat→Value} {F:Nat→(Nat→Value)→World→Prop}
end
end Go.Hp
namespace Go.Hp
open Go.RowKit
def XH(w:World)(v:Value)(x y:Int):Prop:=∃ a b,v = .tuple #[a,b]∧AC w a x∧AC w b y
theorem XH.ext{w w':World}{v:Value}{x y:Int}(h:XH w v x y)(k:Ext w w'):XH w' v x y:=by
 obtain⟨a,b,h1,h2,h3⟩:=h;exact⟨a,b,h1,h2.kd k.kd,h3.kd k.kd⟩
theorem EW.lower{F G:Nat→Rat}{n s t i j:Nat}{Q R:Nat→Rat}(h:EW F G n s t i Q R)(hj:j≤i)(hs:Bq (j+pl G - 1) R):EW F G n s t j Q R:=
 ⟨fun m hm=>h.1 m Aa,h.2.1,hs,h.2.2.2.1,h.2.2.2.2.1,h.2.2.2.2.2.1,fun m=>by
  have h1:=h.2.2.2.2.2.2 m;have h2:(n - i)*(t+1)≤(n - j)*(t+1):=Nat.mul_le_mul_right _ Aa;omega⟩
end Go.Hp
namespace Go.Proofs.YtmhgnigpmompmaaGreat
open Go.RowKit Go.Hp
end Go.Proofs.YtmhgnigpmompmaaGreat
namespace Go.Hp
open Go.RowKit
structure Re(F G:Nat→Rat)(n s t j:Nat)(Q R:Nat→Rat):Prop where
 eq:psc (ld G^j) F=pad (cv Q G) R
 zQ:ZI Q
 zR:ZI R
 fQ:Bq n Q
 fR:Af R
 deg:pl R+j≤pl F
 qQ:∀ i,qsz (Q i)≤s+j*(t+1)
 qR:∀ i,qsz (R i)≤s+j*(t+1)
theorem Re.start{F G:Nat→Rat}{n s t:Nat}(hF:Af F)(hz:ZI F)(hs:∀ i,qsz (F i)≤s):Re F G n s t 0 pz F where
 eq:=by rw[Rat.pow_zero,Ca,Cy];funext m;simp only[pad,pz];grind
 zQ:=ZI.pz
 zR:=hz
 fQ:=Bq.pz n
 fR:=hF
 deg:=Nat.le_refl _
 qQ:=fun i=>by have h1:=CO (F 0);have h2:=hs 0;show qsz 0≤_;have:qsz (0:Rat)=1:=Ab;omega
 qR:=fun i=>by have:=hs i;omega
theorem Re.step{F G:Nat→Rat}{n s t j:Nat}{Q R:Nat→Rat}(h:Re F G n s t j Q R)(hn:n=pl F+1 - pl G)(fG:Af G)(h0:G≠pz)(zG:ZI G)(ht:∀ i,qsz (G i)≤t)(hl:pl G≤pl R){k:Nat}(hk:k=pl R - pl G){x:Int}(hx:(x:Rat)=R (pl R - 1)) :
  Re F G n s t (j+1) (pad (psc (ld G) Q) (mono k (x:Rat))) (psb (psc (ld G) R) (cv (mono k (x:Rat)) G))∧pl (psb (psc (ld G) R) (cv (mono k (x:Rat)) G)) < pl R:=by
 have hp:=AY fG h0;have hld:=Dc fG h0;have zl:∃ y:Int,ld G=(y:Rat):=zG _;obtain⟨y,hy⟩:=zl;have hsup:Bq (k+pl G) (psc (ld G) R):=((AJ h.fR).mono Aa).psc _;have e1:(x:Rat)=psc (ld G) R (k+pl G - 1) / ld G:=by
  show _=ld G*R (k+pl G - 1) / ld G;rw[show k+pl G - 1=pl R - 1 from Aa,←hx];grind
 have hs2:Bq (k+pl G - 1) (psb (psc (ld G) R) (cv (mono k (x:Rat)) G)):=by
  rw[e1];exact EJ fG h0 hsup
 have hle:=BB hs2;have hxq:qsz (x:Rat)≤s+j*(t+1):=by rw[hx];exact h.qR _
 have hlq:qsz (ld G)≤t:=ht _;have hj:(j+1)*(t+1)=j*(t+1)+(t+1):=Nat.succ_mul _ _;have o1:qsz (0:Rat)=1:=by decide
 have zsR:ZI (psc (ld G) R):=by rw[hy];exact h.zR.psc y
 have zsQ:ZI (psc (ld G) Q):=by rw[hy];exact h.zQ.psc y
 refine⟨⟨?_,zsQ.pad (ZI.mono k x),zsR.psb ((ZI.mono k x).cv zG),(h.fQ.psc _).pad ((EL k _).mono (by have:=h.deg;omega)),⟨_,hs2⟩,by have:=h.deg;omega,fun i=>?_,fun i=>?_⟩,Aa⟩
 ·have e2:psc (ld G^(j+1)) F=psc (ld G) (psc (ld G^j) F):=by
   rw[Ci,Rat.pow_succ,Rat.mul_comm]
  rw[e2,h.eq,D5,CP]
  funext m;simp only[psc,pad,psb];grind
 ·have a1:=XP zsQ (ZI.mono k x) i i
  have a2:qsz (psc (ld G) Q i)≤qsz (ld G)+qsz (Q i):=Cq _ _;have a3:=h.qQ i;have a4:qsz (mono k (x:Rat) i)≤s+j*(t+1):=by
   unfold mono;split
   ·exact hxq
   ·have:=CO (x:Rat);omega
  show qsz (psc (ld G) Q i+mono k (x:Rat) i)≤_;omega
 ·have a1:=MK zsR ((ZI.mono k x).cv zG) i i
  have a2:qsz (psc (ld G) R i)≤qsz (ld G)+qsz (R i):=Cq _ _;have a3:=h.qR i;have a4:qsz (cv (mono k (x:Rat)) G i)≤qsz (x:Rat)+t:=by
   rw[FR];show qsz ((x:Rat)*sh k G i)≤_;have b1:=Cq (x:Rat) (sh k G i);have b2:qsz (sh k G i)≤t:=by
    unfold sh;split
    ·have:=CO (ld G);omega
    ·exact ht _
   omega
  show qsz (psc (ld G) R i - cv (mono k (x:Rat)) G i)≤_;omega
theorem QS(a:Rat)(m:Nat):∀ n:Nat,a^(m+n)=a^m*a^n
 | 0=>by rw[Nat.add_zero,Rat.pow_zero,Rat.mul_one]
 | n+1=>by rw[←Nat.add_assoc,Rat.pow_succ,QS a m n,Rat.pow_succ,Rat.mul_assoc]
theorem Re.end_{F G:Nat→Rat}{n s t j:Nat}{Q R:Nat→Rat}(h:Re F G n s t j Q R)(hn:n=pl F+1 - pl G)(fF:Af F)(fG:Af G)(h0:G≠pz)(hl:pl R < pl G)(hj:j≤n) :
  psc (ld G^(n - j)) Q=Gb F G n∧psc (ld G^(n - j)) R=CX F G n:=by
 have hp:=AY fG h0;have e1:psc (ld G^n) F=pad (cv (psc (ld G^(n - j)) Q) G) (psc (ld G^(n - j)) R):=by
  have e2:ld G^n=ld G^(n - j)*ld G^j:=by rw[←QS];congr 1;omega
  rw[e2,←Ci,h.eq,CP]
  funext m;simp only[psc,pad];grind
 have e3:psc (ld G^n) F=pad (cv (psc (ld G^n) (pq F G)) G) (psc (ld G^n) (pr F G)):=by
  rw[CP];have h1:=Ki F G
  funext m
  have h2:=congrFun h1 m;simp only[psc,pad]at h2 ⊢;rw[h2];grind
 have h1:=LX fG (Af.psc _ ⟨n,h.fQ⟩) ((Dl F G).psc _) h0 e1 e3 (((AJ h.fR).mono Aa).psc _) ((DJ fF fG h0).psc _);have h2:=JO fF fG h0;rw[←hn]at h2;exact⟨h1.1.trans h2.1.symm,h1.2.trans h2.2.symm⟩
end Go.Hp
namespace Go.Proofs.YtmhgnigpmompmaaGreat
open Go.RowKit Go.Hp
end Go.Proofs.YtmhgnigpmompmaaGreat
namespace Go.Hp
open Go.RowKit
def Vw(w:World)(v:Value)(p q:Rat):Prop:=∃ b1 A1 n1 c1 b2 A2 n2 c2 b3 A3 n3 c3 b4 A4 n4 c4,v = .agg #[.bool b1,.slice A1 n1 c1,.bool b2,.slice A2 n2 c2,.bool b3,.slice A3 n3 c3,.bool b4,.slice A4 n4 c4]∧BQ w (.agg #[.bool b1,.slice A1 n1 c1,.bool b2,.slice A2 n2 c2]) p∧BQ w (.agg #[.bool b3,.slice A3 n3 c3,.bool b4,.slice A4 n4 c4]) q
theorem Vw.ext{w w':World}{v:Value}{p q:Rat}(h:Vw w v p q)(e:Ext w w'):Vw w' v p q:=by
 obtain⟨b1,A1,n1,c1,b2,A2,n2,c2,b3,A3,n3,c3,b4,A4,n4,c4,h1,h2,h3⟩:=h;exact⟨b1,A1,n1,c1,b2,A2,n2,c2,b3,A3,n3,c3,b4,A4,n4,c4,h1,h2.ext e,h3.ext e⟩
theorem Be.cells8{w:World}{g:Nat}{t:TypeId}{x0 x1 x2 x3 x4 x5 x6 x7:Value}(h:Be w g t #[x0,x1,x2,x3,x4,x5,x6,x7]) :
  w.cell? ⟨g,0,none⟩=some x0∧w.cell? ⟨g,1,none⟩=some x1∧w.cell? ⟨g,2,none⟩=some x2∧w.cell? ⟨g,3,none⟩=some x3∧w.cell? ⟨g,4,none⟩=some x4∧w.cell? ⟨g,5,none⟩=some x5∧w.cell? ⟨g,6,none⟩=some x6∧w.cell? ⟨g,7,none⟩=some x7:=
 ⟨h.cell rfl,h.cell rfl,h.cell rfl,h.cell rfl,h.cell rfl,h.cell rfl,h.cell rfl,h.cell rfl⟩
noncomputable def rts(W:Nat→Rat)(K:Nat)(p q:Rat):Int:=(V (F4 W (pd W) K) p:Nat) - (V (F4 W (pd W) K) q:Nat)
end Go.Hp
namespace Go.Proofs.YtmhgnigpmompmaaGreat
open Go.RowKit Go.Hp
set_option maxRecDepth 20000 in
set_option maxHeartbeats 4000000 in
theorem Wm(v:Value)(p q:Rat)(t:Nat)(w:World)(hv:Vw w v p q)(hp:qsz p≤t)(hq:qsz q≤t)(ht:t≤100000000000) :
  Calls Tryz.prog 112 #[v] w (Ad w fun r w'=>Bw w' r ((p+q) / 2)):=by
 have hsum:qsz (p+q)≤274877906944:=by have:=EA p q;omega
 obtain⟨d1,A1,n1,c1,d2,A2,n2,c2,d3,A3,n3,c3,d4,A4,n4,c4,rfl,hu1,hu2⟩:=hv;have HC:=Lib.hid (And.intro hu1 (And.intro hu2 hsum));clear hu1 hu2 hsum hp hq ht
 go_enter Tryz.func112,Tryz.ntmps112
 have ea:=(Be.new w 30 #[.bool d1,.slice A1 n1 c1,.bool d2,.slice A2 n2 c2,.bool d3,.slice A3 n3 c3,.bool d4,.slice A4 n4 c4] (by simp[Ag])).alloc (.cells #[.bool false,.slice none 0 0,.bool false,.slice none 0 0] 28);have ez:=Be.new (w.alloc (.cells #[.bool d1,.slice A1 n1 c1,.bool d2,.slice A2 n2 c2,.bool d3,.slice A3 n3 c3,.bool d4,.slice A4 n4 c4] 30)) 28 #[.bool false,.slice none 0 0,.bool false,.slice none 0 0] (by simp[Ag])
 rw[World.size_alloc]at ez;have hx:=((Ext.refl w).alloc (.cells #[.bool d1,.slice A1 n1 c1,.bool d2,.slice A2 n2 c2,.bool d3,.slice A3 n3 c3,.bool d4,.slice A4 n4 c4] 30)).alloc (.cells #[.bool false,.slice none 0 0,.bool false,.slice none 0 0] 28)
 go_upto_region 1 with(fail)
 generalize (w.alloc (.cells #[.bool d1,.slice A1 n1 c1,.bool d2,.slice A2 n2 c2,.bool d3,.slice A3 n3 c3,.bool d4,.slice A4 n4 c4] 30)).alloc (.cells #[.bool false,.slice none 0 0,.bool false,.slice none 0 0] 28)=W0 at *;obtain⟨cea0,cea1,cea2,cea3,cea4,cea5,cea6,cea7⟩:=ea.cells8;have fea:=ea.frozen
 go_wp2_with fail
 refine Calls.mono (Tf _ _ p q _ (HC.out.1.ext hx) (HC.out.2.1.ext hx)) ?_;rintro e w1 ⟨r1,rfl,hr1,hx1⟩;clear cea0 cea1 cea2 cea3 cea4 cea5 cea6 cea7 fea ea;replace ez:=ez.ext hx1;replace hx:=hx.trans hx1
 go_wp2_with fail
 refine Calls.mono (X5 2 _ Aa Aa) ?_;rintro e w2 ⟨r2,rfl,hr2,hx2⟩;replace ez:=ez.ext hx2;replace hx:=hx.trans hx2;have H2:=Lib.hid (And.intro (hr1.ext hx2) hr2);clear hr1 hr2 hx1 hx2
 go_wp2_with fail
 refine Calls.mono (Xt _ _ (p+q) ((2:Int):Rat) _ (H2.out.1.has HC.out.2.2) (H2.out.2.has Ab) Ab) ?_;rintro e w3 ⟨r3,rfl,⟨q3,rfl,hq3⟩,hx3⟩;obtain⟨b5,B5,m5,e5,b6,B6,m6,e6,rfl⟩:=hq3.cells;replace ez:=ez.ext hx3;replace hx:=hx.trans hx3;obtain⟨W4,eW,e4,x4⟩:=Be.made w3 28 #[.bool b5,.slice B5 m5 e5,.bool b6,.slice B6 m6 e6] (by simp[Ag]);have hr:=hq3.ext x4;have hltz:=ez.lt;replace ez:=ez.ext x4;replace hx:=hx.trans x4
 clear hq3 hx3 x4 H2
 go_upto_region 2 with(fail)
 rw[←eW];clear eW;generalize w3.heap.size=gc at *;obtain⟨cez0,cez1,cez2,cez3⟩:=ez.cells4;have fez:=ez.frozen;obtain⟨ce40,ce41,ce42,ce43⟩:=e4.cells4;have fe4:=e4.frozen;go_wp2;obtain⟨W5,eW,ez',U⟩:=ez.put4 (.bool b5) (.slice B5 m5 e5) (.bool b6) (.slice B6 m6 e6) rfl rfl rfl rfl;rw[←eW];clear eW ez;replace hr:=hr.kd U.kd;replace hx:=U.from_ hx Ai;have ez:=ez';clear U ez';clear cez0 cez1 cez2 cez3 fez
 obtain⟨cez0,cez1,cez2,cez3⟩:=ez.cells4;have fez:=ez.frozen;refine bodyPost_ret (v := .agg #[.bool b5,.slice B5 m5 e5,.bool b6,.slice B6 m6 e6]) (by simp[results,Tryz.results112,go_sem,cez0,cez1,cez2,cez3]) rfl ?_;exact Ad.mk hr hx
end Go.Proofs.YtmhgnigpmompmaaGreat
namespace Go.Hp
open Go.RowKit
theorem RY.cell{base:Nat}{t:TypeId}{w:World}{v:Value}{W:Nat→Rat}(h:RY base t w v W):∃ A n c,v = .agg #[.slice A n c]:=by
 obtain⟨c,us,K,rfl,h2,h3,h4⟩:=h;obtain⟨A,c,rfl⟩:=h4.shape;exact⟨_,_,_,rfl⟩
theorem Be.put8{w:World}{g:Nat}{t:TypeId}{a b c d a' b' c' d':Value}(h:Be w g t #[a,b,c,d,a',b',c',d'])(x0 x1 x2 x3 x4 x5 x6 x7:Value)(h0:Ag x0=false)(h1:Ag x1=false)(h2:Ag x2=false)(h3:Ag x3=false)(h4:Ag x4=false)(h5:Ag x5=false)(h6:Ag x6=false)(h7:Ag x7=false) :
  ∃ W,W=(((((((w.setCell ⟨g,0,none⟩ x0).setCell ⟨g,1,none⟩ x1).setCell ⟨g,2,none⟩ x2).setCell ⟨g,3,none⟩ x3).setCell ⟨g,4,none⟩ x4).setCell ⟨g,5,none⟩ x5).setCell ⟨g,6,none⟩ x6).setCell ⟨g,7,none⟩ x7∧Be W g t #[x0,x1,x2,x3,x4,x5,x6,x7]∧Ch [g] w W:=by
 have k0:Be (w.setCell ⟨g,0,none⟩ x0) g t #[x0,b,c,d,a',b',c',d']:=h.set_ 0 h0;have k1:Be ((w.setCell ⟨g,0,none⟩ x0).setCell ⟨g,1,none⟩ x1) g t #[x0,x1,c,d,a',b',c',d']:=k0.set_ 1 h1;have k2:Be (((w.setCell ⟨g,0,none⟩ x0).setCell ⟨g,1,none⟩ x1).setCell ⟨g,2,none⟩ x2) g t #[x0,x1,x2,d,a',b',c',d']:=k1.set_ 2 h2;have k3:Be ((((w.setCell ⟨g,0,none⟩ x0).setCell ⟨g,1,none⟩ x1).setCell ⟨g,2,none⟩ x2).setCell ⟨g,3,none⟩ x3) g t #[x0,x1,x2,x3,a',b',c',d']:=k2.set_ 3 h3
 have k4:Be (((((w.setCell ⟨g,0,none⟩ x0).setCell ⟨g,1,none⟩ x1).setCell ⟨g,2,none⟩ x2).setCell ⟨g,3,none⟩ x3).setCell ⟨g,4,none⟩ x4) g t #[x0,x1,x2,x3,x4,b',c',d']:=k3.set_ 4 h4;have k5:Be ((((((w.setCell ⟨g,0,none⟩ x0).setCell ⟨g,1,none⟩ x1).setCell ⟨g,2,none⟩ x2).setCell ⟨g,3,none⟩ x3).setCell ⟨g,4,none⟩ x4).setCell ⟨g,5,none⟩ x5) g t #[x0,x1,x2,x3,x4,x5,c',d']:=k4.set_ 5 h5;have k6:Be (((((((w.setCell ⟨g,0,none⟩ x0).setCell ⟨g,1,none⟩ x1).setCell ⟨g,2,none⟩ x2).setCell ⟨g,3,none⟩ x3).setCell ⟨g,4,none⟩ x4).setCell ⟨g,5,none⟩ x5).setCell ⟨g,6,none⟩ x6) g t #[x0,x1,x2,x3,x4,x5,x6,d']:=k5.set_ 6 h6
 have k7:Be ((((((((w.setCell ⟨g,0,none⟩ x0).setCell ⟨g,1,none⟩ x1).setCell ⟨g,2,none⟩ x2).setCell ⟨g,3,none⟩ x3).setCell ⟨g,4,none⟩ x4).setCell ⟨g,5,none⟩ x5).setCell ⟨g,6,none⟩ x6).setCell ⟨g,7,none⟩ x7) g t #[x0,x1,x2,x3,x4,x5,x6,x7]:=k6.set_ 7 h7;exact⟨_,rfl,k7,(((((((Ch.set_ h.nodig 0 x0).trans (Ch.set_ k0.nodig 1 x1)).trans (Ch.set_ k1.nodig 2 x2)).trans (Ch.set_ k2.nodig 3 x3)).trans (Ch.set_ k3.nodig 4 x4)).trans (Ch.set_ k4.nodig 5 x5)).trans (Ch.set_ k5.nodig 6 x6)).trans (Ch.set_ k6.nodig 7 x7)⟩
end Go.Hp
namespace Go.Proofs.YtmhgnigpmompmaaGreat
open Go.RowKit Go.Hp
end Go.Proofs.YtmhgnigpmompmaaGreat
namespace Go.Hp
open Go.RowKit
def Km(w:World)(v:Value)(p q:Rat):Prop:=∃ b1 A1 n1 c1 b2 A2 n2 c2 b3 A3 n3 c3 b4 A4 n4 c4,v = .agg #[.bool b1,.slice A1 n1 c1,.bool b2,.slice A2 n2 c2,.bool b3,.slice A3 n3 c3,.bool b4,.slice A4 n4 c4]∧Bw w (.agg #[.bool b1,.slice A1 n1 c1,.bool b2,.slice A2 n2 c2]) p∧Bw w (.agg #[.bool b3,.slice A3 n3 c3,.bool b4,.slice A4 n4 c4]) q
theorem Km.ext{w w':World}{v:Value}{p q:Rat}(h:Km w v p q)(e:Ext w w'):Km w' v p q:=by
 obtain⟨b1,A1,n1,c1,b2,A2,n2,c2,b3,A3,n3,c3,b4,A4,n4,c4,h1,h2,h3⟩:=h;exact⟨b1,A1,n1,c1,b2,A2,n2,c2,b3,A3,n3,c3,b4,A4,n4,c4,h1,h2.ext e,h3.ext e⟩
theorem Km.has{w:World}{v:Value}{p q:Rat}(h:Km w v p q)(hp:qsz p≤274877906944)(hq:qsz q≤274877906944):Vw w v p q:=by
 obtain⟨b1,A1,n1,c1,b2,A2,n2,c2,b3,A3,n3,c3,b4,A4,n4,c4,h1,h2,h3⟩:=h;exact⟨b1,A1,n1,c1,b2,A2,n2,c2,b3,A3,n3,c3,b4,A4,n4,c4,h1,h2.has hp,h3.has hq⟩
end Go.Hp
namespace Go.Proofs.YtmhgnigpmompmaaGreat
open Go.RowKit Go.Hp
set_option maxRecDepth 20000 in
set_option maxHeartbeats 4000000 in
theorem Wt(v u:Value)(p q:Rat)(w:World)(hv:BQ w v p)(hu:BQ w u q) :
  Calls Tryz.prog 82 #[v,u] w (Ad w fun r w'=>Km w' r p q):=by
 have HC:=Lib.hid (And.intro hv hu);obtain⟨b,B,m1,e1,b',B',m1',e1',x0,y0,rfl,-⟩:=hv.form;obtain⟨d,E,m2,e2,d',E',m2',e2',x1,y1,rfl,-⟩:=hu.form;clear hv hu
 go_enter Tryz.func82,Tryz.ntmps82
 obtain⟨W1,eW1,ea,y1⟩:=Be.made w 28 #[.bool b,.slice B m1 e1,.bool b',.slice B' m1' e1'] (by simp[Ag]);obtain⟨W2,eW2,ec,y2⟩:=Be.made W1 28 #[.bool d,.slice E m2 e2,.bool d',.slice E' m2' e2'] (by simp[Ag]);obtain⟨W3,eW3,ez,y3⟩:=Be.made W2 30 #[.bool false,.slice none 0 0,.bool false,.slice none 0 0,.bool false,.slice none 0 0,.bool false,.slice none 0 0] (by simp[Ag]);have s1:W1.heap.size=w.heap.size+1:=by rw[eW1,World.size_alloc]
 have s2:W2.heap.size=w.heap.size+1+1:=by rw[eW2,World.size_alloc,s1]
 rw[s1]at ec;rw[s2]at ez;have hx:=(y1.trans y2).trans y3;replace ea:=ea.ext (y2.trans y3);replace ec:=ec.ext y3
 go_upto_region 1 with(fail)
 rw[←eW1,←eW2,←eW3];clear eW1 eW2 eW3 y1 y2 y3 s1 s2;obtain⟨cea0,cea1,cea2,cea3⟩:=ea.cells4;have fea:=ea.frozen;obtain⟨cec0,cec1,cec2,cec3⟩:=ec.cells4;have fec:=ec.frozen
 go_wp2_with fail
 refine Ae 4 [5,6,7,8] [[],[0],[],[0,1,2],[0,1,2,3],[0,1,2,3,4]] [2,3] [_,_] [(kv ?_),(fun γ=>γ 1),(kv ?_),(fun γ=>γ 3)] (fun γ w'=>[True,Bw w' (γ 1) p,True,Bw w' (γ 3) q]) Bd Ah Ah Bb Ah Bc Bg ?hstep1 ?_
 case hstep1 =>
  iterate 4 refine⟨?_,?_⟩
  trivial
  iterate 1 focus
   intro γ w' he hf;clear hf;refine⟨by trivial,?_⟩;intro R hR;have hc:=he.cells;have cq0:=he.cell cea0;have cq1:=he.cell cea1;have cq2:=he.cell cea2;have cq3:=he.cell cea3;have cq4:=he.cell cec0;have cq5:=he.cell cec1;have cq6:=he.cell cec2;have cq7:=he.cell cec3;go_simp;refine hR _ _ (Ext.refl _) ?_ trivial;rfl
  ·intro γ w' he hf;clear hf;refine⟨trivial,?_⟩;intro R hR
   go_simp;exact AX (Gn _ p w' (HC.out.1.ext (hx.trans he))) hR
  iterate 1 focus
   intro γ w' he hf;clear hf;refine⟨by trivial,?_⟩;intro R hR;have hc:=he.cells;have cq0:=he.cell cea0;have cq1:=he.cell cea1;have cq2:=he.cell cea2;have cq3:=he.cell cea3;have cq4:=he.cell cec0;have cq5:=he.cell cec1;have cq6:=he.cell cec2;have cq7:=he.cell cec3;go_simp;refine hR _ _ (Ext.refl _) ?_ trivial;rfl
  ·intro γ w' he hf;clear hf;refine⟨trivial,?_⟩;intro R hR
   go_simp;exact AX (Gn _ q w' (HC.out.2.ext (hx.trans he))) hR
 intro γ w8 hx8 hF;have p1:Bw w8 (γ 1) p:=Au.get hF 1 Ab;have p3:Bw w8 (γ 3) q:=Au.get hF 3 Ab;clear hF;simp only[AZ,Nat.reduceAdd];generalize γ 1=g1 at *;generalize γ 3=g3 at *;clear γ;obtain⟨b5,A5,n5,c5,b6,A6,n6,c6,rfl⟩:=p1.cells;obtain⟨b7,A7,n7,c7,b8,A8,n8,c8,rfl⟩:=p3.cells;have HQ:=Lib.hid (And.intro p1 p3);replace hx:=hx.trans hx8;replace ez:=ez.ext hx8;clear p1 p3 cea0 cea1 cea2 cea3 cec0 cec1 cec2 cec3 fea fec
 obtain⟨cez0,cez1,cez2,cez3,cez4,cez5,cez6,cez7⟩:=ez.cells8;have fez:=ez.frozen;go_wp2;obtain⟨W6,eW6,ez',U⟩:=ez.put8 (.bool b5) (.slice A5 n5 c5) (.bool b6) (.slice A6 n6 c6) (.bool b7) (.slice A7 n7 c7) (.bool b8) (.slice A8 n8 c8) rfl rfl rfl rfl rfl rfl rfl rfl;rw[←eW6];have hr1:=Bw.kd HQ.out.1 U.kd;have hr2:=Bw.kd HQ.out.2 U.kd;replace hx:=U.from_ hx Ai;clear eW6 ez cez0 cez1 cez2 cez3 cez4 cez5 cez6 cez7 fez
 have ez:=ez';obtain⟨cez0,cez1,cez2,cez3,cez4,cez5,cez6,cez7⟩:=ez.cells8;have fez:=ez.frozen;refine bodyPost_ret (v := .agg #[.bool b5,.slice A5 n5 c5,.bool b6,.slice A6 n6 c6,.bool b7,.slice A7 n7 c7,.bool b8,.slice A8 n8 c8]) (by simp[results,Tryz.results82,go_sem,cez0,cez1,cez2,cez3,cez4,cez5,cez6,cez7]) rfl ?_;exact Ad.mk ⟨_,_,_,_,_,_,_,_,_,_,_,_,_,_,_,_,rfl,hr1,hr2⟩ hx
end Go.Proofs.YtmhgnigpmompmaaGreat
namespace Go.Hp
/-! ### bounds of values -/
theorem Jc(B:Rat)(hB:0≤B):∀(n:Nat) (F:Nat→Rat),∃ M,0≤M∧∀ x,ab x≤B→ab (CK n F x)≤M
 | 0,F=>⟨0,Ab,fun x _=>by show ab 0≤0;decide⟩
 | n+1,F=>by
  obtain⟨M,h0,h⟩:=Jc B hB n (tl F);refine⟨ab (F 0)+B*M,by have:=Ak (F 0);have:=Rat.mul_nonneg hB h0;grind,fun x hx=>?_⟩;rw[DD];have h1:=FH (F 0) (x*CK n (tl F) x);have h2:ab (x*CK n (tl F) x)≤B*M:=by rw[Cf];exact Ey hx (h x hx) (Ak _) hB
  grind
theorem Ua(B:Rat)(hB:0≤B):∀(n:Nat) (F:Nat→Rat),∃ L,0≤L∧∀ x y,ab x≤B→ab y≤B→ab (CK n F x - CK n F y)≤L*ab (x - y)
 | 0,F=>⟨0,Ab,fun x y _ _=>by show ab (0 - 0)≤0*_;rw[Rat.zero_mul,show(0:Rat) - 0=0 by grind];decide⟩
 | n+1,F=>by
  obtain⟨L,h0,h⟩:=Ua B hB n (tl F);obtain⟨M,m0,hM⟩:=Jc B hB n (tl F);refine⟨M+B*L,by have:=Rat.mul_nonneg hB h0;grind,fun x y hx hy=>?_⟩;rw[DD,DD];have e:F 0+x*CK n (tl F) x - (F 0+y*CK n (tl F) y)=(x - y)*CK n (tl F) x+y*(CK n (tl F) x - CK n (tl F) y):=by grind
  rw[e];have h1:=FH ((x - y)*CK n (tl F) x) (y*(CK n (tl F) x - CK n (tl F) y));have h2:ab ((x - y)*CK n (tl F) x)≤M*ab (x - y):=by
   rw[Cf];have:=Ey (Std.le_refl (ab (x - y))) (hM x hx) (Ak _) (Ak _);grind
  have h3:ab (y*(CK n (tl F) x - CK n (tl F) y))≤B*(L*ab (x - y)):=by rw[Cf];exact Ey hy (h x y hx hy) (Ak _) hB
  grind
theorem d9(F:Nat→Rat):pd F=pad (tl F) (cs 0 (pd (tl F))):=by
 funext i
 match i with
 | 0=>show((0+1:Nat):Rat)*F 1=F 1+0;have:((0+1:Nat):Rat)=1:=rfl;rw[this];grind
 | i+1 =>
  show((i+1+1:Nat):Rat)*F (i+1+1)=F (i+1+1)+((i+1:Nat):Rat)*F (i+1+1);have:((i+1+1:Nat):Rat)=((i+1:Nat):Rat)+1:=by push_cast;rfl
  rw[this];grind
theorem XV(n:Nat){F:Nat→Rat}(x:Rat):CK (n+1) (pd F) x=CK (n+1) (tl F) x+x*CK n (pd (tl F)) x:=by
 conv=>lhs;rw[d9 F,Te]
 congr 1;rw[DD];show 0+x*CK n (pd (tl F)) x=_;grind
theorem TK(B:Rat)(hB:0≤B):∀(n:Nat) (F:Nat→Rat),Bq n F→∃ R,0≤R∧∀ x y,ab x≤B→ab y≤B→∃ r,ab r≤R∧CK n F y - CK n F x=(y - x)*(CK n (pd F) x+(y - x)*r)
 | 0,F,_=>⟨0,Ab,fun x y _ _=>⟨0,Ab,by show(0:Rat) - 0=_*(0+_*0);grind⟩⟩
 | n+1,F,hs=>by
  obtain⟨R,h0,h⟩:=TK B hB n (tl F) hs.tl;obtain⟨M,m0,hM⟩:=Jc B hB n (pd (tl F));refine⟨M+B*R,by have:=Rat.mul_nonneg hB h0;grind,fun x y hx hy=>?_⟩;obtain⟨r,hr,e⟩:=h x y hx hy;refine⟨CK n (pd (tl F)) x+y*r,?_,?_⟩
  ·have h1:=FH (CK n (pd (tl F)) x) (y*r)
   have h2:ab (y*r)≤B*R:=by rw[Cf];exact Ey hy hr (Ak _) hB
   have h3:=hM x hx;grind
  ·have e1:CK (n+1) (pd F) x=CK n (tl F) x+x*CK n (pd (tl F)) x:=by
    rw[XV];congr 1;exact LC hs.tl (Nat.le_succ n) x
   rw[e1,DD,DD];grind
theorem Gm{F:Nat→Rat}(h:Af F){B:Rat}(hB:0≤B):∃ M,0≤M∧∀ x,ab x≤B→ab (ev F x)≤M:=Jc B hB (pl F) F
theorem Pm{F:Nat→Rat}(h:Af F){B:Rat}(hB:0≤B):∃ L,0≤L∧∀ x y,ab x≤B→ab y≤B→ab (ev F x - ev F y)≤L*ab (x - y):=Ua B hB (pl F) F
theorem ZO{F:Nat→Rat}(h:Af F){B:Rat}(hB:0≤B):∃ R,0≤R∧∀ x y,ab x≤B→ab y≤B→∃ r,ab r≤R∧ev F y - ev F x=(y - x)*(ev (pd F) x+(y - x)*r):=by
 obtain⟨R,h0,k⟩:=TK B hB (pl F) F (AJ h);refine⟨R,h0,fun x y hx hy=>?_⟩;obtain⟨r,hr,e⟩:=k x y hx hy;refine⟨r,hr,?_⟩;have e1:ev (pd F) x=CK (pl F) (pd F) x:=EU (OE ((AJ h).mono (Nat.le_succ _))) x;rw[e1];exact e
theorem TB(P:Nat→Rat→Prop)(mono:∀ i s t,P i s→s≤t→P i t):∀ m,(∀ i,i < m→∃ T,P i T)→∃ T,1≤T∧∀ i,i < m→P i T
 | 0,_=>⟨1,Ab,fun i hi=>Aa⟩
 | m+1,h=>by
  obtain⟨T,h1,h2⟩:=TB P mono m fun i hi=>h i Aa;obtain⟨S,hS⟩:=h m Aa;refine⟨T+ab S,by have:=Ak S;grind,fun i hi=>?_⟩;by_cases e:i=m
  ·subst e;exact mono _ _ _ hS (by have:=TT S;grind)
  ·exact mono _ _ _ (h2 i Aa) (by have:=Ak S;grind)
/-! ### the chain -/
theorem Po{F:Nat→Rat}(zF:ZI F)(fF:Af F)(h0:F≠pz):∃ c:Rat,0 < c∧rd F=psc c F:=by
 have h1:=Io zF fF h0;have h2:(0:Rat) < ((cn F:Nat):Rat):=by
  have:0 < cn F:=Nat.pos_of_ne_zero h1;exact_mod_cast this
 refine⟨1 / ((cn F:Nat):Rat),?_,rfl⟩;have h3:((cn F:Nat):Rat)*(1 / ((cn F:Nat):Rat))=1:=by grind
 rcases Std.lt_trichotomy 0 (1 / ((cn F:Nat):Rat))with a | a | a
 ·exact a
 ·rw[←a,Rat.mul_zero]at h3;exact absurd h3 Ab
 ·exfalso
  have:=JJ h2 a;grind
theorem fJ{A B:Nat→Rat}(fA:Af A)(fB:Af B)(h0:B≠pz):nx A B=pz↔pr A B=pz:=by
 constructor
 ·intro h
  have:=(JC fA fB h0).2.2.1;rw[h,BV]at this;exact(BF (Ex fA fB)).1 this.symm
 ·exact J7
theorem F5.dv{F0 G0 A B:Nat→Rat}{D S:Nat}(h:F5 F0 G0 D S A B){E:Nat→Rat}(hE:Af E):(Dv E A∧Dv E B)↔(Dv E F0∧Dv E G0):=by
 obtain⟨A',B',e,d,h,rfl,rfl,he,hd⟩:=h;rw[Fw (Jn he),Fw (Jn hd)];exact h.dv E hE
theorem KR{F G E:Nat→Rat}(c:DU F G)(hE:Af E)(h1:Dv E F)(h2:Dv E G):pl E=1:=DU.self hE ((c.dv h1).symm.dv h2)
theorem F5.cop{F0 G0 A B:Nat→Rat}{D S:Nat}(h:F5 F0 G0 D S A B)(c:DU F0 G0):DU A B:=by
 obtain⟨fA,fB,-⟩:=h.facts;obtain⟨U,V,E,fU,fV,hg,e⟩:=XX (pl B) fA fB (Nat.le_refl _);obtain⟨d1,d2⟩:=(h.dv hg.1).1 ⟨hg.2.2.1,hg.2.2.2.1⟩;have h1:=KR c hg.1 d1 d2;have hne:E≠pz:=fun q=>by rw[q,BV]at h1;omega
 have hl:=hg.2.1 hne;have hE:E=pone:=by
  funext i
  match i with
  | 0 =>
   have:ld E=E 0:=by unfold ld;rw[h1]
   rw[←this,hl];rfl
  | i+1=>exact(AJ hg.1) (i+1) Aa
 exact⟨U,V,fU,fV,by rw[e,hE]⟩
noncomputable def vx(F:Nat→Rat)(K:Nat)(x:Rat):Nat:=UZ (fun i=>ev (C9 F (pd F) i) x) K
noncomputable def Ie(F:Nat→Rat)(x y:Rat):Nat:=open Classical in if ev F x≠0∧BA (ev F y)≠BA (ev F x)then 1 else 0
theorem FO{c q:Rat}(h:0 < c):BA (c*q)=BA q:=by
 unfold BA;rcases Std.lt_trichotomy q 0 with a | a | a
 ·have:=JJ h a
  rw[if_neg (show ¬ 0 < c*q by grind),if_pos this,if_neg (show ¬ 0 < q by grind),if_pos a]
 ·rw[a,Rat.mul_zero]
 ·have:=Rat.mul_pos h a
  rw[if_pos this,if_pos a]
section
variable{F:Nat→Rat}{K:Nat}
structure Ej(F:Nat→Rat)(K:Nat):Prop where
 z:ZI F
 f:Af F
 n:F≠pz
 c:DU F (pd F)
 k:Nv F (pd F) K
theorem Ej.st(h:Ej F K){S:Nat}(hS:∀ i,qsz (F i)≤S)(hS2:∀ i,qsz (pd F i)≤S)(i:Nat)(hi:i < K):F5 F (pd F) (pl F+pl (pd F)) S (C9 F (pd F) i) (C9 F (pd F) (i+1)):=
 JG h.f (BS h.f) h.z (EM h.z) hS hS2 i fun j a b=>h.k.2.2 j a Aa
theorem Ej.room(h:Ej F K):∃ S,(∀ i,qsz (F i)≤S)∧∀ i,qsz (pd F i)≤S:=by
 obtain⟨S,hS⟩:=Ee h.f;obtain⟨T,hT⟩:=Ee (BS h.f);exact⟨max S T,fun i=>Nat.le_trans (hS i) (Nat.le_max_left _ _),fun i=>Nat.le_trans (hT i) (Nat.le_max_right _ _)⟩
theorem Ej.ne0(h:Ej F K):C9 F (pd F) 0≠pz:=by
 obtain⟨c,hc,e⟩:=Po h.z h.f h.n;intro q;have e2:C9 F (pd F) 0=rd F:=rfl;rw[e2,e]at q;have:=DI (show c≠0 by grind) h.f;rw[q,BV]at this;exact h.n ((BF h.f).1 this.symm)
theorem Ej.ne(h:Ej F K){i:Nat}(hi:i < K):C9 F (pd F) i≠pz:=by
 match i with
 | 0=>exact h.ne0
 | i+1=>exact h.k.2.2 (i+1) Aa hi
theorem Ej.fin(h:Ej F K){i:Nat}(hi:i < K):Af (C9 F (pd F) i):=by
 obtain⟨S,a,b⟩:=h.room;exact(h.st a b i hi).facts.1
theorem Ej.last(h:Ej F K):pl (C9 F (pd F) (K - 1))=1:=by
 obtain⟨S,a,b⟩:=h.room;have hK:=h.k.1;have h1:=h.st a b (K - 1) Aa;have e:K - 1+1=K:=by omega
 rw[e,h.k.2.1]at h1;obtain⟨fA,-⟩:=h1.facts;exact KR h.c fA ((h1.dv fA).1 ⟨Dv.refl _,Dv.zero _⟩).1 ((h1.dv fA).1 ⟨Dv.refl _,Dv.zero _⟩).2
theorem Ej.recr(h:Ej F K){i:Nat}(hi:i+2 < K):∃ q c,Af q∧0 < c∧∀ x,ev (C9 F (pd F) i) x=ev q x*ev (C9 F (pd F) (i+1)) x - c*ev (C9 F (pd F) (i+2)) x:=by
 have f0:=h.fin (show i < K by omega);have f1:=h.fin (show i+1 < K by omega);have n1:=h.ne (show i+1 < K by omega);have n2:=h.ne hi;have hp:pr (C9 F (pd F) i) (C9 F (pd F) (i+1))≠pz:=fun q=>n2 ((fJ f0 f1 n1).2 q);obtain⟨-,fx,-,-,hc⟩:=JC f0 f1 n1;obtain⟨c,hc0,e⟩:=hc hp;refine⟨pq (C9 F (pd F) i) (C9 F (pd F) (i+1)),c,Dl _ _,hc0,fun x=>?_⟩;have e2:=Ki (C9 F (pd F) i) (C9 F (pd F) (i+1));have e3:ev (C9 F (pd F) i) x=ev (pad (cv (pq (C9 F (pd F) i) (C9 F (pd F) (i+1))) (C9 F (pd F) (i+1))) (pr (C9 F (pd F) i) (C9 F (pd F) (i+1)))) x:=by rw[←e2]
 rw[e3,Jq ((Dl _ _).cv f1) (Ex f0 f1),FT (Dl _ _) f1,e,G8 _ fx];show _ + -c*ev (nx (C9 F (pd F) i) (C9 F (pd F) (i+1))) x=_ - c*ev (C9 F (pd F) (i+2)) x;rw[JW];grind
theorem I9{c:Rat}(h:0 < c):0 < 1 / c∧1 / c*c=1:=by
 have e:1 / c*c=1:=by grind
 refine⟨?_,e⟩;rcases Std.lt_trichotomy 0 (1 / c)with p | p | p
 ·exact p
 ·rw[←p,Rat.zero_mul]at e;exact absurd e Ab
 ·have:=JJ h p;grind
theorem Qn{p q t s:Rat}(h1:p≤t*q)(h2:0≤q)(h3:t≤s):p≤s*q:=Std.le_trans h1 (Rat.mul_le_mul_of_nonneg_right h3 h2)
theorem Yi{a b c d:Rat}(ha:1≤a)(hb:1≤b)(hc:1≤c):a≤a+b+c+ab d∧b≤a+b+c+ab d∧c≤a+b+c+ab d∧d≤a+b+c+ab d∧1≤a+b+c+ab d:=by
 have h1:=Ak d;have h2:=TT d;refine⟨?_,?_,?_,?_,?_⟩<;>grind
theorem Eh{a b c:Rat}(h:a≤b)(hc:0≤c):a≤b+c:=by grind
theorem Dk{a b c:Rat}(h:a≤c)(hb:0≤b):a≤b+c:=by grind
theorem Ej.lipT(h:Ej F K){B:Rat}(hB:0≤B):∃ T,1≤T∧∀ i,i < K→∀ x y,ab x≤B→ab y≤B→ab (ev (C9 F (pd F) i) x - ev (C9 F (pd F) i) y)≤T*ab (x - y):=
 TB (fun i T=>∀ x y,ab x≤B→ab y≤B→ab (ev (C9 F (pd F) i) x - ev (C9 F (pd F) i) y)≤T*ab (x - y)) (fun i s t p q x y hx hy=>Qn (p x y hx hy) (Ak _) q) K fun i hi=>by
  obtain⟨L,-,hL⟩:=Pm (h.fin hi) hB;exact⟨L,hL⟩
theorem Ej.bezT(h:Ej F K){B:Rat}(hB:0≤B):∃ T,1≤T∧∀ i,i < K→∃ U W,Af U∧Af W∧pad (cv U (C9 F (pd F) i)) (cv W (C9 F (pd F) (i+1)))=pone∧∀ x,ab x≤B→ab (ev U x)≤T∧ab (ev W x)≤T:=by
 obtain⟨S,a,b⟩:=h.room;refine TB (fun i T=>∃ U W,Af U∧Af W∧pad (cv U (C9 F (pd F) i)) (cv W (C9 F (pd F) (i+1)))=pone∧∀ x,ab x≤B→ab (ev U x)≤T∧ab (ev W x)≤T) (fun i s t p q=>?_) K fun i hi=>?_
 ·obtain⟨U,W,c1,c2,c3,c4⟩:=p
  exact⟨U,W,c1,c2,c3,fun x hx=>⟨Std.le_trans (c4 x hx).1 q,Std.le_trans (c4 x hx).2 q⟩⟩
 ·obtain⟨U,W,c1,c2,c3⟩:=(h.st a b i hi).cop h.c
  obtain⟨M,m0,hM⟩:=Gm c1 hB;obtain⟨N,n0,hN⟩:=Gm c2 hB;exact⟨M+N,U,W,c1,c2,c3,fun x hx=>⟨Eh (hM x hx) n0,Dk (hN x hx) m0⟩⟩
theorem Ej.recT(h:Ej F K){B:Rat}(hB:0≤B):∃ T,1≤T∧∀ i,i < K→i+2 < K→∃ q c,Af q∧0 < c∧(∀ x,ev (C9 F (pd F) i) x=ev q x*ev (C9 F (pd F) (i+1)) x - c*ev (C9 F (pd F) (i+2)) x)∧(∀ x,ab x≤B→ab (ev q x)≤T)∧1≤T*c:=by
 refine TB (fun i T=>i+2 < K→∃ q c,Af q∧0 < c∧(∀ x,ev (C9 F (pd F) i) x=ev q x*ev (C9 F (pd F) (i+1)) x - c*ev (C9 F (pd F) (i+2)) x)∧(∀ x,ab x≤B→ab (ev q x)≤T)∧1≤T*c) (fun i s t p q hi=>?_) K fun i hi=>?_
 ·obtain⟨u,c,c1,c2,c3,c4,c5⟩:=p hi
  exact⟨u,c,c1,c2,c3,fun x hx=>Std.le_trans (c4 x hx) q,Qn c5 (Std.le_of_lt c2) q⟩
 ·by_cases hi2:i+2 < K
  ·obtain⟨q,c,c1,c2,c3⟩:=h.recr hi2
   obtain⟨M,m0,hM⟩:=Gm c1 hB;obtain⟨hp,e⟩:=I9 c2;refine⟨M+1 / c,fun _=>⟨q,c,c1,c2,c3,fun x hx=>Eh (hM x hx) (Std.le_of_lt hp),?_⟩⟩;have h1:=Rat.mul_nonneg m0 (Std.le_of_lt c2);rw[Rat.add_mul,e];exact Dk (Std.le_refl _) h1
  ·exact⟨0,fun q=>absurd q hi2⟩
theorem Ej.topT(h:Ej F K){B:Rat}(hB:0≤B)(hK1:1 < K):∃ k T4:Rat,0 < k∧1≤T4*k∧∀ x y,ab x≤B→ab y≤B→∃ r,ab r≤T4∧ev (C9 F (pd F) 0) y - ev (C9 F (pd F) 0) x=(y - x)*(k*ev (C9 F (pd F) 1) x+(y - x)*r):=by
 obtain⟨c0,hc0,e0⟩:=Po h.z h.f h.n;obtain⟨R,hR0,hR⟩:=ZO h.f hB;have e00:C9 F (pd F) 0=rd F:=rfl;have e01:C9 F (pd F) 1=rd (pd F):=rfl;have n1:pd F≠pz:=fun q=>h.ne hK1 (by rw[e01,q,Xm]);obtain⟨c1,hc1,e1⟩:=Po (EM h.z) (BS h.f) n1;obtain⟨hp1,i1⟩:=I9 hc1;have hk:0 < c0*(1 / c1):=Rat.mul_pos hc0 hp1;obtain⟨hp2,i2⟩:=I9 hk;have hcR:=Rat.mul_nonneg (Std.le_of_lt hc0) hR0;obtain⟨k,hkd⟩:∃ k,k=c0*(1 / c1):=⟨_,rfl⟩
 rw[←hkd]at hk hp2 i2;refine⟨k,1 / k+c0*R,hk,?_,fun x y hx hy=>?_⟩
 ·rw[Rat.add_mul,i2]
  exact Eh (Std.le_refl _) (Rat.mul_nonneg hcR (Std.le_of_lt hk))
 ·obtain⟨r,hr,e⟩:=hR x y hx hy
  refine⟨c0*r,?_,?_⟩
  ·rw[Cf,Dw (Std.le_of_lt hc0)]
   exact Dk (Rat.mul_le_mul_of_nonneg_left hr (Std.le_of_lt hc0)) (Std.le_of_lt hp2)
  ·rw[e00,e01,e0,e1,G8 _ h.f,G8 _ h.f,G8 _ (BS h.f)]
   obtain⟨P,hP⟩:∃ P,P=ev (pd F) x:=⟨_,rfl⟩
   rw[←hP]at e ⊢;have e6:c0*ev F y - c0*ev F x=c0*(ev F y - ev F x):=by rw[Rat.sub_eq_add_neg,Rat.sub_eq_add_neg,Rat.mul_add,Rat.mul_neg]
   rw[e6,e,hkd];clear hR hr e hx hy hcR h hk hp2 i2 e6;have e7:c0*(1 / c1)*(c1*P)=c0*P*(1 / c1*c1):=by grind
   rw[e7,i1];grind
theorem Ej.cells(h:Ej F K){B:Rat}(hB:0≤B):∃ T,1≤T∧∀ x y,ab x≤B→ab y≤B→x < y→4*(T*(T*(T*(T*(y - x))))) < 1→Kb (K - 1) (fun i=>ev (C9 F (pd F) i) x) (fun i=>ev (C9 F (pd F) i) y) T (y - x):=by
 have hK:=h.k.1;obtain⟨T1,t1,h1⟩:=h.lipT hB;obtain⟨T2,t2,h2⟩:=h.bezT hB;obtain⟨T3,t3,h3⟩:=h.recT hB;obtain⟨k,T4,h4⟩:∃ k T4:Rat,1 < K→0 < k∧1≤T4*k∧∀ x y,ab x≤B→ab y≤B→∃ r,ab r≤T4∧ev (C9 F (pd F) 0) y - ev (C9 F (pd F) 0) x=(y - x)*(k*ev (C9 F (pd F) 1) x+(y - x)*r):=by
  by_cases hK1:1 < K
  ·obtain⟨k,T4,q⟩:=h.topT hB hK1;exact⟨k,T4,fun _=>q⟩
  ·exact⟨0,0,fun q=>absurd q hK1⟩
 obtain⟨l1,l2,l3,l4,l5⟩:=Yi (d:=T4) t1 t2 t3;obtain⟨T,hT⟩:∃ T,T=T1+T2+T3+ab T4:=⟨_,rfl⟩
 rw[←hT]at l1 l2 l3 l4 l5;refine⟨T,l5,fun x y hx hy hxy hsm=>?_⟩;have hlast:=h.last;have hcl:∀ z,ev (C9 F (pd F) (K - 1)) z=C9 F (pd F) (K - 1) 0:=fun z=>by
  unfold ev;rw[hlast,DD];show _+z*0=_;rw[Rat.mul_zero,Rat.add_zero]
 have hd0:0 < y - x:=by clear hsm h1 h2 h3 h4 hcl;grind
 have hdxy:ab (x - y)=y - x:=by
  clear hsm h1 h2 h3 h4 hcl;unfold ab;rw[if_pos Aj];grind
 have hfin:∀ i,i < K→Af (C9 F (pd F) i):=fun i hi=>h.fin hi;have hne:=Dc (hfin (K - 1) Aa) (h.ne (show K - 1 < K by omega));have hbz:∀ z,ab z≤B→∀ i,i+1 < K→∃ U W,U*ev (C9 F (pd F) i) z+W*ev (C9 F (pd F) (i+1)) z=1∧ab U≤T∧ab W≤T:=fun z hz i hi=>by
  obtain⟨U,W,c1,c2,c3,c4⟩:=h2 i Aa;refine⟨ev U z,ev W z,?_,Std.le_trans (c4 z hz).1 l2,Std.le_trans (c4 z hz).2 l2⟩;rw[←FT c1 (hfin i Aa),←FT c2 (hfin (i+1) hi),←Jq (c1.cv (hfin i Aa)) (c2.cv (hfin (i+1) hi)),c3,OX]
 have hrc:∀ z,ab z≤B→∀ i,i+2 < K→∃ q c,ev (C9 F (pd F) i) z=q*ev (C9 F (pd F) (i+1)) z - c*ev (C9 F (pd F) (i+2)) z∧ab q≤T∧0 < c∧1≤T*c:=fun z hz i hi=>by
  obtain⟨q,c,c1,c2,c3,c4,c5⟩:=h3 i Aa hi;exact⟨ev q z,c,c3 z,Std.le_trans (c4 z hz) l3,c2,Qn c5 (Std.le_of_lt c2) l3⟩
 refine⟨l5,hd0,hsm,fun i hi=>?_,fun i hi=>hbz x hx i Aa,fun i hi=>hbz y hy i Aa,fun i hi=>hrc x hx i Aa,fun i hi=>hrc y hy i Aa,⟨by rw[hcl,hcl],?_⟩,fun hm=>?_⟩
 ·have:=h1 i Aa x y hx hy
  rw[hdxy]at this;exact Qn this (Std.le_of_lt hd0) l1
 ·show ev (C9 F (pd F) (K - 1)) x≠0
  rw[hcl];unfold ld at hne;rw[hlast]at hne;exact hne
 ·obtain⟨g1,g2,g3⟩:=h4 Aa
  obtain⟨r,hr,e⟩:=g3 x y hx hy;exact⟨k,r,e,g1,Qn g2 (Std.le_of_lt g1) l4,Std.le_trans hr l4⟩
theorem Rb{T:Rat}(hT:1≤T):∃ δ:Rat,0 < δ∧∀ d,d≤δ→4*(T*(T*(T*(T*d)))) < 1:=by
 have hT0:0 < T:=by grind
 have p2:=Rat.mul_pos hT0 hT0;have p3:=Rat.mul_pos hT0 p2;have p4:=Rat.mul_pos hT0 p3;obtain⟨P,hP⟩:∃ P,P=T*(T*(T*T)):=⟨_,rfl⟩
 rw[←hP]at p4;obtain⟨hδ,hi⟩:=I9 (show 0 < 8*P by grind);refine⟨1 / (8*P),hδ,fun d hd=>?_⟩;have e:T*(T*(T*(T*d)))=P*d:=by rw[hP];grind
 rw[e];have h1:=Rat.mul_le_mul_of_nonneg_left hd (show 0≤P by grind);obtain⟨X,hX⟩:∃ X,X=1 / (8*P):=⟨_,rfl⟩
 rw[←hX]at h1 hi;have h2:X*(8*P)=8*(P*X):=by grind
 rw[h2]at hi;clear h2 hX e hP p2 p3 hδ;grind
theorem Ej.local_(h:Ej F K){B:Rat}(hB:0≤B):∃ δ:Rat,0 < δ∧∀ x y,ab x≤B→ab y≤B→x < y→y - x≤δ→vx F K x=vx F K y+Ie F x y:=by
 obtain⟨T,hT,hc⟩:=h.cells hB;obtain⟨δ,hδ,hs⟩:=Rb hT;refine⟨δ,hδ,fun x y hx hy hxy hd=>?_⟩;have hs:=(hc x y hx hy hxy (hs _ hd)).sturm;have hK:=h.k.1;rw[show K - 1+1=K by omega]at hs;obtain⟨c0,hc0,e0⟩:=Po h.z h.f h.n;have e00:∀ z,ev (C9 F (pd F) 0) z=c0*ev F z:=fun z=>by
  show ev (rd F) z=_;rw[e0,G8 _ h.f]
 have e2:(if BA (ev (C9 F (pd F) 0) x)≠0∧BA (ev (C9 F (pd F) 0) y)≠BA (ev (C9 F (pd F) 0) x)then 1 else 0)=Ie F x y:=by
  rw[e00,e00,FO hc0,FO hc0];unfold Ie;have hz:BA (ev F x)≠0↔ev F x≠0:=by rw[Ne,Du]
  by_cases c:ev F x≠0∧BA (ev F y)≠BA (ev F x)
  ·rw[if_pos ⟨hz.2 c.1,c.2⟩,if_pos c]
  ·rw[if_neg (fun q=>c ⟨hz.1 q.1,q.2⟩),if_neg c]
 rw[e2]at hs;exact hs
end
theorem gK(q:Rat):∃ n:Nat,0 < n∧q≤(n:Rat):=by
 refine⟨q.num.natAbs+1,Aa,?_⟩;have h1:(0:Rat)≤((q.num.natAbs:Nat):Rat):=by exact_mod_cast Nat.zero_le _
 have h2:(((q.num.natAbs+1:Nat)):Rat)=((q.num.natAbs:Nat):Rat)+1:=by push_cast;rfl
 rw[h2];rcases Std.lt_trichotomy 0 q with a | a | a
 ·have hd:(1:Rat)≤((q.den:Nat):Rat):=by
   have:=q.den_pos;exact_mod_cast this
  have e:q*((q.den:Nat):Rat)=((q.num:Int):Rat):=by
   have h3:=JF q;have hd0:((q.den:Nat):Rat)≠0:=Jg q.den_pos
   conv=>lhs;rw[h3]
   grind
  have h4:q*1≤q*((q.den:Nat):Rat):=Rat.mul_le_mul_of_nonneg_left hd (Std.le_of_lt a);have h5:((q.num:Int):Rat)≤((q.num.natAbs:Nat):Rat):=by
   have h6:q.num≤((q.num.natAbs:Nat):Int):=by omega
   have h7:((q.num:Int):Rat)≤((((q.num.natAbs:Nat):Int)):Rat):=by exact_mod_cast h6
   exact h7
  grind
 ·rw[←a];grind
 ·grind
theorem Ez{a b z B:Rat}(ha:ab a≤B)(hb:ab b≤B)(h1:a≤z)(h2:z≤b):ab z≤B:=by
 rw[Ij]at *;exact⟨Std.le_trans ha.1 h1,Std.le_trans h2 hb.2⟩
noncomputable def Ue(F:Nat→Rat)(a s:Rat):Nat→Nat
 | 0=>0
 | n+1=>Ue F a s n+Ie F (a+((n:Nat):Rat)*s) (a+((n+1:Nat):Rat)*s)
section
variable{F:Nat→Rat}{K:Nat}
theorem CF(n:Nat):((n+1:Nat):Rat)=((n:Nat):Rat)+1:=by push_cast;rfl
theorem Ea(n:Nat):(0:Rat)≤((n:Nat):Rat):=by exact_mod_cast Nat.zero_le n
theorem XY{V:Rat→Nat}{B δ:Rat}(hl:∀ x y,ab x≤B→ab y≤B→x < y→y - x≤δ→V x=V y+Ie F x y){a s:Rat}(hs:0 < s)(hsδ:s≤δ):∀ n,(∀ j,j≤n→ab (a+((j:Nat):Rat)*s)≤B)→V a=V (a+((n:Nat):Rat)*s)+Ue F a s n
 | 0,_=>by
  have e:a+((0:Nat):Rat)*s=a:=by show a+0*s=a;rw[Rat.zero_mul,Rat.add_zero]
  rw[e];rfl
 | n+1,hj=>by
  have h1:=XY hl hs hsδ n fun j h=>hj j Aa;have e:a+((n+1:Nat):Rat)*s=a+((n:Nat):Rat)*s+s:=by rw[CF];grind
  have h2:=hl (a+((n:Nat):Rat)*s) (a+((n+1:Nat):Rat)*s) (hj n Aa) (hj (n+1) (Nat.le_refl _)) (by rw[e];grind) (by rw[e];grind);rw[h1,h2];show _=_+(Ue F a s n+Ie F _ _);omega
theorem cut{a b δ:Rat}(hab:a < b)(hδ:0 < δ):∃ n s,0 < n∧0 < s∧s≤δ∧a+((n:Nat):Rat)*s=b∧∀ j,j≤n→a≤a+((j:Nat):Rat)*s∧a+((j:Nat):Rat)*s≤b:=by
 obtain⟨hi,ei⟩:=I9 hδ;obtain⟨n,hn,hq⟩:=gK ((b - a)*(1 / δ));have hn0:(0:Rat) < ((n:Nat):Rat):=by exact_mod_cast hn
 obtain⟨hm,em⟩:=I9 hn0;have hba:0 < b - a:=by grind
 obtain⟨s,hs⟩:∃ s,s=(b - a)*(1 / ((n:Nat):Rat)):=⟨_,rfl⟩
 have hs0:0 < s:=by rw[hs];exact Rat.mul_pos hba hm
 have ens:((n:Nat):Rat)*s=b - a:=by rw[hs];grind
 refine⟨n,s,hn,hs0,?_,by rw[ens];grind,fun j hj=>?_⟩
 ·-- b - a≤n δ
  have h1:=Rat.mul_le_mul_of_nonneg_right hq (show 0≤δ by grind);have e1:(b - a)*(1 / δ)*δ=b - a:=by grind
  rw[e1,←ens]at h1;rcases Std.lt_trichotomy s δ with c | c | c
  ·exact Std.le_of_lt c
  ·rw[c];exact Std.le_refl _
  ·exfalso
   have:=Rat.mul_lt_mul_of_pos_left c hn0;grind
 ·have h0:=Rat.mul_nonneg (Ea j) (Std.le_of_lt hs0)
  have hjn:((j:Nat):Rat)≤((n:Nat):Rat):=by exact_mod_cast hj
  have h1:=Rat.mul_le_mul_of_nonneg_right hjn (Std.le_of_lt hs0);rw[ens]at h1;refine⟨Aj,Aj⟩
theorem Ej.sums(h:Ej F K){a b:Rat}(hab:a < b){ε:Rat}(hε:0 < ε):∃ n s,0 < n∧0 < s∧s≤ε∧a+((n:Nat):Rat)*s=b∧(∀ j,j≤n→a≤a+((j:Nat):Rat)*s∧a+((j:Nat):Rat)*s≤b)∧vx F K a=vx F K b+Ue F a s n:=by
 have hB:0≤ab a+ab b:=by have:=Ak a;have:=Ak b;grind
 obtain⟨δ,hδ,hl⟩:=h.local_ hB;have hm:∃ μ:Rat,0 < μ∧μ≤δ∧μ≤ε:=by
  rcases Std.lt_trichotomy δ ε with c | c | c
  ·exact⟨δ,hδ,Std.le_refl _,Std.le_of_lt c⟩
  ·exact⟨δ,hδ,Std.le_refl _,by rw[c];exact Std.le_refl _⟩
  ·exact⟨ε,hε,Std.le_of_lt c,Std.le_refl _⟩
 obtain⟨μ,hμ,h1,h2⟩:=hm;obtain⟨n,s,hn,hs,hsμ,e,hj⟩:=cut hab hμ;refine⟨n,s,hn,hs,Std.le_trans hsμ h2,e,hj,?_⟩;have:=XY hl hs (Std.le_trans hsμ h1) n fun j hjn=>Ez (Eh (Std.le_refl _) (Ak b)) (Dk (Std.le_refl _) (Ak a)) (hj j hjn).1 (hj j hjn).2;rw[e]at this;exact this
theorem Ej.mono(h:Ej F K){a b:Rat}(hab:a≤b):vx F K b≤vx F K a:=by
 rcases Std.lt_trichotomy a b with c | c | c
 ·obtain⟨n,s,-,-,-,-,-,e⟩:=h.sums c (ε:=1) Ab
  omega
 ·rw[c];exact Nat.le_refl _
 ·exfalso;grind
theorem NB{a s:Rat}:∀ n,(∀ j,j < n→Ie F (a+((j:Nat):Rat)*s) (a+((j+1:Nat):Rat)*s)=0)→Ue F a s n=0
 | 0,_=>rfl
 | n+1,hj=>by
  show Ue F a s n+Ie F _ _=0;rw[NB n fun j h=>hj j Aa,hj n Aa]
theorem Ej.flat(h:Ej F K){a b ε:Rat}(hab:a≤b)(hε:0 < ε)(hf:∀ z,a≤z→z≤b→ε≤ab (ev F z)):vx F K a=vx F K b:=by
 rcases Std.lt_trichotomy a b with c | c | c
 ·have hB:0≤ab a+ab b:=by have:=Ak a;have:=Ak b;grind
  obtain⟨L,hL0,hL⟩:=Pm h.f hB;obtain⟨hi,ei⟩:=I9 (show 0 < L+1 by grind);have hμ:0 < ε*(1 / (L+1))*(1 / 2):=Rat.mul_pos (Rat.mul_pos hε hi) Aj;obtain⟨n,s,hn,hs,hsμ,e,hj,hv⟩:=h.sums c hμ;have hLs:L*s < ε:=by
   have h1:=Rat.mul_le_mul_of_nonneg_left hsμ (show 0≤L+1 by grind);have e1:(L+1)*(ε*(1 / (L+1))*(1 / 2))=ε*(1 / 2):=by grind
   rw[e1]at h1;grind
  have hz:=NB (F:=F) (a:=a) (s:=s) n fun j hjn=>by
   unfold Ie;refine if_neg fun q=>?_;obtain⟨x1,x2⟩:=hj j Aa;obtain⟨y1,y2⟩:=hj (j+1) Aa;have bx:=Ez (Eh (Std.le_refl (ab a)) (Ak b)) (Dk (Std.le_refl _) (Ak a)) x1 x2;have by_:=Ez (Eh (Std.le_refl (ab a)) (Ak b)) (Dk (Std.le_refl _) (Ak a)) y1 y2;have hl:=hL _ _ bx by_;have ed:ab (a+((j:Nat):Rat)*s - (a+((j+1:Nat):Rat)*s))=s:=by
    have:a+((j:Nat):Rat)*s - (a+((j+1:Nat):Rat)*s) = - s:=by rw[CF];grind
    rw[this,GZ,Dw (Std.le_of_lt hs)]
   rw[ed]at hl;have:=(FQ hl (fun t=>q.2 t.1.symm)).1;have h3:=hf _ x1 x2;grind
  rw[hz]at hv;exact hv
 ·rw[c]
 ·exfalso;grind
theorem ZQ{f:Nat→Rat}(hf:Af f)(h0:f≠pz){B z:Rat}(hB:1≤B)(hc:∀ i,i < pl f - 1→ab (f i)≤ab (ld f)*(B - 1))(hz:B≤ab z):ab (ld f)≤ab (ev f z):=by
 have hp:=AY hf h0;have hl:=Ak (ld f);have key:∀ k,k < pl f→ab (ld f)≤ab (hor f z (pl f) (pl f - 1 - k)):=by
  intro k;induction k with
  | zero =>
   intro _;have e:=M4 f z (show pl f - 1 < pl f by omega);rw[show pl f - 1+1=pl f by omega,Tg,Rat.zero_mul,Rat.zero_add]at e;rw[Nat.sub_zero,e];exact Std.le_refl _
  | succ k ih =>
   intro hk;have h1:=ih Aa;have e:=M4 f z (show pl f - 1 - (k+1) < pl f by omega);rw[show pl f - 1 - (k+1)+1=pl f - 1 - k by omega]at e;have h2:=hc (pl f - 1 - (k+1)) Aa;have h3:ab (ld f)*ab z≤ab (hor f z (pl f) (pl f - 1 - k)*z):=by rw[Cf];exact Rat.mul_le_mul_of_nonneg_right h1 (Ak _)
   have h4:ab (hor f z (pl f) (pl f - 1 - k)*z)≤ab (hor f z (pl f) (pl f - 1 - (k+1)))+ab (f (pl f - 1 - (k+1))):=by
    have:=WZ (hor f z (pl f) (pl f - 1 - (k+1))) (f (pl f - 1 - (k+1)));have e2:hor f z (pl f) (pl f - 1 - (k+1)) - f (pl f - 1 - (k+1))=hor f z (pl f) (pl f - 1 - k)*z:=by rw[e];grind
    rw[e2]at this;exact this
   have h5:ab (ld f)*B≤ab (ld f)*ab z:=Rat.mul_le_mul_of_nonneg_left hz hl;have h6:ab (ld f)*(B - 1)=ab (ld f)*B - ab (ld f):=by grind
   rw[h6]at h2;clear hc ih e h0 hf;grind
 have:=key (pl f - 1) Aa;rw[show pl f - 1 - (pl f - 1)=0 by omega,QB]at this;exact this
theorem Ej.beyond(h:Ej F K){f q:Nat→Rat}(hf:Af f)(h0:f≠pz)(fq:Af q)(e:f=cv q F){B:Rat}(hB:1≤B)(hc:∀ i,i < pl f - 1→ab (f i)≤ab (ld f)*(B - 1)){a b:Rat}(hab:a≤b)(hout:∀ z,a≤z→z≤b→B≤ab z):vx F K a=vx F K b:=by
 have hBn:0≤ab a+ab b:=by have:=Ak a;have:=Ak b;grind
 obtain⟨M,hM0,hM⟩:=Gm fq hBn;obtain⟨hi,ei⟩:=I9 (show 0 < M+1 by grind);have hl:0 < ab (ld f):=WI.2 (Dc hf h0);refine h.flat hab (Rat.mul_pos hl hi) fun z h1 h2=>?_;have hc1:=ZQ hf h0 hB hc (hout z h1 h2);have hb:=hM z (Ez (Eh (Std.le_refl (ab a)) (Ak b)) (Dk (Std.le_refl _) (Ak a)) h1 h2);rw[e,FT fq h.f,Cf,←e]at hc1;have hz:=Ak (ev F z);have h3:ab (ev q z)*ab (ev F z)≤(M+1)*ab (ev F z):=Rat.mul_le_mul_of_nonneg_right Aj hz
 have h4:=Std.le_trans hc1 h3;have h5:=Rat.mul_le_mul_of_nonneg_right h4 (Std.le_of_lt hi);have e2:(M+1)*ab (ev F z)*(1 / (M+1))=ab (ev F z):=by grind
 rw[e2]at h5;exact h5
end
theorem MJ{P:Rat→Rat→Prop}{a b δ:Rat}(hδ:0 < δ)(hab:a < b)(hc:∀ x y,a≤x→x < y→y≤b→y - x≤δ→P x y)
  (ht:∀ x y z,a≤x→x < y→y < z→z≤b→P x y→P y z→P x z):P a b:=by
 obtain⟨n,s,hn,hs,hsδ,e,hj⟩:=cut hab hδ;have key:∀ k,k < n→P a (a+((k+1:Nat):Rat)*s):=by
  intro k;induction k with
  | zero =>
   intro h;have e1:a+((0+1:Nat):Rat)*s=a+s:=by rw[CF];show a+(0+1)*s=_;grind
   have:=(hj 1 Aa).2;rw[show((1:Nat):Rat)=((0+1:Nat):Rat)from rfl]at this;rw[e1]at this ⊢;exact hc a (a+s) (Std.le_refl _) Aj this Aj
  | succ k ih =>
   intro h;have e1:a+((k+1+1:Nat):Rat)*s=a+((k+1:Nat):Rat)*s+s:=by rw[CF];grind
   have h1:=hj (k+1) Aa;have h2:=hj (k+1+1) Aa;have h3:a < a+((k+1:Nat):Rat)*s:=by
    have:=Rat.mul_nonneg (Ea k) (Std.le_of_lt hs);rw[CF];grind
   refine ht a (a+((k+1:Nat):Rat)*s) _ (Std.le_refl _) h3 (by rw[e1];grind) h2.2 (ih Aa) ?_;exact hc _ _ h1.1 (by rw[e1];grind) h2.2 (by rw[e1];grind)
 have:=key (n - 1) Aa;rw[show n - 1+1=n by omega,e]at this;exact this
noncomputable def rt(F:Nat→Rat)(K:Nat)(p q:Rat):Int:=(vx F K p:Int) - (vx F K q:Int)
section
variable{F:Nat→Rat}{K:Nat}
theorem Ir(F:Nat→Rat)(K:Nat)(p q r:Rat):rt F K p q+rt F K q r=rt F K p r:=by unfold rt;omega
theorem P9(F:Nat→Rat)(K:Nat)(p:Rat):rt F K p p=0:=by unfold rt;omega
theorem Ej.rt_nonneg(h:Ej F K){p q:Rat}(hpq:p≤q):0≤rt F K p q:=by have:=h.mono hpq;unfold rt;omega
theorem Ej.rt_sub(h:Ej F K){p x y q:Rat}(h1:p≤x)(h2:x≤y)(h3:y≤q):rt F K x y≤rt F K p q:=by
 have:=h.rt_nonneg h1;have:=h.rt_nonneg h3;have:=Ir F K p x y;have:=Ir F K p y q;omega
theorem Ej.loc(h:Ej F K)(a b:Rat):∃ δ:Rat,0 < δ∧∀ x y,a≤x→x < y→y≤b→y - x≤δ→rt F K x y=Ie F x y:=by
 have hB:0≤ab a+ab b:=by have:=Ak a;have:=Ak b;grind
 obtain⟨δ,hδ,hl⟩:=h.local_ hB;refine⟨δ,hδ,fun x y h1 h2 h3 h4=>?_⟩;have:=hl x y (Ez (Eh (Std.le_refl (ab a)) (Ak b)) (Dk (Std.le_refl _) (Ak a)) h1 Aj)
  (Ez (Eh (Std.le_refl (ab a)) (Ak b)) (Dk (Std.le_refl _) (Ak a)) Aj h3) h2 h4
 unfold rt;omega
theorem Ik{q:Rat}(h:BA q≠0):q≠0:=fun e=>h (Du.2 e)
theorem OW{q:Rat}(h:q≠0):BA q≠0:=fun e=>h (Du.1 e)
theorem Wz{x y:Rat}(h:(Ie F x y:Int)=0)(hx:ev F x≠0):BA (ev F y)=BA (ev F x):=by
 unfold Ie at h
 split at h
 ·omega
 ·rename_i c
  exact Classical.byContradiction fun e=>c ⟨hx,e⟩
theorem Yt{x y:Rat}(hx:ev F x≠0)(h:BA (ev F y)≠BA (ev F x)):(Ie F x y:Int)=1:=by
 unfold Ie;rw[if_pos ⟨hx,h⟩];rfl
theorem aL(F:Nat→Rat)(x y:Rat):0≤(Ie F x y:Int)∧(Ie F x y:Int)≤1:=by
 unfold Ie;split<;>simp
theorem Ej.sg_const(h:Ej F K){p q:Rat}(hpq:p≤q)(h0:rt F K p q=0)(hp:ev F p≠0):BA (ev F q)=BA (ev F p):=by
 rcases Std.lt_trichotomy p q with c | c | c
 ·obtain⟨δ,hδ,hl⟩:=h.loc p q
  refine MJ (P:=fun x y=>rt F K x y=0→ev F x≠0→BA (ev F y)=BA (ev F x)) hδ c (fun x y a b c d e f=>?_) (fun x y z a b c d e f g k=>?_) h0 hp
  ·rw[hl x y a b c d]at e
   exact Wz e f
  ·have h1:=h.rt_nonneg (Std.le_of_lt b)
   have h2:=h.rt_nonneg (Std.le_of_lt c);have h3:=Ir F K x y z;have e1:=e Aa k;have e2:=f Aa (Ik (by rw[e1];exact OW k));rw[e2,e1]
 ·rw[c]
 ·exfalso;grind
theorem NA(hf:Af F)(h0:F≠pz){p z δ:Rat}(hp:p < z)(hδ:0 < δ):∃ x,p < x∧x < z∧z - x≤δ∧ev F x≠0:=by
 obtain⟨μ,hμ,m1,m2⟩:∃ μ:Rat,0 < μ∧μ≤δ∧μ < z - p:=by
  rcases Std.lt_trichotomy δ (z - p)with c | c | c
  ·exact⟨δ,hδ,Std.le_refl _,c⟩
  ·exact⟨δ / 2,Aj,Aj,Aj⟩
  ·exact⟨(z - p) / 2,Aj,Aj,Aj⟩
 refine Classical.byContradiction fun hn=>?_;have hz:∀ x,z - μ≤x→x < z→ev F x=0:=fun x a b=>Classical.byContradiction fun e=>hn ⟨x,Aj,b,Aj,e⟩;have hpl:=AY hf h0;obtain⟨n,hn'⟩:∃ n,n=pl F:=⟨_,rfl⟩
 have hn0:(0:Rat) < ((n:Nat):Rat):=by rw[hn'];exact_mod_cast hpl
 obtain⟨hi,ei⟩:=I9 hn0;obtain⟨s,hs⟩:∃ s,s=μ*(1 / ((n:Nat):Rat)):=⟨_,rfl⟩
 have hs0:0 < s:=by rw[hs];exact Rat.mul_pos hμ hi
 have ens:((n:Nat):Rat)*s=μ:=by rw[hs];grind
 have hlist:((List.range n).map fun j:Nat=>z - μ+((j:Nat):Rat)*s).Nodup:=by
  rw[List.nodup_iff_pairwise_ne,List.pairwise_map];refine List.Pairwise.imp ?_ List.pairwise_lt_range;intro i j hij e;have hij':((i:Nat):Rat)+1≤((j:Nat):Rat):=by rw[←CF];exact_mod_cast hij
  have:=Rat.mul_le_mul_of_nonneg_right hij' (Std.le_of_lt hs0);grind
 refine h0 (I4 (l:=(List.range n).map fun j:Nat=>z - μ+((j:Nat):Rat)*s) (by rw[List.length_map,List.length_range,hn'];exact AJ hf) hlist ?_);intro x hx;obtain⟨j,hj,rfl⟩:=List.mem_map.1 hx;have hj:=List.mem_range.1 hj;have h1:=Rat.mul_nonneg (Ea j) (Std.le_of_lt hs0);have hij':((j:Nat):Rat)+1≤((n:Nat):Rat):=by rw[←CF];exact_mod_cast hj
 have:=Rat.mul_le_mul_of_nonneg_right hij' (Std.le_of_lt hs0);exact hz _ Aj Aj
theorem Ej.zero_counts(h:Ej F K){p z q:Rat}(h1:p < z)(h2:z≤q)(hz:ev F z=0):1≤rt F K p q:=by
 obtain⟨δ,hδ,hl⟩:=h.loc p z;obtain⟨x,a,b,c,d⟩:=NA h.f h.n h1 hδ;have e1:=hl x z (Std.le_of_lt a) b (Std.le_refl _) c;rw[Yt d (by rw[hz,Du.2 rfl];exact fun e=>OW d e.symm)]at e1;have:=h.rt_sub (Std.le_of_lt a) (Std.le_of_lt b) h2;omega
theorem Ej.change_counts(h:Ej F K){p q:Rat}(hpq:p≤q)(hp:ev F p≠0)(hc:BA (ev F q)≠BA (ev F p)):1≤rt F K p q:=by
 have h1:=h.rt_nonneg hpq;rcases Int.lt_or_le 0 (rt F K p q)with a | a
 ·exact a
 ·exact absurd (h.sg_const hpq Aa hp) hc
theorem Ej.free(h:Ej F K){p q x y:Rat}(h0:rt F K p q=0)(h1:p < x)(h2:x≤y)(h3:y≤q):ev F x≠0∧BA (ev F y)=BA (ev F x):=by
 have hx:ev F x≠0:=fun e=>by
  have:=h.zero_counts h1 (Std.le_trans h2 h3) e;omega
 have:=h.rt_sub (Std.le_of_lt h1) h2 h3;have:=h.rt_nonneg h2;exact⟨hx,h.sg_const h2 Aa hx⟩
end
theorem LG(p q:Rat):BA (p*q)=BA p*BA q:=by
 rcases Std.lt_trichotomy p 0 with a | a | a
 ·rcases Std.lt_trichotomy q 0 with b | b | b
  ·have:=PN a b
   unfold BA;rw[if_pos this,if_neg Aj,if_pos a,if_neg Aj,if_pos b];rfl
  ·rw[b,Rat.mul_zero,show BA 0=0 from Du.2 rfl];simp
  ·have:=JJ b a
   rw[Rat.mul_comm]at this;unfold BA;rw[if_neg Aj,if_pos this,if_neg Aj,if_pos a,if_pos b];rfl
 ·rw[a,Rat.zero_mul,show BA 0=0 from Du.2 rfl];simp
 ·rw[FO a]
  unfold BA;rw[if_pos a];simp
theorem DU.cell{A B:Nat→Rat}(fA:Af A)(fB:Af B)(c:DU A B)(a b:Rat):∃ δ:Rat,0 < δ∧∀ x y,a≤x→x < y→y≤b→y - x≤δ →
  (BA (ev A y)=BA (ev A x)∧ev A x≠0)∨(BA (ev B y)=BA (ev B x)∧ev B x≠0):=by
 obtain⟨U,W,fU,fW,e⟩:=c;have hB:0≤ab a+ab b:=by have:=Ak a;have:=Ak b;grind
 obtain⟨M,hM0,hM⟩:=Gm fU hB;obtain⟨N,hN0,hN⟩:=Gm fW hB;obtain⟨L,hL0,hL⟩:=Pm fA hB;obtain⟨R,hR0,hR⟩:=Pm fB hB;obtain⟨T,hT⟩:∃ T,T=M*L+N*R+1:=⟨_,rfl⟩
 have hML:=Rat.mul_nonneg hM0 hL0;have hNR:=Rat.mul_nonneg hN0 hR0;obtain⟨hi,ei⟩:=I9 (show 0 < T by grind);refine⟨1 / T*(1 / 2),Aj,fun x y h1 h2 h3 h4=>?_⟩;have bx:=Ez (Eh (Std.le_refl (ab a)) (Ak b)) (Dk (Std.le_refl _) (Ak a)) h1 (show x≤b by grind);have by_:=Ez (Eh (Std.le_refl (ab a)) (Ak b)) (Dk (Std.le_refl _) (Ak a)) (show a≤y by grind) h3;have eab:ab (x - y)=y - x:=by rw[show x - y = -(y - x) by grind,GZ,Dw Aj]
 have l1:=hL x y bx by_;have l2:=hR x y bx by_;rw[eab]at l1 l2;by_cases c1:BA (ev A x)=BA (ev A y)∧BA (ev A x)≠0
 ·exact .inl ⟨c1.1.symm,Ik c1.2⟩
 by_cases c2:BA (ev B x)=BA (ev B y)∧BA (ev B x)≠0
 ·exact .inr ⟨c2.1.symm,Ik c2.2⟩
 exfalso;have s1:=(FQ l1 c1).1;have s2:=(FQ l2 c2).1;have e1:ev U x*ev A x+ev W x*ev B x=1:=by
  rw[←FT fU fA,←FT fW fB,←Jq (fU.cv fA) (fW.cv fB),e];have:ev pone x=CK 1 pone x:=EU Eg x;rw[this];show pone 0+x*0=1;show(1:Rat)+x*0=1;grind
 have h5:ab (ev U x*ev A x)≤M*(L*(y - x)):=by rw[Cf];exact Ey (hM x bx) s1 (Ak _) hM0
 have h6:ab (ev W x*ev B x)≤N*(R*(y - x)):=by rw[Cf];exact Ey (hN x bx) s2 (Ak _) hN0
 have h7:=FH (ev U x*ev A x) (ev W x*ev B x);rw[e1,show ab 1=1 from by decide]at h7;have h8:=Rat.mul_le_mul_of_nonneg_left h4 (show 0≤T by grind);have e8:T*(1 / T*(1 / 2))=1 / 2:=by grind
 rw[e8]at h8;have e9:M*(L*(y - x))+N*(R*(y - x))=T*(y - x) - (y - x):=by rw[hT];grind
 grind
theorem Ej.rt_mul{A B:Nat→Rat}{K L M:Nat}(hA:Ej A K)(hB:Ej B L)(hC:Ej (cv A B) M)(c:DU A B){p q:Rat}(hpq:p≤q):rt (cv A B) M p q=rt A K p q+rt B L p q:=by
 rcases Std.lt_trichotomy p q with hlt | heq | hgt
 ·obtain⟨d1,g1,l1⟩:=hA.loc p q
  obtain⟨d2,g2,l2⟩:=hB.loc p q;obtain⟨d3,g3,l3⟩:=hC.loc p q;obtain⟨d4,g4,l4⟩:=c.cell hA.f hB.f p q;obtain⟨d,hd,q1,q2,q3,q4⟩:∃ d:Rat,0 < d∧d≤d1∧d≤d2∧d≤d3∧d≤d4:=by
   have two:∀ u v:Rat,0 < u→0 < v→∃ w,0 < w∧w≤u∧w≤v:=fun u v hu hv=>by
    rcases Std.lt_trichotomy u v with c | c | c
    ·exact⟨u,hu,Std.le_refl _,Std.le_of_lt c⟩
    ·exact⟨u,hu,Std.le_refl _,Aj⟩
    ·exact⟨v,hv,Std.le_of_lt c,Std.le_refl _⟩
   obtain⟨u,hu,u1,u2⟩:=two d1 d2 g1 g2;obtain⟨v,hv,v1,v2⟩:=two d3 d4 g3 g4;obtain⟨w,hw,w1,w2⟩:=two u v hu hv;exact⟨w,hw,Aj,Aj,Aj,Aj⟩
  refine MJ (P:=fun x y=>rt (cv A B) M x y=rt A K x y+rt B L x y) hd hlt (fun x y a1 a2 a3 a4=>?_) (fun x y z a1 a2 a3 a4 e f=>?_)
  ·rw[l1 x y a1 a2 a3 Aj,l2 x y a1 a2 a3 Aj,l3 x y a1 a2 a3 Aj]
   have e1:=FT hA.f hB.f x;have e2:=FT hA.f hB.f y;rcases l4 x y a1 a2 a3 Aj with⟨s,n⟩ | ⟨s,n⟩
   ·have j1:Ie A x y=0:=by unfold Ie;exact if_neg fun q=>q.2 s
    have j2:Ie (cv A B) x y=Ie B x y:=by
     unfold Ie;rw[e1,e2,LG,LG,s];have hs:=OW n;have:(ev A x*ev B x≠0∧BA (ev A x)*BA (ev B y)≠BA (ev A x)*BA (ev B x))↔(ev B x≠0∧BA (ev B y)≠BA (ev B x)):=by
      refine and_congr ⟨fun h e=>h (by rw[e,Rat.mul_zero]),fun h e=>?_⟩ ⟨fun h e=>h (by rw[e]),fun h e=>h (Int.eq_of_mul_eq_mul_left hs e)⟩;rcases Rat.mul_eq_zero.1 e with k | k
      ·exact n k
      ·exact h k
     simp only[this]
    omega
   ·have j1:Ie B x y=0:=by unfold Ie;exact if_neg fun q=>q.2 s
    have j2:Ie (cv A B) x y=Ie A x y:=by
     unfold Ie;rw[e1,e2,LG,LG,s];have hs:=OW n;have:(ev A x*ev B x≠0∧BA (ev A y)*BA (ev B x)≠BA (ev A x)*BA (ev B x))↔(ev A x≠0∧BA (ev A y)≠BA (ev A x)):=by
      refine and_congr ⟨fun h e=>h (by rw[e,Rat.zero_mul]),fun h e=>?_⟩ ⟨fun h e=>h (by rw[e]),fun h e=>h (Int.eq_of_mul_eq_mul_right hs e)⟩;rcases Rat.mul_eq_zero.1 e with k | k
      ·exact h k
      ·exact n k
     simp only[this]
    omega
  ·have h1:=Ir (cv A B) M x y z;have h2:=Ir A K x y z;have h3:=Ir B L x y z
   omega
 ·rw[heq,P9,P9,P9];rfl
 ·exfalso;grind
def Jh(B:Rat)(F:Nat→Rat):Prop:=∀ i,ab (F i)≤B
theorem CU{a b c:Rat}(h:a≤b)(hc:0≤c):a*c≤b*c:=Rat.mul_le_mul_of_nonneg_right h hc
theorem CJ{a b c:Rat}(h:a≤b)(hc:0≤c):c*a≤c*b:=Rat.mul_le_mul_of_nonneg_left h hc
theorem Jh.lin{F:Nat→Rat}{B R a:Rat}(h:Jh B F)(ha:ab a≤R):Jh (B*(1+R)) (cv F (Hp.lin a)):=by
 intro i;have hB:0≤B:=by have:=h 0;have:=Ak (F 0);grind
 have e:cv F (Hp.lin a)=pad (psc (-a) F) (cs 0 F):=by rw[Bl];unfold Hp.lin;rw[L9,CR]
 have e2:cv F (Hp.lin a) i = -a*F i+cs 0 F i:=by rw[e];rfl
 have h1:ab (cs 0 F i)≤B:=by
  cases i with
  | zero=>show ab 0≤B;rw[show ab 0=0 from by decide];exact hB
  | succ i=>exact h i
 rw[e2];have h2:=FH (-a*F i) (cs 0 F i);have h3:ab (-a*F i)=ab a*ab (F i):=by rw[Cf,GZ]
 have h4:ab a*ab (F i)≤R*B:=by
  have:=CU ha (Ak (F i));have h0:0≤R:=by have:=Ak a;grind
  have:=CJ (h i) h0;grind
 grind
theorem ZP:ab 1=1:=by decide
theorem Dp:ab 0=0:=by decide
theorem Jh.lgp{X:Nat→Rat}{R:Rat}(i:Nat)(h0:0≤R):∀ n,(∀ k,k < n→ab (X k)≤R)→Jh ((1+R)^n) (lgp X i n)
 | 0,_=>fun j=>by
  rw[Rat.pow_zero];show ab (pone j)≤1;unfold pone;cases j with
  | zero=>show ab 1≤1;rw[ZP];grind
  | succ j=>show ab 0≤1;rw[Dp];grind
 | n+1,h=>by
  have ih:=Jh.lgp i h0 n fun k hk=>h k Aa;rw[Fg,Rat.pow_succ]
  split
  ·intro j
   have h1:=ih j;have h2:0≤(1+R)^n:=by have:=ih 0;have:=Ak (Hp.lgp X i n 0);grind
   have h3:(1+R)^n*0≤(1+R)^n*R:=CJ h0 h2;grind
  ·exact ih.lin (h n Aa)
theorem U9{a b:Rat}(h0:0≤a)(h:a≤b):∀ n:Nat,0≤a^n∧a^n≤b^n
 | 0=>by rw[Rat.pow_zero,Rat.pow_zero];exact⟨Ab,Aj⟩
 | n+1=>by
  have ih:=U9 h0 h n;rw[Rat.pow_succ,Rat.pow_succ];have h1:=CU ih.2 h0;have h2:0≤b^n:=by grind
  have h3:=CJ h h2;have h4:=CU ih.1 h0;exact⟨Aj,Aj⟩
theorem Jh.psc{F:Nat→Rat}{B:Rat}(h:Jh B F){a A:Rat}(ha:ab a≤A):Jh (A*B) (psc a F):=fun i=>by
 show ab (a*F i)≤_;rw[Cf];have h1:=CU ha (Ak (F i));have h0:0≤A:=by have:=Ak a;grind
 have h2:=CJ (h i) h0;grind
theorem Jh.pad{F G:Nat→Rat}{A B:Rat}(h:Jh A F)(k:Jh B G):Jh (A+B) (pad F G):=fun i=>by
 show ab (F i+G i)≤_;have:=FH (F i) (G i);have:=h i;have:=k i;grind
theorem P7{F:Nat→Rat}{B R x:Rat}(h:Jh B F)(h0:0≤R)(hx:ab x≤R):∀ n,ab (CK n F x)≤B*(n:Rat)*(1+R)^n
 | 0=>by
  have hB:0≤B:=by have:=h 0;have:=Ak (F 0);grind
  show ab 0≤_;rw[Dp,Rat.pow_zero];show(0:Rat)≤B*0*1;grind
 | n+1=>by
  have hB:0≤B:=by have:=h 0;have:=Ak (F 0);grind
  have ih:=P7 (F:=tl F) (fun i=>h (i+1)) h0 hx n;rw[DD,Rat.pow_succ];have h1:=FH (F 0) (x*CK n (tl F) x);have h2:=h 0;have h3:ab (x*CK n (tl F) x)=ab x*ab (CK n (tl F) x):=Cf _ _;have h4:=CU hx (Ak (CK n (tl F) x));have h5:=CJ ih h0;have hp:=U9 (a:=1) (b:=1+R) Ab Aj n;have hp2:(1:Rat)^n=1:=by
   clear ih h1 h2 h3 h4 h5 hp;induction n with
   | zero=>rfl
   | succ n ih=>rw[Rat.pow_succ,ih];grind
  rw[hp2]at hp;have hn0:(0:Rat)≤(n:Rat):=by exact_mod_cast Nat.zero_le n
  obtain⟨P,hP⟩:∃ P,P=(1+R)^n:=⟨_,rfl⟩
  rw[←hP]at h5 hp ⊢;have hc:(((n+1:Nat):Rat))=(n:Rat)+1:=by push_cast;rfl
  rw[hc];have hBn:0≤B*(n:Rat):=by have:=CJ hn0 hB;grind
  have q1:R*(B*(n:Rat)*P)≤B*(n:Rat)*P*(1+R):=by
   have:0≤B*(n:Rat)*P:=by have:=CJ (show(0:Rat)≤P by grind) hBn;grind
   grind
  have q2:B*1≤B*(P*(1+R)):=CJ (by
   have:=CU hp.2 (show 0≤1+R by grind);grind) hB
  grind
theorem JK(x:Int):ab (x:Rat)=((x.natAbs:Nat):Rat):=by
 unfold ab
 split
 ·rename_i h
  have:x < 0:=by exact_mod_cast h
  have e:((x.natAbs:Nat):Int) = -x:=by omega
  rw[show((x.natAbs:Nat):Rat)=(((x.natAbs:Nat):Int):Rat)from rfl,e];simp
 ·rename_i h
  have:0≤x:=Int.not_lt.1 fun h'=>h (by exact_mod_cast h');have e:((x.natAbs:Nat):Int)=x:=by omega
  rw[show((x.natAbs:Nat):Rat)=(((x.natAbs:Nat):Int):Rat)from rfl,e]
theorem UK{y z Y:Rat}(hy:ab y≤Y)(hz:1≤ab z):ab (y / z)≤Y:=by
 have hne:z≠0:=fun e=>by rw[e,Dp]at hz;exact absurd hz Ab
 have h1:ab (y / z)*ab z=ab y:=by rw[←Cf,show y / z*z=y by grind]
 have h2:=CJ hz (Ak (y / z));grind
theorem ZI.lgp{X:Nat→Rat}(i:Nat):∀ n,(∀ k,k < n→∃ m:Int,X k=(m:Rat))→ZI (lgp X i n)
 | 0,_=>fun j=>by cases j with | zero=>exact⟨1,rfl⟩ | succ j=>exact⟨0,rfl⟩
 | n+1,h=>by
  have ih:=ZI.lgp i n fun k hk=>h k Aa;rw[Fg]
  split
  ·exact ih
  ·obtain⟨m,hm⟩:=h n Aa
   have e:Hp.cv (Hp.lgp X i n) (lin (X n))=Hp.pad (Hp.psc (-X n) (Hp.lgp X i n)) (cs 0 (Hp.lgp X i n)):=by rw[Bl];unfold lin;rw[L9,CR]
   intro j;rw[e];obtain⟨a,ha⟩:=ih j;obtain⟨b,hb⟩:∃ b:Int,cs 0 (Hp.lgp X i n) j=(b:Rat):=by
    cases j with
    | zero=>exact⟨0,rfl⟩
    | succ j=>exact ih j
   refine⟨-m*a+b,?_⟩;show -X n*Hp.lgp X i n j+cs 0 (Hp.lgp X i n) j=_;rw[ha,hb,hm]
   push_cast
   rfl
theorem YZ{F D:Nat→Rat}{n:Nat}{B:Rat}(zF:ZI F)(fF:Af F)(h0:F≠pz)(zD:ZI D)(fD:Af D)(hd:J8 F D)(hn:pl F≤n)(hB:Jh B F) :
  Jh ((n:Rat)*(B*(n:Rat)*(1+2*(n:Rat))^n*(1+2*(n:Rat))^n)) D:=by
 obtain⟨X,hA,hX⟩:=NF fF h0 hn;obtain⟨Q,zQ,fQ,e⟩:=hd;obtain⟨R,hR⟩:∃ R:Rat,R=2*(n:Rat):=⟨_,rfl⟩
 have hR0:0≤R:=by
  have:(0:Rat)≤(n:Rat):=by exact_mod_cast Nat.zero_le n
  grind
 rw[←hR];have hXi:∀ k,k < n→∃ m:Int,X k=(m:Rat):=fun k hk=>by obtain⟨-,m,-,h2⟩:=hX k hk;exact⟨m,h2⟩
 have hXR:∀ k,k < n→ab (X k)≤R:=fun k hk=>by
  obtain⟨-,m,h1,h2⟩:=hX k hk;rw[h2,JK,hR];have:((((m:Nat):Int).natAbs:Nat):Rat)=((m:Nat):Rat):=by simp
  rw[this];have h3:((m:Nat):Rat)≤((2*n:Nat):Rat):=by exact_mod_cast Nat.le_of_lt h1
  have h4:((2*n:Nat):Rat)=2*(n:Rat):=by push_cast;rfl
  grind
 obtain⟨YY,hYY⟩:∃ YY,YY=B*(n:Rat)*(1+R)^n:=⟨_,rfl⟩
 rw[←hYY];have hY:∀ k,k < n→ab (ev D (X k))≤YY:=fun k hk=>by
  obtain⟨h3,m,-,h4⟩:=hX k hk;have h1:=P7 hB hR0 (hXR k hk) n;rw[←EU ((AJ fF).mono hn),←hYY]at h1;have h5:ev F (X k)=ev Q (X k)*ev D (X k):=by rw[e,FT fQ fD]
  rw[h4]at h1 h3 h5 ⊢;obtain⟨a,ha⟩:=LZ zF (m:Int);obtain⟨b,hb⟩:=LZ zQ (m:Int);obtain⟨c,hc⟩:=LZ zD (m:Int);rw[ha]at h1 h3;rw[ha,hb,hc]at h5;rw[hc];have h6:a=b*c:=by exact_mod_cast h5
  have h7:a≠0:=fun e=>h3 (by rw[e];rfl);have h8:c.natAbs≤a.natAbs:=Nat.le_of_dvd Aa (Int.natAbs_dvd_natAbs.2 ⟨b,by rw[h6,Int.mul_comm]⟩);rw[JK]at h1 ⊢;have:((c.natAbs:Nat):Rat)≤((a.natAbs:Nat):Rat):=by exact_mod_cast h8
  grind
 have hDn:D≠pz:=fun e2=>h0 (by rw[e,e2,La]);have hDl:pl D≤pl F:=Dv.le fD fF h0 ⟨Q,fQ,e⟩;obtain⟨Y,hYe⟩:∃ Y,Y=fun k=>ev D (X k):=⟨_,rfl⟩
 have hD:D=Z8 X Y n n:=Ka hA ((AJ fD).mono Aa) (OD X Y n n (Nat.le_refl _)) fun k hk=>by
  rw[VG hA hk n (Nat.le_refl _),if_pos hk,hYe]
 have hc:∀ j,j < n→Jh (YY*(1+R)^n) (aX X Y n j):=fun j hj=>by
  refine(Jh.lgp (R:=R) j hR0 n hXR).psc (UK (by rw[hYe];exact hY j hj) ?_);have h1:=Vy X (i:=j) (n:=n) (x:=X j) fun k hk hne=>hA.ne hj hk hne;obtain⟨m,hm⟩:=hXi j hj;rw[hm]at h1 ⊢;obtain⟨y,hy⟩:=LZ (ZI.lgp j n hXi) m;rw[hy]at h1 ⊢;rw[JK];have:y≠0:=fun e=>h1 (by rw[e];rfl);have h2:1≤y.natAbs:=by omega
  exact_mod_cast h2
 have hl:∀ m,m≤n→Jh ((m:Rat)*(YY*(1+R)^n)) (Z8 X Y n m):=by
  intro m;induction m with
  | zero =>
   intro _ i;show ab 0≤(0:Rat)*_;rw[Dp];grind
  | succ m ih =>
   intro h i;have h1:=((ih Aa).pad (hc m h)) i;have hc:(((m+1:Nat):Rat))=(m:Rat)+1:=by push_cast;rfl
   rw[hc];show ab (Hp.pad (Z8 X Y n m) (aX X Y n m) i)≤_;grind
 rw[hD];exact hl n (Nat.le_refl _)
noncomputable def En(F:Nat→Rat):Nat→Rat
 | 0=>0
 | k+1=>if En F k < ab (F k / ld F)then ab (F k / ld F)else En F k
theorem GJ(F:Nat→Rat):∀ k,0≤En F k
 | 0=>by show(0:Rat)≤0;decide
 | k+1=>by
  rw[En]
  split
  ·exact Ak _
  ·exact GJ F k
theorem KX(q:Rat):qsz (ab q)=qsz q:=by
 unfold ab
 split
 ·exact FW q
 ·rfl
theorem IM{F:Nat→Rat}{s:Nat}(h:∀ i,qsz (F i)≤s)(hs:1≤s):∀ k,qsz (En F k)≤2*s
 | 0=>by show qsz 0≤_;rw[II];omega
 | k+1=>by
  rw[En]
  split
  ·rw[KX]
   have h1:=F8 (F k) (ld F);have h2:=h k;have h3:qsz (ld F)≤s:=h _;omega
  ·exact IM h hs k
def P2(r:Rat)(j:Nat):Prop:=r < 2^j∧∀ i,i < j→(2:Rat)^i≤r
theorem P2.uniq{r:Rat}{i j:Nat}(h:P2 r i)(k:P2 r j):i=j:=by
 rcases Nat.lt_trichotomy i j with a | a | a
 ·have:=k.2 i a;have:=h.1;grind
 ·exact a
 ·have:=h.2 j a;have:=k.1;grind
theorem Bt(n:Nat):((2:Rat)^n)=((2^n:Nat):Rat):=by
 induction n with
 | zero=>rfl
 | succ n ih=>rw[Rat.pow_succ,ih,Nat.pow_succ];push_cast;rfl
theorem P2.ex{r:Rat}{N:Nat}(h:r≤(N:Rat)):∃ j,P2 r j∧j≤N:=by
 have hN:r < 2^N:=by
  have h1:N < 2^N:=Nat.lt_two_pow_self;have h2:(N:Rat) < ((2^N:Nat):Rat):=by exact_mod_cast h1
  rw[Bt];grind
 have key:∀ n,r < 2^n→∃ j,P2 r j∧j≤n:=by
  intro n;induction n with
  | zero=>intro h;exact⟨0,⟨h,fun i hi=>Aa⟩,Nat.le_refl _⟩
  | succ n ih =>
   intro hn;by_cases h1:r < 2^n
   ·obtain⟨j,a,b⟩:=ih h1
    exact⟨j,a,Aa⟩
   ·refine⟨n+1,⟨hn,fun i hi=>?_⟩,Nat.le_refl _⟩
    have h3:(2:Nat)^i≤2^n:=Nat.pow_le_pow_right Ab Aa;have h4:((2^i:Nat):Rat)≤((2^n:Nat):Rat):=by exact_mod_cast h3
    rw[←Bt,←Bt]at h4;grind
 exact key N hN
theorem LB{m n:Nat}(h:m≤n):((m:Nat):Rat)≤((n:Nat):Rat):=by exact_mod_cast h
theorem Ce(n:Nat):(0:Rat) < 2^n:=by rw[Bt];exact_mod_cast Nat.two_pow_pos n
theorem Om(n:Nat):(1:Rat)≤2^n:=by rw[Bt];exact_mod_cast Nat.one_le_two_pow
theorem Mk{m n:Nat}(h:m≤n):(2:Rat)^m≤2^n:=by rw[Bt,Bt];exact_mod_cast Nat.pow_le_pow_right Ab h
theorem DF(m n:Nat):(2:Rat)^(m+n)=2^m*2^n:=by rw[Bt,Bt,Bt,Nat.pow_add];push_cast;rfl
theorem NJ(n:Nat):((n:Nat):Rat)≤2^n:=by rw[Bt];exact_mod_cast Nat.le_of_lt Nat.lt_two_pow_self
theorem SE{a b c d:Rat}(h1:a≤b)(h2:c≤d)(hc:0≤c)(hb:0≤b):a*c≤b*d:=Ey h1 h2 hc hb
theorem Mf{q:Rat}{s:Nat}(h:qsz q≤s):ab q≤2^(32*s)∧(q≠0→1≤ab q*2^(32*s)):=by
 have hn:q.num.natAbs≤2^(32*s):=by
  have:=Ew.1 (Nat.le_trans (GN q) h);rw[Cm]at this;omega
 have hd:q.den≤2^(32*s):=by
  have:=Ew.1 (Nat.le_trans (EX q) h);rw[Cm,Int.natAbs_natCast]at this;omega
 have hd0:(0:Rat) < ((q.den:Nat):Rat):=by exact_mod_cast q.den_pos
 have hd1:(1:Rat)≤((q.den:Nat):Rat):=by exact_mod_cast q.den_pos
 have e:q*((q.den:Nat):Rat)=(q.num:Rat):=by
  have:=JF q;have h0:((q.den:Nat):Rat)≠0:=by grind
  grind
 have e2:ab q*((q.den:Nat):Rat)=((q.num.natAbs:Nat):Rat):=by
  rw[←JK,←e,Cf,Dw (Std.le_of_lt hd0)]
 have hq:=Ak q;rw[Bt];constructor
 ·have h1:((q.num.natAbs:Nat):Rat)≤((2^(32*s):Nat):Rat):=LB hn
  have h2:=SE (Std.le_refl (ab q)) hd1 Ab hq;grind
 ·intro hq0
  have h1:(1:Rat)≤((q.num.natAbs:Nat):Rat):=by
   have:1≤q.num.natAbs:=by
    have:q.num≠0:=fun e=>hq0 (Rat.num_eq_zero.1 e);omega
   exact_mod_cast this
  have h2:=SE (Std.le_refl (ab q)) (LB hd) (Std.le_of_lt hd0) hq;grind
theorem aK{F:Nat→Rat}(z:ZI F){i:Nat}(h:F i≠0):1≤ab (F i):=by
 obtain⟨m,hm⟩:=z i;rw[hm,JK];have:m≠0:=fun e=>h (by rw[hm,e];rfl);have:1≤m.natAbs:=by omega
 exact_mod_cast this
theorem Y9{F:Nat→Rat}(h:F≠pz):∃ i,F i≠0:=Classical.byContradiction fun e=>h (funext fun i=>Classical.byContradiction fun k=>e ⟨i,k⟩)
theorem KS(m:Nat):∀ n:Nat,((m:Nat):Rat)^n=((m^n:Nat):Rat)
 | 0=>rfl
 | n+1=>by rw[Rat.pow_succ,KS m n,Nat.pow_succ];push_cast;rfl
theorem Rv{F:Nat→Rat}{a b n:Nat}(h:Jh (2^a) F){x:Rat}(hx:ab x≤2^b - 1):ab (CK n F x)≤2^(a+n+b*n):=by
 have h1:=P7 h (show(0:Rat)≤2^b - 1 by have:=Om b;grind) hx n;have e:(1:Rat)+(2^b - 1)=2^b:=by grind
 have e2:((2:Rat)^b)^n=2^(b*n):=by
  rw[Bt,Bt,Nat.pow_mul];exact KS (2^b) n
 rw[e,e2]at h1;rw[DF,DF];have h2:=SE (SE (Std.le_refl ((2:Rat)^a)) (NJ n) (Ea n) (Std.le_of_lt (Ce a))) (Std.le_refl ((2:Rat)^(b*n))) (Std.le_of_lt (Ce _)) (Rat.mul_nonneg (Std.le_of_lt (Ce a)) (Std.le_of_lt (Ce n)));exact Std.le_trans h1 h2
theorem Jh.tl{F:Nat→Rat}{B:Rat}(h:Jh B F):Jh B (Hp.tl F):=fun i=>h (i+1)
theorem QX{a b:Nat}{x y:Rat}(hx:ab x≤2^b - 1)(hy:ab y≤2^b - 1):∀(n:Nat) (F:Nat→Rat),Jh (2^a) F→ab (CK n F x - CK n F y)≤2^(a+2*n+b*n)*ab (x - y)
 | 0,F,_=>by
  show ab (0 - 0)≤_;rw[show(0:Rat) - 0=0 by grind,Dp];exact Rat.mul_nonneg (Std.le_of_lt (Ce _)) (Ak _)
 | n+1,F,h=>by
  have ih:=QX hx hy n (tl F) h.tl;have hv:=Rv (n:=n) h.tl hx;have hd:=Ak (x - y);have e:F 0+x*CK n (tl F) x - (F 0+y*CK n (tl F) y)=(x - y)*CK n (tl F) x+y*(CK n (tl F) x - CK n (tl F) y):=by grind
  rw[DD,DD,e];have h1:=FH ((x - y)*CK n (tl F) x) (y*(CK n (tl F) x - CK n (tl F) y));have h2:ab ((x - y)*CK n (tl F) x)≤2^(a+n+b*n)*ab (x - y):=by
   rw[Cf,Rat.mul_comm];exact CU hv hd
  have hy2:ab y≤2^b:=by grind
  have h3:ab (y*(CK n (tl F) x - CK n (tl F) y))≤2^b*(2^(a+2*n+b*n)*ab (x - y)):=by
   rw[Cf];exact SE hy2 ih (Ak _) (Std.le_of_lt (Ce b))
  have h4:(2:Rat)^(a+n+b*n)≤2^(a+2*n+b*n+b):=Mk Aa;have h5:=CU h4 hd;have e3:(2:Rat)^b*(2^(a+2*n+b*n)*ab (x - y))=2^(a+2*n+b*n+b)*ab (x - y):=by rw[DF _ b];grind
  have e4:(2:Rat)^(a+2*(n+1)+b*(n+1))=4*2^(a+2*n+b*n+b):=by
   rw[show a+2*(n+1)+b*(n+1)=2+(a+2*n+b*n+b) by rw[Nat.mul_succ,Nat.mul_succ];omega,DF 2];congr 1
  rw[e4];have h6:=Rat.mul_nonneg (Std.le_of_lt (Ce (a+2*n+b*n+b))) hd;grind
theorem Jh.pd{F:Nat→Rat}{a n:Nat}(h:Jh (2^a) F)(hs:Bq (n+1) F):Jh (2^(a+n)) (Hp.pd F):=fun i=>by
 show ab (((i+1:Nat):Rat)*F (i+1))≤_;by_cases hi:i+1≤n
 ·rw[Cf,Dw (Ea _),DF,Rat.mul_comm ((2:Rat)^a)]
  refine SE (Std.le_trans (LB hi) (NJ n)) (h _) (Ak _) (Std.le_of_lt (Ce n))
 ·rw[hs (i+1) Aa,Rat.mul_zero,Dp]
  exact Std.le_of_lt (Ce _)
theorem PW{a b:Nat}{x y:Rat}(hx:ab x≤2^b - 1)(hy:ab y≤2^b - 1):∀(n:Nat) (F:Nat→Rat),Jh (2^a) F→Bq n F →
  ∃ r,ab r≤2^(a+3*n+b*n)∧CK n F y - CK n F x=(y - x)*(CK n (pd F) x+(y - x)*r)
 | 0,F,_,_=>⟨0,by rw[Dp];exact Std.le_of_lt (Ce _),by show(0:Rat) - 0=_*(0+_*0);grind⟩
 | n+1,F,h,hs=>by
  obtain⟨r,hr,e⟩:=PW hx hy n (tl F) h.tl hs.tl;have hpd:Jh (2^(a+n)) (pd (tl F)):=Jh.pd h.tl (hs.tl.mono (Nat.le_succ n));have hv:=Rv (n:=n) hpd hx;refine⟨CK n (pd (tl F)) x+y*r,?_,?_⟩
  ·have h1:=FH (CK n (pd (tl F)) x) (y*r)
   have hy2:ab y≤2^b:=by grind
   have h2:ab (y*r)≤2^b*2^(a+3*n+b*n):=by rw[Cf];exact SE hy2 hr (Ak _) (Std.le_of_lt (Ce b))
   have h3:(2:Rat)^(a+n+n+b*n)≤2^(a+3*n+b*n+b):=Mk Aa;have e3:(2:Rat)^b*2^(a+3*n+b*n)=2^(a+3*n+b*n+b):=by rw[DF _ b];grind
   have e4:(2:Rat)^(a+3*(n+1)+b*(n+1))=8*2^(a+3*n+b*n+b):=by
    rw[show a+3*(n+1)+b*(n+1)=3+(a+3*n+b*n+b) by rw[Nat.mul_succ,Nat.mul_succ];omega,DF 3];congr 1
   have h6:=Ce (a+3*n+b*n+b);grind
  ·have e1:CK (n+1) (pd F) x=CK n (tl F) x+x*CK n (pd (tl F)) x:=by
    rw[XV];congr 1;exact LC hs.tl (Nat.le_succ n) x
   rw[e1,DD,DD];grind
/-! ### two polynomials without a common root are not small together -/
def Jv(S D b:Nat):Nat:=96*(2*((S+1)*2^D)+(D+1)*((S+1)*2^D+1))+(D+1)+b*(D+1)+1
section
variable{F0 G0 A B:Nat→Rat}{D S:Nat}
theorem F5.low1(h:F5 F0 G0 D S A B)(h0:B≠pz){b:Nat}{x e:Rat}(hx:ab x≤2^b - 1)(hA:ab (ev A x)≤e)(hB:ab (ev B x)≤e):ab (ev (nx A B) x)≤e*2^(Jv S D b):=by
 obtain⟨fA,fB,zA,zB,hd,qA,qB⟩:=h.facts;obtain⟨M,hM⟩:∃ M,M=(S+1)*2^D:=⟨_,rfl⟩
 have he0:0≤e:=Std.le_trans (Ak _) hA;obtain⟨cA,cB,cR⟩:=h.clear h0 (M:=M) Aa;obtain⟨zN,fN,-,-,hN⟩:=JC fA fB h0;by_cases hR:pr A B=pz
 ·rw[J7 hR,Qd,Dp]
  exact Rat.mul_nonneg he0 (Std.le_of_lt (Ce _))
 obtain⟨c,hc,ec⟩:=hN hR;have hq:∀ i,qsz (pq A B i)≤2*M+(D+1)*(M+1):=fun i=>by
  have h1:=MX (n:=pl A+1 - pl B) ((AJ fA).mono (by have:=AY fB h0;omega)) fB h0 cA cB i;have h2:(pl A+1 - pl B)*(M+1)≤(D+1)*(M+1):=Nat.mul_le_mul_right _ Aa;omega
 obtain⟨X,hX⟩:∃ X,X=2*M+(D+1)*(M+1):=⟨_,rfl⟩
 rw[←hX]at hq
 -- the factor c
 have hcl:1≤c*2^(64*X):=by
  obtain⟨i,hi⟩:=Y9 hR;have e1:pr A B i = -c*nx A B i:=by rw[ec];rfl
  have hni:nx A B i≠0:=fun q=>hi (by rw[e1,q,Rat.mul_zero]);have h1:=(Mf (Nat.le_trans (cR.elem i) (show _≤X by omega))).2 hi;have h2:ab (nx A B i)≤2^(32*X):=(Mf (Nat.le_trans ((h.step h0).facts.2.2.2.2.2.2 i) (show _≤X by omega))).1;rw[e1,Cf,GZ,Dw (Std.le_of_lt hc)]at h1;have h3:=SE (SE (Std.le_refl c) h2 (Ak _) (Std.le_of_lt hc)) (Std.le_refl ((2:Rat)^(32*X))) (Std.le_of_lt (Ce _)) (Rat.mul_nonneg (Std.le_of_lt hc) (Std.le_of_lt (Ce _)))
  rw[show 64*X=32*X+32*X by omega,DF];grind
 -- the quotient's value
 have hqv:ab (ev (pq A B) x)≤2^(32*X+(D+1)+b*(D+1)):=by
  have hsup:Bq (D+1) (pq A B):=(KQ (n:=pl A+1 - pl B) ((AJ fA).mono (by have:=AY fB h0;omega)) fB h0).mono Aa;rw[EU hsup];exact Rv (fun i=>(Mf (hq i)).1) hx
 have e2:c*ev (nx A B) x=ev (pq A B) x*ev B x - ev A x:=by
  have e3:ev A x=ev (pq A B) x*ev B x+ev (pr A B) x:=by
   conv=>lhs;rw[Ki A B]
   rw[Jq ((Dl A B).cv fB) (Ex fA fB),FT (Dl A B) fB]
  rw[ec,G8 _ fN]at e3;grind
 obtain⟨Q,hQ⟩:∃ Q:Rat,Q=2^(32*X+(D+1)+b*(D+1)):=⟨_,rfl⟩
 rw[←hQ]at hqv;have hQ1:1≤Q:=by rw[hQ];exact Om _
 have h5:c*ab (ev (nx A B) x)≤2*(Q*e):=by
  have h6:=WZ (ev (pq A B) x*ev B x) (ev A x);rw[←e2,Cf,Dw (Std.le_of_lt hc),Cf]at h6;have h7:=SE hqv hB (Ak _) Aj;have h8:=SE hQ1 (Std.le_refl e) he0 Aj;grind
 have h9:=SE (Std.le_refl (ab (ev (nx A B) x))) hcl Ab (Ak _);have h10:=CU h5 (Std.le_of_lt (Ce (64*X)));have e11:(2:Rat)^(Jv S D b)=2*Q*2^(64*X):=by
  rw[hQ,show Jv S D b=1+(32*X+(D+1)+b*(D+1))+64*X by unfold Jv;rw[←hM,←hX];omega,DF,DF 1];congr 1
 rw[e11];grind
theorem F5.low(c:DU F0 G0){b:Nat}{x:Rat}(hx:ab x≤2^b - 1):∀(n:Nat) {A B:Nat→Rat} {e:Rat},F5 F0 G0 D S A B→pl B≤n→ab (ev A x)≤e→ab (ev B x)≤e→1≤e*2^(n*Jv S D b):=by
 intro n;induction n with
 | zero =>
  intro A B e h hn hA hB;obtain⟨fA,fB,zA,zB,hd,qA,qB⟩:=h.facts;have hBz:B=pz:=(BF fB).1 Aa;have hc:=h.cop c;rw[hBz]at hc;have hA1:pl A=1:=KR hc fA (Dv.refl A) (Dv.zero A);have e1:ev A x=A 0:=by unfold ev;rw[hA1];show A 0+x*0=A 0;grind
  have hA0:A 0≠0:=by have:=ES fA Aa;rwa[hA1]at this
  have h1:=aK zA hA0;rw[e1]at hA;rw[Nat.zero_mul,Rat.pow_zero];grind
 | succ n ih =>
  intro A B e h hn hA hB;have hY:=Om (Jv S D b);have he0:0≤e:=Std.le_trans (Ak _) hA;have hgrow:e≤e*2^Jv S D b:=by have:=SE (Std.le_refl e) hY Ab he0;grind
  have e3:(2:Rat)^((n+1)*Jv S D b)=2^Jv S D b*2^(n*Jv S D b):=by rw[Nat.succ_mul,Nat.add_comm,DF]
  by_cases h0:B=pz
  ·have:=ih h (by rw[h0,BV];omega) hA hB
   have h2:=CU hgrow (Std.le_of_lt (Ce (n*Jv S D b)));rw[e3];grind
  ·have hN:=h.low1 h0 hx hA hB
   obtain⟨fA,fB,zA,zB,hd,qA,qB⟩:=h.facts;have hlt:=(JC fA fB h0).2.2.2.1;have:=ih (h.step h0) Aa (Std.le_trans hB hgrow) hN;rw[e3];grind
end
theorem Zx{F:Nat→Rat}(zF:ZI F)(fF:Af F)(x:Rat):ab (ev (rd F) x)≤ab (ev F x):=by
 unfold rd;rw[G8 _ fF,Cf];have h1:ab (1 / ((cn F:Nat):Rat))≤1:=by
  rcases Nat.eq_zero_or_pos (cn F)with h | h
  ·rw[h,show(1:Rat) / ((0:Nat):Rat)=0 from by rw[Rat.div_def];show 1*(0:Rat)⁻¹ = 0;rw[Rat.inv_zero,Rat.mul_zero],Dp];decide
  ·have hp:(0:Rat) < ((cn F:Nat):Rat):=by exact_mod_cast h
   have h1':(1:Rat)≤((cn F:Nat):Rat):=by exact_mod_cast h
   obtain⟨hi,ei⟩:=I9 hp;rw[Dw (Std.le_of_lt hi)];have:=SE (Std.le_refl (1 / ((cn F:Nat):Rat))) h1' Ab (Std.le_of_lt hi);grind
 have:=CU h1 (Ak (ev F x));grind
def XC(S D b:Nat):Nat:=D*Jv S D b
theorem DU.low{F G:Nat→Rat}{S D b:Nat}(c:DU F G)(fF:Af F)(fG:Af G)(zF:ZI F)(zG:ZI G)(qF:∀ i,qsz (F i)≤S)(qG:∀ i,qsz (G i)≤S)(hD:pl F+pl G=D)
  {x e:Rat} (hx:ab x≤2^b - 1) (h1:ab (ev F x)≤e) (h2:ab (ev G x)≤e):1≤e*2^(XC S D b):=by
 have hs:=F5.start fF fG zF zG qF qG;rw[hD]at hs;have he0:0≤e:=Std.le_trans (Ak _) h1;refine hs.low c hx D ?_ (Std.le_trans (Zx zF fF x) h1) (Std.le_trans (Zx zG fG x) h2);have:=hs.facts.2.2.2.2.1;omega
structure SF(F:Nat→Rat):Prop where
 p:BI F
 c:DU F (pd F)
theorem BI.eq_dv{F G:Nat→Rat}(h:BI F)(k:BI G)(a:Dv F G)(b:Dv G F):F=G:=by
 have e:mn F=mn G:=Tt (KW h.f) (KW k.f) (fun _=>Ub h.f h.n) (fun _=>Ub k.f k.n) ((Lg h.f).trans (a.trans (Lp G))) ((Lg k.f).trans (b.trans (Lp F)));have hl:=Dc h.f h.n;have kl:=Dc k.f k.n;have e1:F=psc (ld F) (mn F):=by unfold mn;rw[Ci,show ld F*(1 / ld F)=1 by grind,Ca]
 have e2:mn G=psc (1 / ld G) G:=rfl;have e3:F=psc (ld F*(1 / ld G)) G:=by
  conv=>lhs;rw[e1,e,e2,Ci]
 have e4:Hp.pp F=Hp.pp G:=TF h.z k.z k.f k.n (by
  intro q;have:=MM kl;rcases Rat.mul_eq_zero.1 q with x | x
  ·exact hl x
  ·exact this x) e3
 rw[h.self,k.self]at e4;exact e4
theorem fK{H A B:Nat→Rat}(h:Dv H A)(k:Dv H B):Dv (cv H H) (cv A B):=by
 obtain⟨Q1,f1,rfl⟩:=h;obtain⟨Q2,f2,rfl⟩:=k;refine⟨cv Q1 Q2,f1.cv f2,?_⟩;rw[Av,Av,←Av H Q2 H,Bl H Q2,Av]
theorem dR{g:Nat→Rat}(h:BI g):SF (y0 g):=by
 obtain⟨hC,hW,e,-,-⟩:=FX h;refine⟨hW,?_⟩;refine Classical.byContradiction fun hn=>?_;obtain⟨hE,hP,e2,-,-⟩:=FX hW;have h1:1 < pl (yc (y0 g)):=by
  rcases Nat.lt_or_ge 1 (pl (yc (y0 g)))with a | a
  ·exact a
  ·exact absurd (DU.of_gcd hW (EM hW.z) (BS hW.f) a) hn
 obtain⟨N,hN⟩:=ZC hW;by_cases hc:pl (Ic (yc (y0 g)) (y0 (y0 g)))≤1
 ·have c1:=DU.of_gcd hE hP.z hP.f hc
  have c2:=(DU.pw hE.f hP.f c1 N).symm.symm;have:=DU.self hE.f (((c2.symm).dv hN));omega
 ·obtain⟨hH,-,-,d1,d2,-⟩:=hE.gcd hP.z hP.f
  have h2:Dv (cv (Ic (yc (y0 g)) (y0 (y0 g))) (Ic (yc (y0 g)) (y0 (y0 g)))) (y0 g):=by
   have:=fK d2 d1;rw[←e2]at this;exact this
  have:=Yb h hH h2;omega
theorem SF.stf{F:Nat→Rat}(h:SF F):∃ K,Ej F K:=by
 obtain⟨S,hS⟩:=Ee h.p.f;obtain⟨T,hT⟩:=Ee (BS h.p.f);obtain⟨K,hK,-⟩:=IC h.p.f (BS h.p.f) h.p.z (EM h.p.z) (S:=max S T) (fun i=>Nat.le_trans (hS i) (Nat.le_max_left _ _)) (fun i=>Nat.le_trans (hT i) (Nat.le_max_right _ _));exact⟨K,h.p.z,h.p.f,h.p.n,h.c,hK⟩
noncomputable def kn(F:Nat→Rat):Nat:=open Classical in if h:∃ K,Nv F (pd F) K then Classical.choose h else 0
theorem Nv.kn{F:Nat→Rat}{K:Nat}(h:Nv F (pd F) K):Hp.kn F=K:=by
 have hx:∃ K,Nv F (pd F) K:=⟨K,h⟩
 unfold Hp.kn;rw[dif_pos hx];exact(Classical.choose_spec hx).uniq h
theorem SF.st{F:Nat→Rat}(h:SF F):Ej F (kn F):=by
 obtain⟨K,hK⟩:=h.stf;rw[hK.k.kn];exact hK
noncomputable def rc(F:Nat→Rat)(p q:Rat):Int:=rt F (kn F) p q
theorem WM(F:Nat→Rat)(p q r:Rat):rc F p q+rc F q r=rc F p r:=Ir F _ p q r
theorem SF.nonneg{F:Nat→Rat}(h:SF F){p q:Rat}(hpq:p≤q):0≤rc F p q:=h.st.rt_nonneg hpq
theorem SF.sub{F:Nat→Rat}(h:SF F){p x y q:Rat}(h1:p≤x)(h2:x≤y)(h3:y≤q):rc F x y≤rc F p q:=h.st.rt_sub h1 h2 h3
theorem SF.free{F:Nat→Rat}(h:SF F){p q x y:Rat}(h0:rc F p q=0)(h1:p < x)(h2:x≤y)(h3:y≤q):ev F x≠0∧BA (ev F y)=BA (ev F x):=h.st.free h0 h1 h2 h3
theorem SF.mul{A B:Nat→Rat}(hA:SF A)(hB:SF B)(hC:SF (cv A B))(c:DU A B){p q:Rat}(hpq:p≤q):rc (cv A B) p q=rc A p q+rc B p q:=Ej.rt_mul hA.st hB.st hC.st c hpq
theorem SF.split{A B:Nat→Rat}(hA:BI A)(hB:BI B)(h:SF (cv A B)):SF A∧SF B∧DU A B:=by
 have half:∀ {A B:Nat→Rat},BI A→BI B→DU (cv A B) (pd (cv A B))→DU A (pd A)∧DU A B:=by
  intro A B hA hB ⟨U,V,fU,fV,e⟩;have fA':=BS hA.f;have fB':=BS hB.f;rw[Lf]at e;constructor
  ·refine⟨pad (cv U B) (cv V (pd B)),cv V B,(fU.cv hB.f).pad (fV.cv fB'),fV.cv hB.f,?_⟩
   rw[←e,D5,Fs];have e1:cv (cv U B) A=cv U (cv A B):=by rw[Av,Bl B A]
   have e2:cv (cv V (pd B)) A=cv V (cv A (pd B)):=by rw[Av,Bl (pd B) A]
   have e3:cv (cv V B) (pd A)=cv V (cv (pd A) B):=by rw[Av,Bl B (pd A)]
   rw[e1,e2,e3]
   funext n;simp only[pad];grind
  ·refine⟨pad (cv U B) (cv V (pd B)),cv V (pd A),(fU.cv hB.f).pad (fV.cv fB'),fV.cv fA',?_⟩
   rw[←e,D5,Fs];have e1:cv (cv U B) A=cv U (cv A B):=by rw[Av,Bl B A]
   have e2:cv (cv V (pd B)) A=cv V (cv A (pd B)):=by rw[Av,Bl (pd B) A]
   have e3:cv (cv V (pd A)) B=cv V (cv (pd A) B):=by rw[Av]
   rw[e1,e2,e3]
   funext n;simp only[pad];grind
 obtain⟨a1,a2⟩:=half hA hB h.c;obtain⟨b1,-⟩:=half hB hA (by rw[Bl];exact h.c);exact⟨⟨hA,a1⟩,⟨hB,b1⟩,a2⟩
theorem SF.factor{W A:Nat→Rat}(h:SF W)(hA:BI A)(hd:J8 W A):SF A∧SF (pq W A)∧DU A (pq W A)∧W=cv A (pq W A):=by
 obtain⟨q1,q2⟩:=h.p.quot hA hd;have e:W=cv A (pq W A):=by rw[Bl];exact q2
 have hs:SF (cv A (pq W A)):=by rw[←e];exact h
 obtain⟨a,b,c⟩:=SF.split hA q1 hs;exact⟨a,b,c,e⟩
theorem BI.zdv{F D:Nat→Rat}(h:BI F)(k:BI D)(hd:Dv D F):J8 F D:=by
 obtain⟨Q,fQ,e⟩:=hd;exact⟨Q,Ti h.z h.f k.z k.f k.n fQ e (by rw[k.c];exact Nat.one_dvd _),fQ,e⟩
theorem aY{E D:Nat→Rat}(hE:SF E)(hD:BI D)(h:Dv E D):Dv E (y0 D):=by
 obtain⟨hC,hW,e,-,-⟩:=FX hD;obtain⟨N,hN⟩:=ZC hD;have h1:Dv E (pw (y0 D) (N+1)):=by
  obtain⟨Q,fQ,eQ⟩:=hN;refine h.trans ⟨Q,fQ,?_⟩;show cv (pw (y0 D) N) (y0 D)=_
  conv=>rhs;rw[e]
  rw[eQ,Av,Bl (yc D)]
 obtain⟨hH,z1,z2,d1,d2,-⟩:=hE.p.gcd hW.z hW.f;obtain⟨f1,f2,f3,f4⟩:=hE.factor hH z1
 -- the rest of E is coprime to the square-free part
 have h2:DU (pq E (Ic E (y0 D))) (y0 D):=by
  refine DU.of_gcd f2.p hW.z hW.f ?_;obtain⟨kG,-,-,g1,g2,-⟩:=f2.p.gcd hW.z hW.f;have g3:Dv (Ic (pq E (Ic E (y0 D))) (y0 D)) E:=g1.trans ⟨Ic E (y0 D),hH.f,f4⟩;have g4:Dv (Ic (pq E (Ic E (y0 D))) (y0 D)) (Ic E (y0 D)):=by
   have:=(VJ hE.p.f hW.f hE.p.z hW.z).2.2.2.2.2.2.2.2 _ kG.f g3 g2;exact this.trans (Lg hH.f)
  have:=DU.self kG.f ((f3.dv g4).symm.dv g1);omega
 have h3:=DU.pw f2.p.f hW.f h2 (N+1);have h4:Dv (pq E (Ic E (y0 D))) (pw (y0 D) (N+1)):=Dv.trans ⟨Ic E (y0 D),hH.f,f4⟩ h1;have h5:=f2.p.one (by have:=DU.self f2.p.f (h3.symm.dv h4);omega);rw[h5,Kh]at f4;have:Dv (Ic E (y0 D)) (y0 D):=d2;rw[←f4]at this;exact this
noncomputable def Er(F:Nat→Rat):Nat→Rat:=y0 (pp F)
theorem PD{F:Nat→Rat}(z:ZI F)(f:Af F)(h0:F≠pz):SF (Er F):=dR (BI.pp z f h0)
def QQ(S D b:Nat):Nat:=32*S+(3+b)*D
def OH(S D b:Nat):Nat:=QQ S D b+XC S D b+2
theorem Tw{F:Nat→Rat}{S:Nat}(h:∀ i,qsz (F i)≤S):Jh (2^(32*S)) F:=fun i=>(Mf (h i)).1
theorem R7{F:Nat→Rat}{S D b:Nat}(qF:∀ i,qsz (F i)≤S)(hD:pl F≤D){x y:Rat}(hx:ab x≤2^b - 1)(hy:ab y≤2^b - 1):ab (ev F x - ev F y)≤2^(QQ S D b)*ab (x - y):=by
 have h:=QX hx hy (pl F) F (Tw qF);refine Std.le_trans h (CU (Mk ?_) (Ak _));unfold QQ;have h1:b*pl F≤b*D:=Nat.mul_le_mul_left _ hD;rw[Nat.add_mul];omega
theorem bR{F:Nat→Rat}{S D b:Nat}(fF:Af F)(qF:∀ i,qsz (F i)≤S)(hD:pl F≤D){x y:Rat}(hx:ab x≤2^b - 1)(hy:ab y≤2^b - 1):∃ r,ab r≤2^(QQ S D b)∧ev F y - ev F x=(y - x)*(ev (pd F) x+(y - x)*r):=by
 obtain⟨r,hr,e⟩:=PW hx hy (pl F) F (Tw qF) (AJ fF);refine⟨r,Std.le_trans hr (Mk ?_),?_⟩
 ·unfold QQ
  have h1:b*pl F≤b*D:=Nat.mul_le_mul_left _ hD;rw[Nat.add_mul];omega
 ·have e1:ev (pd F) x=CK (pl F) (pd F) x:=EU (OE ((AJ fF).mono (Nat.le_succ _))) x
  rw[e1];exact e
theorem Ej.small_pt{F:Nat→Rat}{K:Nat}(h:Ej F K){x y ε:Rat}(hxy:x≤y)(hε:0 < ε)(hr:1≤rt F K x y):∃ z,x≤z∧z≤y∧ab (ev F z) < ε:=by
 refine Classical.byContradiction fun hn=>?_;have:=h.flat hxy hε fun z a b=>by
  rcases Std.lt_trichotomy ε (ab (ev F z))with c | c | c
  ·exact Std.le_of_lt c
  ·rw[c];exact Std.le_refl _
  ·exact absurd ⟨z,a,b,c⟩ hn
 unfold rt at hr;omega
theorem O3{q:Rat}(h:0 < q):BA q=1:=by unfold BA;rw[if_pos h]
theorem NV{q:Rat}(h:q < 0):BA q = -1:=by unfold BA;rw[if_neg Aj,if_pos h]
theorem QK:BA 0=0:=by decide
theorem YP{F:Nat→Rat}{u v w:Rat}(h:(ev F u < ev F v∧ev F v < ev F w)∨(ev F w < ev F v∧ev F v < ev F u)):Ie F u w=Ie F u v+Ie F v w:=by
 unfold Ie;generalize ev F u=a at *;generalize ev F v=b at *;generalize ev F w=c at *;rcases Std.lt_trichotomy a 0 with ha | ha | ha<;>rcases Std.lt_trichotomy b 0 with hb | hb | hb<;>rcases Std.lt_trichotomy c 0 with hc | hc | hc
 all_goals first
  | (exfalso;grind)
  | skip
 all_goals(try have ea:=NV ha);(try have ea:=O3 ha);(try have eb:=NV hb);(try have eb:=O3 hb);(try have ec:=NV hc);(try have ec:=O3 hc)
 all_goals(try(have na:a≠0:=by grind));(try(have nb:b≠0:=by grind));(try(have nc:c≠0:=by grind))
 all_goals(try subst ha);(try subst hb);(try subst hc);simp_all [QK]
theorem Ej.sep{F:Nat→Rat}{K S D b:Nat}(h:Ej F K)(qF:∀ i,qsz (F i)≤S)(qG:∀ i,qsz (pd F i)≤S)(hD:pl F+pl (pd F)=D){x y:Rat}(hx:ab x≤2^b - 1)(hy:ab y≤2^b - 1)(hxy:x < y)(hd:(y - x)*2^(OH S D b)≤1):rt F K x y≤1:=by
 refine Classical.byContradiction fun hn=>?_;obtain⟨d,hdd⟩:∃ d,d=y - x:=⟨_,rfl⟩
 have hd0:0 < d:=by grind
 obtain⟨L,hL⟩:∃ L:Rat,L=2^(QQ S D b):=⟨_,rfl⟩
 have hL0:0 < L:=by rw[hL];exact Ce _
 obtain⟨E,hE⟩:∃ E:Rat,E=2^(XC S D b):=⟨_,rfl⟩
 have hE0:0 < E:=by rw[hE];exact Ce _
 have hLd:=Rat.mul_pos hL0 hd0;have hsmall:4*(L*d*E)≤1:=by
  have e:(2:Rat)^(OH S D b)=L*E*4:=by
   unfold OH;rw[DF,DF,←hL,←hE];congr 1
  rw[e,←hdd]at hd;grind
 have hin:∀ z,x≤z→z≤y→ab z≤2^b - 1:=fun z a c=>Ez hx hy a c;have hdist:∀ z z',x≤z→z≤y→x≤z'→z'≤y→ab (z - z')≤d:=fun z z' a c a' c'=>Ij.2 ⟨Aj,Aj⟩;have lF:∀ z z',x≤z→z≤y→x≤z'→z'≤y→ab (ev F z - ev F z')≤L*d:=fun z z' a c a' c'=>by
  have:=R7 qF (show pl F≤D by omega) (hin z a c) (hin z' a' c');rw[←hL]at this;exact Std.le_trans this (CJ (hdist z z' a c a' c') (Std.le_of_lt hL0))
 have lG:∀ z z',x≤z→z≤y→x≤z'→z'≤y→ab (ev (pd F) z - ev (pd F) z')≤L*d:=fun z z' a c a' c'=>by
  have:=R7 qG (show pl (pd F)≤D by omega) (hin z a c) (hin z' a' c');rw[←hL]at this;exact Std.le_trans this (CJ (hdist z z' a c a' c') (Std.le_of_lt hL0))
 obtain⟨z0,z1,z2,z3⟩:=h.small_pt (Std.le_of_lt hxy) hLd Aa;have hall:∀ z,x≤z→z≤y→ab (ev F z)≤2*(L*d):=fun z a c=>by
  have h1:=lF z z0 a c z1 z2;have h2:=FH (ev F z - ev F z0) (ev F z0);have e:ev F z - ev F z0+ev F z0=ev F z:=by grind
  rw[e]at h2;grind
 have hbig:∀ z,x≤z→z≤y→L*d < ab (ev (pd F) z):=fun z a c=>by
  rcases Std.lt_trichotomy (L*d) (ab (ev (pd F) z))with q | q | q
  ·exact q
  all_goals
   exfalso;have:=DU.low h.c h.f (BS h.f) h.z (EM h.z) qF qG hD (hin z a c) (hall z a c) (show ab (ev (pd F) z)≤2*(L*d) by grind);rw[←hE]at this;grind
 have hs0:BA (ev (pd F) x)≠0:=by
  have:=hbig x (Std.le_refl _) (Std.le_of_lt hxy);intro q;rw[Du.1 q,Dp]at this;grind
 have hmono:∀ u v,x≤u→u < v→v≤y→BA (ev F v - ev F u)=BA (ev (pd F) x):=fun u v a c a'=>by
  have hu:u≤y:=by grind
  have b1:=hbig u a hu;have s1:=Od (p:=ev (pd F) u) (q:=ev (pd F) x) (by
   have:=lG u x a hu (Std.le_refl _) (Std.le_of_lt hxy);grind)
  obtain⟨r,hr,e⟩:=bR h.f qF (show pl F≤D by omega) (hin u a hu) (hin v Aj a');rw[e,FO (show 0 < v - u by grind),←s1.1];refine(Od ?_).1.symm;have e2:ev (pd F) u - (ev (pd F) u+(v - u)*r) = -((v - u)*r):=by grind
  rw[e2,GZ,Cf];rw[←hL]at hr;have h4:=SE (show ab (v - u)≤d from Ij.2 ⟨Aj,Aj⟩) hr (Ak _) (Std.le_of_lt hd0);grind
 obtain⟨δ,hδ,hl⟩:=h.loc x y;have key:rt F K x y=Ie F x y:=by
  refine MJ (P:=fun u v=>rt F K u v=Ie F u v) hδ hxy (fun u v a1 a2 a3 a4=>hl u v a1 a2 a3 a4) (fun u v w a1 a2 a3 a4 e f=>?_);have m1:=hmono u v a1 a2 Aj;have m2:=hmono v w Aj a3 a4;have m3:=Ir F K u v w;have m4:Ie F u w=Ie F u v+Ie F v w:=by
   refine YP ?_;rcases Std.lt_trichotomy (ev (pd F) x) 0 with c | c | c
   ·rw[NV c]at m1 m2
    refine .inr ⟨?_,?_⟩
    ·rcases Std.lt_trichotomy (ev F w - ev F v) 0 with q | q | q
     ·grind
     ·rw[q,QK]at m2;exact absurd m2 Ab
     ·rw[O3 q]at m2;exact absurd m2 Ab
    ·rcases Std.lt_trichotomy (ev F v - ev F u) 0 with q | q | q
     ·grind
     ·rw[q,QK]at m1;exact absurd m1 Ab
     ·rw[O3 q]at m1;exact absurd m1 Ab
   ·exact absurd (Du.2 c) hs0
   ·rw[O3 c]at m1 m2
    refine .inl ⟨?_,?_⟩
    ·rcases Std.lt_trichotomy (ev F v - ev F u) 0 with q | q | q
     ·rw[NV q]at m1;exact absurd m1 Ab
     ·rw[q,QK]at m1;exact absurd m1 Ab
     ·grind
    ·rcases Std.lt_trichotomy (ev F w - ev F v) 0 with q | q | q
     ·rw[NV q]at m2;exact absurd m2 Ab
     ·rw[q,QK]at m2;exact absurd m2 Ab
     ·grind
  omega
 have:=(aL F x y).2;omega
theorem DU.sep{A B:Nat→Rat}{S D b:Nat}(hA:SF A)(hB:SF B)(c:DU A B)(qA:∀ i,qsz (A i)≤S)(qB:∀ i,qsz (B i)≤S)(hD:pl A+pl B=D){x y:Rat}(hx:ab x≤2^b - 1)(hy:ab y≤2^b - 1)(hxy:x < y)(hd:(y - x)*2^(OH S D b)≤1) :
  rc A x y=0∨rc B x y=0:=by
 refine Classical.byContradiction fun hn=>?_;have n1:=hA.nonneg (Std.le_of_lt hxy);have n2:=hB.nonneg (Std.le_of_lt hxy);obtain⟨d,hdd⟩:∃ d,d=y - x:=⟨_,rfl⟩
 have hd0:0 < d:=by grind
 obtain⟨L,hL⟩:∃ L:Rat,L=2^(QQ S D b):=⟨_,rfl⟩
 have hL0:0 < L:=by rw[hL];exact Ce _
 obtain⟨E,hE⟩:∃ E:Rat,E=2^(XC S D b):=⟨_,rfl⟩
 have hE0:0 < E:=by rw[hE];exact Ce _
 have hLd:=Rat.mul_pos hL0 hd0;have hsmall:4*(L*d*E)≤1:=by
  have e:(2:Rat)^(OH S D b)=L*E*4:=by
   unfold OH;rw[DF,DF,←hL,←hE];congr 1
  rw[e,←hdd]at hd;grind
 have one:∀ {P:Nat→Rat},SF P→(∀ i,qsz (P i)≤S)→pl P≤D→1≤rc P x y→ab (ev P x)≤2*(L*d):=fun {P} hP qP hp h1=>by
  obtain⟨z,z1,z2,z3⟩:=hP.st.small_pt (Std.le_of_lt hxy) hLd h1;have h2:=R7 qP hp hx (Ez hx hy z1 z2);rw[←hL]at h2;have h3:=CJ (show ab (x - z)≤d from Ij.2 ⟨Aj,Aj⟩) (Std.le_of_lt hL0);have h4:=FH (ev P x - ev P z) (ev P z);have e:ev P x - ev P z+ev P z=ev P x:=by grind
  rw[e]at h4;grind
 have a1:=one hA qA Aa Aa;have a2:=one hB qB Aa Aa;have:=DU.low c hA.p.f hB.p.f hA.p.z hB.p.z qA qB hD hx a1 a2;rw[←hE]at this;grind
end Go.Hp
namespace Go.Hp
open Go.RowKit
section
variable{P:Program}
theorem Np(w:World)(k base:Nat)(t ty e:TypeId)(i:TypeInfo)(z:Value)(bytes:Nat)(ht:P.underlying t=some (.slice e))(hi:P.info? e=some i)(hz:i.zero=some z)
  (hsize:i.size=k) (hby:i.bytes=bytes) (hzs:z.cells.size=k) (hzd:nodig z.cells=true) (hsz:0 < k)
  (v:Value) (n:Nat) (xs:List Value) (hown:Lr k base e w v n xs)
  (a:Addr) (c:Nat) (news:List Value) (hl:news.length=k) (hnews:∀ j u,news[j]? = some u→w.cell? (a.add j)=some u) (h1:∀ u∈news,u.oneCell'=true) (hnd:∀ u∈news,Ag u=false)
  (h63:n+1≤maxLen) (hbytes:(n+1)*bytes≤140737488355328) (hbase:base≤w.heap.size) :
  ∃ v' w',(Builtin.append_ #[t,t] ty #[v,.slice (some a) 1 c]).run P w = .ok v' w'∧Lr k base e w' v' (n+1) (xs ++ news)∧Ch (blk v) w w'∧∀ g∈blk v',g∈blk v∨w.heap.size≤g:=by
 subst hsize;subst hby;have hl':news.length=1*i.size:=by rw[Nat.one_mul];exact hl
 have hlen:(xs ++ news).length=(n+1)*i.size:=by rw[List.length_append,hown.1,hl,Nat.succ_mul]
 have hsmall:n+1≤9223372036854775807:=by simp only[maxLen]at h63;omega
 have hzl:=BP.1 hzd;have hzc:∀ m,∀ u∈(Builtin.zeroCells z.cells m).toList,Ag u=false:=by
  intro m u hu;simp only[Builtin.zeroCells,Array.toList_map,Array.toList_range,List.mem_map,List.mem_range]at hu;obtain⟨j,hj,rfl⟩:=hu;have:j % z.cells.size < z.cells.size:=Nat.mod_lt _ Aa;rw[getElem!_pos z.cells _ this];exact hzl _ Ac
 have hxd:∀ u∈xs,Ag u=false:=by
  rcases hown.2 with⟨_,h0⟩ | ⟨g,cap,cur,_,_,hb,_,_,_,htake⟩
  ·intro u hu
   have:xs=[]:=List.eq_nil_of_length_eq_zero (by rw[hown.1,h0,Nat.zero_mul]);rw[this]at hu;cases hu
  ·intro u hu
   rw[←htake]at hu;exact BP.1 hb.2 _ (List.mem_of_mem_take hu)
 have grown:∀(old:Nat),old < n+1 →
   Lr i.size base e (w.drew.alloc (.cells (xs.toArray ++ news.toArray ++ Builtin.zeroCells z.cells (grownCap w (n+1) old e - (n+1))) e)) (.slice (some ⟨w.heap.size,0,none⟩) (n+1) (grownCap w (n+1) old e)) (n+1) (xs ++ news) ∧
   ∀ G,Ch G w (w.drew.alloc (.cells (xs.toArray ++ news.toArray ++ Builtin.zeroCells z.cells (grownCap w (n+1) old e - (n+1))) e)):=by
  intro old ho;have hge:=grownCap_ge w (n+1) old e;have hcm:grownCap w (n+1) old e≤maxLen:=grownCap_le_maxLen w (n+1) old e h63;refine⟨⟨hlen,.inr ⟨w.heap.size,_,_,rfl,hbase,⟨heap_alloc_new w.drew _,?_⟩,hge,hcm,?_,?_⟩⟩,fun G=>Ch.of_ext ((Ext.refl w).drew.alloc _)⟩
  ·rw[BP]
   intro u hu;simp only[Array.toList_append,List.mem_append]at hu;rcases hu with(hu | hu) | hu
   ·exact hxd u (by simpa using hu)
   ·exact hnd u (by simpa using hu)
   ·exact hzc _ u hu
  ·simp only[Array.size_append,List.size_toArray,size_zeroCells,hzs,hown.1,hl]
   rw[←Nat.succ_mul,←Nat.add_mul];congr 1;omega
  ·simp only[Array.toList_append,List.append_assoc]
   rw[←List.append_assoc,←hlen];exact List.take_left
 rcases hown.2 with⟨rfl,rfl⟩ | ⟨g,cap,cur,rfl,hbg,hb,hnc,hcm,hcs,htake⟩
 ·have hx:xs=[]:=List.eq_nil_of_length_eq_zero (by simpa using hown.1)
  subst hx;have hr:=run_append_nil (P:=P) w t ty e i z ht hi hz a 1 c news hl' hnews Aa Aa (by have hb:=hbytes;simp only[Nat.zero_add]at hb;omega);have hgr:=grown 0 Aa;simp only[Nat.zero_add,List.nil_append,Array.empty_append]at hgr ⊢;exact⟨_,_,hr,hgr.1,hgr.2 _,fun g' hg' => .inr (by simp[blk,Value.ownBlock]at hg';omega)⟩
 ·have hg:=hb.1
  by_cases hroom:n+1≤cap
  ·have hfit:n*i.size+news.length≤cur.size:=by rw[hl,hcs,←Nat.succ_mul];exact Nat.mul_le_mul_right _ hroom
   have hr:=run_append_room (P:=P) w t ty e i ht hi g n cap cur hg a 1 c news hl' hnews h1 hroom hfit;have hnew:∀ u∈cur.toList.take (n*i.size) ++ news ++ cur.toList.drop (n*i.size+news.length),Ag u=false:=by
    intro u hu;simp only[List.mem_append]at hu;rcases hu with(hu | hu) | hu
    ·exact BP.1 hb.2 _ (List.mem_of_mem_take hu)
    ·exact hnd u hu
    ·exact BP.1 hb.2 _ (List.mem_of_mem_drop hu)
   have hbx:Be (w.setRow g (cur.toList.take (n*i.size) ++ news ++ cur.toList.drop (n*i.size+news.length)).toArray) g e _:=⟨setRow_heap w g cur _ e _ hg,BP.2 (by simpa using hnew)⟩
   refine⟨_,_,hr,⟨hlen,.inr ⟨g,cap,_,rfl,hbg,hbx,hroom,hcm,?_,?_⟩⟩,⟨fun g' o hg' ho=>?_,Md hb fun h hne _=>setRow_other w g h _ hne,fun a' ha hG=>?_⟩,fun g' hg' => .inl hg'⟩
   ·simp only[List.size_toArray,List.length_append,List.length_take,List.length_drop,Array.length_toList]
    omega
   ·rw[htake,←hlen]
    exact List.take_left
   ·rw[setRow_other w g g' _ (fun e=>hg' (by simp[blk,Value.ownBlock,e]))];exact ho
   ·have hga:a'.heap.size≤g:=hG g (by simp[blk,Value.ownBlock])
    exact ha.grown (row:=some g) ⟨rfl,rfl,rfl,by simp[World.setRow],fun k _ hk=>setRow_other w g k _ (fun e=>hk (by rw[e]))⟩ (fun k hk=>by cases hk;exact hga)
  ·have holds:∀ j u,xs[j]? = some u→w.cell? ((⟨g,0,none⟩:Addr).add j)=some u:=hown.owns.cells (g:=g) rfl
   have hr:=run_append_grow (P:=P) w t ty e i z ht hi hz ⟨g,0,none⟩ n cap xs hown.1 holds a 1 c news hl' hnews Aa Aa (growslice_fits Aa hbytes);have hgr:=grown cap Aa;exact⟨_,_,hr,hgr.1,hgr.2 _,fun g' hg' => .inr (by simp[blk,Value.ownBlock]at hg';omega)⟩
end
section
variable{α:Type}{k:Nat}{rd:World→Value→α→Prop}{base:Nat}{e:TypeId}{w w':World}{v:Value}{l:List α}
theorem BD.append_at{P:Program}(h:BD k rd base e w v l)(t ty:TypeId)(i:TypeInfo)(z:Value)(bytes:Nat)(ht:P.underlying t=some (.slice e))(hi:P.info? e=some i)(hz:i.zero=some z)
  (hsize:i.size=k) (hby:i.bytes=bytes) (hzs:z.cells.size=k) (hzd:nodig z.cells=true) (hsz:0 < k) {x:α}
  (a:Addr) (c:Nat) (news:Array Value) (hl:news.size=k) (hx:rd w (.agg news) x) (hnews:∀ j u,news.toList[j]? = some u→w.cell? (a.add j)=some u) (h1:∀ u∈news.toList,u.oneCell'=true) (hnd:nodig news=true)
  (h63:l.length+1≤maxLen) (hbytes:(l.length+1)*bytes≤140737488355328) (hbase:base≤w.heap.size) (hr:∀ w' u y,KD w w'→rd w u y→rd w' u y) :
  ∃ v' w',(Builtin.append_ #[t,t] ty #[v,.slice (some a) 1 c]).run P w = .ok v' w'∧BD k rd base e w' v' (l ++ [x])∧Ch (blk v) w w'∧∀ g∈blk v',g∈blk v∨w.heap.size≤g:=by
 obtain⟨ess,g1,g2,g3,g5⟩:=h;obtain⟨v',w',hrun,hown,hupd,hat⟩:=Np (P:=P) w k base t ty e i z bytes ht hi hz hsize hby hzs hzd hsz v l.length _ g3 a c news.toList (by simpa using hl) hnews h1 (BP.1 hnd) h63 hbytes hbase;refine⟨v',w',hrun,⟨ess ++ [news],by simp[g1],?_,?_,?_⟩,hupd,hat⟩
 ·intro d hd
  rcases List.mem_append.1 hd with hd | hd
  ·exact g2 d hd
  ·simp at hd;subst hd;exact hl
 ·have e1:(ess ++ [news]).flatMap Array.toList=ess.flatMap Array.toList ++ news.toList:=by simp
  rw[e1,List.length_append];exact hown
 ·intro j hj hj'
  rcases Nat.lt_or_ge j l.length with hlt | hge
  ·rw[List.getElem_append_left hlt,List.getElem_append_left Aa]
   exact hr _ _ _ hupd.kd (g5 j hlt Aa)
  ·have:j=l.length:=by simp at hj;omega
   subst this;rw[List.getElem_append_right Aa,List.getElem_append_right Aa];simpa using hr _ _ _ hupd.kd hx
end
theorem Ch.new_trans{G G':List Nat}{w w' w'':World}(h:Ch G w w')(k:Ch G' w' w'')(hG:∀ g∈G',g∈G∨w.heap.size≤g):Ch G w w'':=by
 refine⟨fun g o hg ho=>k.1 g o (fun hm=>?_) (h.1 g o hg ho),h.kd.trans k.kd,fun a e hg=>k.2.2 a (h.2.2 a e hg) fun g hm=>?_⟩
 ·rcases hG g hm with q | q
  ·exact hg q
  ·have:=(Array.getElem?_eq_some_iff.1 ho).1;omega
 ·rcases hG g hm with q | q
  ·exact hg g q
  ·have:=e.size;omega
theorem Ch.none{w w':World}(x:Ext w w')(G:List Nat):Ch G w w':=Ch.of_ext x
theorem Km.kd{w w':World}{v:Value}{p q:Rat}(h:Km w v p q)(k:KD w w'):Km w' v p q:=by
 obtain⟨b1,A1,n1,c1,b2,A2,n2,c2,b3,A3,n3,c3,b4,A4,n4,c4,h1,h2,h3⟩:=h;exact⟨b1,A1,n1,c1,b2,A2,n2,c2,b3,A3,n3,c3,b4,A4,n4,c4,h1,h2.kd k,h3.kd k⟩
theorem Vw.kd{w w':World}{v:Value}{p q:Rat}(h:Vw w v p q)(k:KD w w'):Vw w' v p q:=by
 obtain⟨b1,A1,n1,c1,b2,A2,n2,c2,b3,A3,n3,c3,b4,A4,n4,c4,h1,h2,h3⟩:=h;exact⟨b1,A1,n1,c1,b2,A2,n2,c2,b3,A3,n3,c3,b4,A4,n4,c4,h1,h2.kd k,h3.kd k⟩
def gQ:World→Value→Rat×Rat→Prop:=fun w u y=>Km w u y.1 y.2
def EQ(base:Nat)(e:TypeId)(w:World)(v:Value)(l:List (Rat×Rat)):Prop:=BD 8 gQ base e w v l
theorem EQ.ext{base:Nat}{e:TypeId}{w w':World}{v:Value}{l:List (Rat×Rat)}(h:EQ base e w v l)(x:Ext w w'):EQ base e w' v l:=BD.ext h x fun _ _ q=>q.ext x
theorem EQ.upd{base:Nat}{e:TypeId}{w w':World}{v:Value}{l:List (Rat×Rat)}{G:List Nat}(h:EQ base e w v l)(U:Ch G w w')(hg:∀ g∈blk v,g∉G):EQ base e w' v l:=
 BD.upd h U hg fun _ _ q=>q.kd U.kd
theorem EQ.nil(base:Nat)(e:TypeId)(w:World):EQ base e w (.slice none 0 0) []:=BD.nil 8 gQ base e w
theorem EQ.len{base:Nat}{e:TypeId}{w:World}{v:Value}{l:List (Rat×Rat)}(h:EQ base e w v l):∃ A c,v = .slice A l.length c:=BD.len h
theorem Km.cells{w:World}{v:Value}{p q:Rat}(h:Km w v p q):∃ b1 A1 n1 c1 b2 A2 n2 c2 b3 A3 n3 c3 b4 A4 n4 c4,v = .agg #[.bool b1,.slice A1 n1 c1,.bool b2,.slice A2 n2 c2,.bool b3,.slice A3 n3 c3,.bool b4,.slice A4 n4 c4]:=by
 obtain⟨b1,A1,n1,c1,b2,A2,n2,c2,b3,A3,n3,c3,b4,A4,n4,c4,h1,h2,h3⟩:=h;exact⟨b1,A1,n1,c1,b2,A2,n2,c2,b3,A3,n3,c3,b4,A4,n4,c4,h1⟩
noncomputable def Jl(R:Rat→Rat→Int):Nat→Rat→Rat→List (Rat×Rat)
 | 0,p,q=>if R p q=0 then [] else [(p,q)]
 | n+1,p,q=>if R p q=0 then [] else if R p q=1 then [(p,q)] else Jl R n p ((p+q) / 2) ++ Jl R n ((p+q) / 2) q
theorem Mj{R:Rat→Rat→Int}{p q:Rat}(h:R p q=0):∀ n,Jl R n p q=[]
 | 0=>by unfold Jl;rw[if_pos h]
 | n+1=>by unfold Jl;rw[if_pos h]
theorem Ku{R:Rat→Rat→Int}{p q:Rat}(h:R p q=1):∀ n,Jl R n p q=[(p,q)]
 | 0=>by unfold Jl;rw[if_neg Aa]
 | n+1=>by unfold Jl;rw[if_neg Aa,if_pos h]
theorem MO{R:Rat→Rat→Int}{p q:Rat}{n:Nat}(h0:R p q≠0)(h1:R p q≠1):Jl R (n+1) p q=Jl R n p ((p+q) / 2) ++ Jl R n ((p+q) / 2) q:=by
 rw[Jl,if_neg h0,if_neg h1]
def Node(P Q:Rat)(d:Nat)(p q:Rat):Prop:=∃ k:Nat,k < 2^d∧p=P+(Q - P)*(((k:Nat):Rat) / 2^d)∧q=P+(Q - P)*(((k+1:Nat):Rat) / 2^d)
end Go.Hp
namespace Go.Hp
theorem Y5{k d:Nat}(h:k≤2^d):qsz (((k:Nat):Rat) / 2^d)≤d+1:=by
 have e:((k:Nat):Rat) / 2^d=Rat.divInt ((k:Nat):Int) ((2^d:Nat):Int):=by
  rw[Bt,Rat.divInt_eq_div];rfl
 rw[e];have h2:sz (2^d)≤d+1:=by
  have:=IP 2 1 Ab d;rw[Int.natAbs_pow]at this;have e3:((2:Int).natAbs)^d=2^d:=rfl;rw[e3]at this;omega
 refine Dr ?_ ?_ Aa
 ·rw[Int.natAbs_natCast];exact Nat.le_trans (Bf h) h2
 ·rw[Int.natAbs_natCast];exact h2
theorem Node.root(P Q:Rat):Node P Q 0 P Q:=by
 refine⟨0,Ab,?_,?_⟩
 ·rw[show((0:Nat):Rat)=0 from rfl,Rat.pow_zero];grind
 ·rw[show((0+1:Nat):Rat)=1 from rfl,Rat.pow_zero];grind
theorem Node.half{P Q p q:Rat}{d:Nat}(h:Node P Q d p q):Node P Q (d+1) p ((p+q) / 2)∧Node P Q (d+1) ((p+q) / 2) q:=by
 obtain⟨k,hk,rfl,rfl⟩:=h;have h2:(2:Rat)^d≠0:=by have:=Ce d;grind
 have e1:(2:Rat)^(d+1)=2^d*2:=Rat.pow_succ _ _;have c1:((2*k:Nat):Rat)=2*((k:Nat):Rat):=by push_cast;rfl
 have c2:((2*k+1:Nat):Rat)=2*((k:Nat):Rat)+1:=by rw[CF,c1]
 have c3:((2*k+1+1:Nat):Rat)=2*((k:Nat):Rat)+2:=by rw[CF,c2];grind
 have c4:((k+1:Nat):Rat)=((k:Nat):Rat)+1:=CF k;have hkk:2*k+1 < 2^(d+1):=by rw[Nat.pow_succ];omega
 constructor
 ·refine⟨2*k,Aa,?_,?_⟩
  ·rw[e1,c1];grind
  ·rw[e1,c2,c4];grind
 ·refine⟨2*k+1,hkk,?_,?_⟩
  ·rw[e1,c2,c4];grind
  ·rw[e1,c3,c4];grind
theorem Node.width{P Q p q:Rat}{d:Nat}(h:Node P Q d p q):(q - p)*2^d=Q - P:=by
 obtain⟨k,hk,rfl,rfl⟩:=h;have h2:(2:Rat)^d≠0:=by have:=Ce d;grind
 rw[CF];grind
theorem Node.within{P Q p q:Rat}{d:Nat}(h:Node P Q d p q)(hPQ:P < Q):P≤p∧p < q∧q≤Q:=by
 obtain⟨k,hk,rfl,rfl⟩:=h;have h2:=Ce d;obtain⟨hi,ei⟩:=I9 h2;have hd:0 < Q - P:=by grind
 obtain⟨z,hz⟩:∃ z:Rat,z=1 / 2^d:=⟨_,rfl⟩
 rw[←hz]at hi ei;have e:∀ x:Rat,x / 2^d=x*z:=fun x=>by rw[hz];grind
 rw[e,e];have k0:=Ea k;have k1:((k+1:Nat):Rat)≤((2^d:Nat):Rat):=LB hk;rw[←Bt]at k1;have a0:=Rat.mul_nonneg (Std.le_of_lt hd) (Rat.mul_nonneg k0 (Std.le_of_lt hi));have a1:=CU k1 (Std.le_of_lt hi);have a2:(2:Rat)^d*z=1:=by grind
 rw[a2]at a1;have a3:=CJ a1 (Std.le_of_lt hd);have a4:=Rat.mul_pos hd hi;rw[CF]at a3 ⊢;refine⟨Aj,Aj,Aj⟩
theorem Node.qsz{P Q p q:Rat}{d a:Nat}(h:Node P Q d p q)(hP:Hp.qsz P≤a)(hQ:Hp.qsz Q≤a):Hp.qsz p≤3*a+d+4∧Hp.qsz q≤3*a+d+4:=by
 obtain⟨k,hk,rfl,rfl⟩:=h;have key:∀ m:Nat,m≤2^d→Hp.qsz (P+(Q - P)*(((m:Nat):Rat) / 2^d))≤3*a+d+4:=fun m hm=>by
  have h1:=Py Q P;have h2:=Cq (Q - P) (((m:Nat):Rat) / 2^d);have h3:=Y5 hm;have h4:=EA P ((Q - P)*(((m:Nat):Rat) / 2^d));omega
 exact⟨key k Aa,key (k+1) hk⟩
theorem Vm{F:Nat→Rat}(hF:SF F){P Q:Rat}(hPQ:P < Q){N:Nat}(hdeep:∀ d p q,Node P Q d p q→N≤d→rc F p q≤1) :
  ∀(n d:Nat) (p q:Rat),Node P Q d p q→N≤n+d→(∀ x∈Jl (rc F) n p q,rc F x.1 x.2=1∧(∃ d',d≤d'∧d'≤n+d∧Node P Q d' x.1 x.2)∧p≤x.1∧x.2≤q) ∧
   ((Jl (rc F) n p q).length:Int)=rc F p q∧(Jl (rc F) n p q).Pairwise fun x y=>x.2≤y.1:=by
 intro n;induction n with
 | zero =>
  intro d p q hn hN;have h1:=hdeep d p q hn Aa;have hw:=hn.within hPQ;have h0:=hF.nonneg (Std.le_of_lt hw.2.1);by_cases hz:rc F p q=0
  ·rw[Mj hz];exact⟨fun x hx=>by simp at hx,by simp[hz],List.Pairwise.nil⟩
  ·rw[Ku (show rc F p q=1 by omega)]
   refine⟨fun x hx=>?_,CY,Ac⟩;have:x=(p,q):=by simpa using hx
   subst this;exact⟨show rc F p q=1 by omega,⟨d,Nat.le_refl _,Aa,hn⟩,Std.le_refl _,Std.le_refl _⟩
 | succ n ih =>
  intro d p q hn hN;have hw:=hn.within hPQ;have h0:=hF.nonneg (Std.le_of_lt hw.2.1);by_cases hz:rc F p q=0
  ·rw[Mj hz];exact⟨fun x hx=>by simp at hx,by simp[hz],List.Pairwise.nil⟩
  by_cases ho:rc F p q=1
  ·rw[Ku ho]
   refine⟨fun x hx=>?_,by simp[ho],Ac⟩;have:x=(p,q):=by simpa using hx
   subst this;exact⟨ho,⟨d,Nat.le_refl _,Aa,hn⟩,Std.le_refl _,Std.le_refl _⟩
  ·rw[MO hz ho]
   obtain⟨n1,n2⟩:=hn.half;obtain⟨a1,a2,a3⟩:=ih (d+1) _ _ n1 Aa;obtain⟨b1,b2,b3⟩:=ih (d+1) _ _ n2 Aa;have w1:=(n1.within hPQ).2.1;have w2:=(n2.within hPQ).2.1;have hsum:=WM F p ((p+q) / 2) q;refine⟨fun x hx=>?_,?_,?_⟩
   ·rcases List.mem_append.1 hx with hx | hx
    ·obtain⟨c1,⟨d',c2,c3,c4⟩,c5,c6⟩:=a1 x hx
     exact⟨c1,⟨d',Aa,Aa,c4⟩,c5,Aj⟩
    ·obtain⟨c1,⟨d',c2,c3,c4⟩,c5,c6⟩:=b1 x hx
     exact⟨c1,⟨d',Aa,Aa,c4⟩,Aj,c6⟩
   ·rw[List.length_append];push_cast;omega
   ·rw[List.pairwise_append]
    refine⟨a3,b3,fun x hx y hy=>?_⟩;obtain⟨-,-,-,c6⟩:=a1 x hx;obtain⟨-,-,c5,-⟩:=b1 y hy;exact Std.le_trans c6 c5
end Go.Hp
namespace Go.Hp
open Go.RowKit
theorem bK(W:Nat→Rat)(K:Nat)(p q:Rat):rts W K p q=rt W K p q:=by
 have e:∀ x,V (F4 W (pd W) K) x=vx W K x:=fun x=>by
  unfold V vx UZ F4;rw[List.map_map];rfl
 unfold rts rt;rw[e,e]
theorem Ov{W:Nat→Rat}{K:Nat}(hK:Nv W (pd W) K)(p q:Rat):rts W K p q=rc W p q:=by rw[bK];unfold rc;rw[hK.kn]
theorem Vu{G:List Nat}{X Y:World}(U:Ch G X Y){g i:Nat}{x:Value}(hg:g∉G)(h:X.cell? ⟨g,i,none⟩=some x):Y.cell? ⟨g,i,none⟩=some x:=by
 have hb:=World.block_lt_of_cell? X _ h;have ho:X.heap[g]? = some X.heap[g]:=Array.getElem?_eq_getElem hb;have:=U.1 g _ hg ho;rw[World.cell?_of_block (this.trans ho.symm)];exact h
def R6(base:Nat)(t:TypeId)(w:World)(o:Value)(l:List (Rat×Rat))(e:Ending)(w':World):Prop:=∃ r,e = .returned r∧EQ base t w' r l∧Ch (blk o) w w'∧∀ g∈blk r,g∈blk o∨w.heap.size≤g
end Go.Hp
namespace Go.Proofs.YtmhgnigpmompmaaGreat
open Go.RowKit Go.Hp
theorem bF:(Tryz.prog.info? 30).map (fun i=>(i.zero,i.size,i.bytes))=some (some (.agg #[.bool false,.slice none 0 0,.bool false,.slice none 0 0,.bool false,.slice none 0 0,.bool false,.slice none 0 0]),8,128):=by kernel_rfl
theorem UG(W:World)(base ty g:Nat)(v:Value)(l:List (Rat×Rat))(p q:Rat){b1 b2 b3 b4:Bool}{A1 A2 A3 A4:Option Addr}{n1 n2 n3 n4 c1 c2 c3 c4:Nat}(h:EQ base 30 W v l)
  (hq:Km W (.agg #[.bool b1,.slice A1 n1 c1,.bool b2,.slice A2 n2 c2,.bool b3,.slice A3 n3 c3,.bool b4,.slice A4 n4 c4]) p q) (hn:l.length≤1000000) (hb:base≤W.heap.size) (hg:g=W.heap.size) :
  ∃ v' w',(Builtin.append_ #[51,51] ty #[v,.slice (some ⟨g,0,none⟩) 1 1]).run Tryz.prog (W.alloc (.cells #[.bool b1,.slice A1 n1 c1,.bool b2,.slice A2 n2 c2,.bool b3,.slice A3 n3 c3,.bool b4,.slice A4 n4 c4] 30)) = .ok v' w' ∧
   (EQ base 30 w' v' (l ++ [(p,q)])∧Ch (blk v) W w'∧∀ g∈blk v',g∈blk v∨W.heap.size≤g):=by
 subst hg;obtain⟨i0,hi,hz0,hz1,hz2⟩:=info_parts bF;have hB:=Be.new W 30 #[.bool b1,.slice A1 n1 c1,.bool b2,.slice A2 n2 c2,.bool b3,.slice A3 n3 c3,.bool b4,.slice A4 n4 c4] (by simp[Ag]);have hx:=(Ext.refl W).alloc (.cells #[.bool b1,.slice A1 n1 c1,.bool b2,.slice A2 n2 c2,.bool b3,.slice A3 n3 c3,.bool b4,.slice A4 n4 c4] 30);obtain⟨v',w',a,b,c,d⟩:=BD.append_at (P:=Tryz.prog) (x:=(p,q)) (EQ.ext h hx) 51 ty i0 _ 128 Tryz.underlying51 hi hz0 hz1 hz2 rfl (by simp[nodig,Ag,Value.cells]) Ab ⟨W.heap.size,0,none⟩ 1
  #[.bool b1,.slice A1 n1 c1,.bool b2,.slice A2 n2 c2,.bool b3,.slice A3 n3 c3,.bool b4,.slice A4 n4 c4] rfl (hq.ext hx) hB.news (by simp[Value.oneCell']) (by simp[nodig,Ag]) (by simp only[maxLen];omega) Aa (Nat.le_trans hb hx.size) (fun _ _ _ k hq=>Km.kd hq k)
 refine⟨v',w',a,b,(Ch.of_ext hx).trans c,fun g hg=>?_⟩;rcases d g hg with q | q
 ·exact .inl q
 ·right;have:=hx.size;omega
set_option maxRecDepth 20000 in
set_option maxHeartbeats 8000000 in
theorem Um(a:World)(v:Value)(W:Nat→Rat)(P Q:Rat)(base S D M K N aP:Nat)(hv:RY base 23 a v W)(hC:LQ W S D M)(hK:Nv W (pd W) K)(hPQ:P < Q)(hP:qsz P≤aP)(hQ:qsz Q≤aP)
  (hdeep:∀ d p q,Hp.Node P Q d p q→N≤d→rc W p q≤1) (h0:∀ d p q,Hp.Node P Q d p q→0≤rc W p q) (ht:1+D*(M+(3*aP+N+4)+1)+M+(3*aP+N+4)+1≤100000000000) :
  ∀(n d:Nat) (p q:Rat) (u o:Value) (l:List (Rat×Rat)) (w:World),Hp.Node P Q d p q→N≤n+d→d≤N→Ext a w→Vw w u p q→EQ a.heap.size 30 w o l→l.length+(Jl (rc W) n p q).length≤1000 →
   Calls Tryz.prog 64 #[v,o,u] w (R6 a.heap.size 30 w o (l ++ Jl (rc W) n p q)):=by
 intro nn;induction nn using Nat.strongRecOn with
 | _ nn ih =>
  intro d p q u o l w hn hN hd hx hu ho hl;obtain⟨hp,hq⟩:=hn.qsz hP hQ;have hin:∀ X (x:Ext w X) y z,BQ X y p→BQ X z q→Calls Tryz.prog 51 #[v,y,z] X (Ad X fun r _=>r = .int .i64 (rc W p q)):=fun X x y z hy hz=>by
   have:=eH v y z W p q base S D M (3*aP+N+4) K X (hv.ext (hx.trans x)) hy hz hC hK Aa Aa Aa;have e:((V (F4 W (pd W) K) p:Nat):Int) - (V (F4 W (pd W) K) q:Nat)=rc W p q:=Ov hK p q;rw[e]at this;exact this
  obtain⟨A0,n0,c0,rfl⟩:=hv.cell;have hu':=hu;obtain⟨d1,A1,n1,c1,d2,A2,n2,c2,d3,A3,n3,c3,d4,A4,n4,c4,rfl,hu1,hu2⟩:=hu;obtain⟨Ao,co,rfl⟩:=ho.len;obtain⟨R,hR⟩:∃ R,R=rc W p q:=⟨_,rfl⟩
  have hR0:=h0 d p q hn;have hRd:=hdeep d p q hn;rw[←hR]at hin hR0 hRd;have HC:=Lib.hid (And.intro hin (And.intro hu1 (And.intro hu2 (And.intro hR (And.intro ho (And.intro hu' hx))))));clear hin hu1 hu2 hR ho hu' hx
  go_enter Tryz.func64,Tryz.ntmps64
  obtain⟨W1,eW1,ec,y1⟩:=Be.made w 92 #[.slice A0 n0 c0] (by simp[Ag]);obtain⟨W2,eW2,ea,y2⟩:=Be.made W1 30 #[.bool d1,.slice A1 n1 c1,.bool d2,.slice A2 n2 c2,.bool d3,.slice A3 n3 c3,.bool d4,.slice A4 n4 c4] (by simp[Ag]);have s1:W1.heap.size=w.heap.size+1:=by rw[eW1,World.size_alloc]
  rw[s1]at ea;have hx:=y1.trans y2;replace ec:=ec.ext y2
  go_upto_region 1 with(fail)
  rw[←eW1,←eW2];clear eW1 eW2 y1 y2 s1;obtain⟨cea0,cea1,cea2,cea3,cea4,cea5,cea6,cea7⟩:=ea.cells8;have fea:=ea.frozen;have cec0:=ec.cells1
  go_wp2_with fail
  refine Calls.mono (HC.out.1 _ hx _ _ (HC.out.2.1.ext hx) (HC.out.2.2.1.ext hx)) ?_;rintro e w4 ⟨r4,rfl,rfl,hx4⟩;clear cea0 cea1 cea2 cea3 cea4 cea5 cea6 cea7 fea cec0;replace ea:=ea.ext hx4;replace ec:=ec.ext hx4;replace hx:=hx.trans hx4;clear hx4;have fin0:R=0→R6 a.heap.size 30 w (.slice Ao l.length co) (l ++ Jl (rc W) nn p q) (.returned (.slice Ao l.length co)) w4:=fun h=>by
   rw[Mj (by rw[←HC.out.2.2.2.1];exact h),List.append_nil];exact⟨_,rfl,HC.out.2.2.2.2.1.ext hx,Ch.of_ext hx,fun g hg => .inl hg⟩
  have H0:=Lib.hid fin0;clear fin0;by_cases hz:R=0
  ·have hb:(R==0)=true:=by simpa using hz
   have HF:=Lib.hid (H0.out hz);clear hz;go_wp2
   go_ret
   exact HF.out
  clear H0;have hb0:(R==0)=false:=by simpa using hz
  by_cases hone:R=1
  ·have hb1:(R==1)=true:=by simpa using hone
   have H1:=Lib.hid hone;have hl9:l.length≤1000000:=by omega
   clear hone hz hl;have hsz4:=hx.size;have has:=HC.out.2.2.2.2.2.2.size;obtain⟨cea0,cea1,cea2,cea3,cea4,cea5,cea6,cea7⟩:=ea.cells8;have fea:=ea.frozen
   go_wp2_with fail
   refine Calls.mono (Wt _ _ p q _ (HC.out.2.1.ext hx) (HC.out.2.2.1.ext hx)) ?_;rintro e w5 ⟨r5,rfl,hr5,hx5⟩;have hx6:=hx.trans hx5;clear cea0 cea1 cea2 cea3 cea4 cea5 cea6 cea7 fea ea ec hx5 hx;obtain⟨e1,B1,m1,k1,e2,B2,m2,k2,e3,B3,m3,k3,e4,B4,m4,k4,rfl⟩:=hr5.cells;have H5:=Lib.hid hr5;clear hr5;have hsz5:=hx6.size
   go_wp2_with (at_builtin;refine AB rfl _ _ 51 rfl (.slice Ao l.length co) (.slice (some ⟨w5.heap.size,0,none⟩) 1 1) rfl rfl (UG w5 a.heap.size _ _ _ l p q (HC.out.2.2.2.2.1.ext hx6) H5.out hl9 Aa rfl) ?_)
   intro v' w7 hown U hat;have HF:R6 a.heap.size 30 w (.slice Ao l.length co) (l ++ Jl (rc W) nn p q) (.returned v') w7:=by
    rw[Ku (by rw[←HC.out.2.2.2.1];exact H1.out)];exact⟨_,rfl,hown,(Ch.of_ext hx6).trans U,fun g hg=>(hat g hg).imp id fun q=>Aa⟩
   have HF:=Lib.hid HF;clear hown U hat;go_wp2
   go_ret
   exact HF.out
  ·have hb1:(R==1)=false:=by simpa using hone
   have hR2:2≤R:=by omega
   have hdN:d < N:=by
    rcases Nat.lt_or_ge d N with q | q
    ·exact q
    ·have:=hRd q;omega
   obtain⟨n,rfl⟩:∃ n,nn=n+1:=⟨nn - 1,Aa⟩
   replace ih:=ih n Aa;obtain⟨m,hm⟩:∃ m,m=(p+q) / 2:=⟨_,rfl⟩
   have hiso:Jl (rc W) (n+1) p q=Jl (rc W) n p m ++ Jl (rc W) n m q:=by
    rw[hm];exact MO (by rw[←HC.out.2.2.2.1];exact hz) (by rw[←HC.out.2.2.2.1];exact hone)
   obtain⟨n1',n2'⟩:=hn.half;rw[←hm]at n1' n2';obtain⟨hmq,-⟩:=n2'.qsz hP hQ;have hmid:∀ X (x:Ext w X),Calls Tryz.prog 112 #[.agg #[.bool d1,.slice A1 n1 c1,.bool d2,.slice A2 n2 c2,.bool d3,.slice A3 n3 c3,.bool d4,.slice A4 n4 c4]] X (Ad X fun r w'=>Bw w' r m):=fun X x=>by
    have:=Wm _ p q (3*aP+N+4) X (HC.out.2.2.2.2.2.1.ext x) Aa Aa Aa;rw[←hm]at this;exact this
   have HM:=Lib.hid (And.intro hmid (And.intro hiso (And.intro n1' (And.intro n2' (show qsz m≤274877906944 by omega)))));clear hmid hiso n1' n2' hmq hm;have HL:=Lib.hid hl;clear hR0 hRd hz hone hl hp hq hn hR2;obtain⟨cea0,cea1,cea2,cea3,cea4,cea5,cea6,cea7⟩:=ea.cells8;have fea:=ea.frozen
   go_wp2_with fail
   refine Calls.mono (HM.out.1 _ hx) ?_;rintro e w5 ⟨r5,rfl,hr5,hx5⟩;obtain⟨e1,B1,m1,k1,e2,B2,m2,k2,rfl⟩:=hr5.cells;clear cea0 cea1 cea2 cea3 cea4 cea5 cea6 cea7 fea;replace ea:=ea.ext hx5;replace ec:=ec.ext hx5;replace hx:=hx.trans hx5;clear hx5;obtain⟨W6,eW6,em,y6⟩:=Be.made w5 28 #[.bool e1,.slice B1 m1 k1,.bool e2,.slice B2 m2 k2] (by simp[Ag]);have hmm:=(hr5.ext y6).has HM.out.2.2.2.2;have hgm:=ea.lt
   replace ea:=ea.ext y6;replace ec:=ec.ext y6;replace hx:=hx.trans y6;clear y6
   go_upto_region 7 with(fail)
   rw[←eW6];clear eW6 hr5;generalize w5.heap.size=gm at *;have HX:=Lib.hid (And.intro hmm hx);clear hmm;have hos:∀ g∈blk (.slice Ao l.length co),g < w.heap.size:=fun g hg=>(BD.blk_ge HC.out.2.2.2.2.1 g hg).2;have HO:=Lib.hid hos;clear hos;have hsz6:=hx.size;have ha6:=HC.out.2.2.2.2.2.2.size;have hlen:(Jl (rc W) n p m).length+(Jl (rc W) n m q).length+l.length≤1000:=by
    have h1:=HL.out;rw[HM.out.2.1,List.length_append]at h1;omega
   have HLn:=Lib.hid hlen;clear hlen;have hcall1:∀ X,Ext W6 X→Calls Tryz.prog 64 #[.agg #[.slice A0 n0 c0],.slice Ao l.length co,.agg #[.bool d1,.slice A1 n1 c1,.bool d2,.slice A2 n2 c2,.bool e1,.slice B1 m1 k1,.bool e2,.slice B2 m2 k2]] X
     (R6 a.heap.size 30 X (.slice Ao l.length co) (l ++ Jl (rc W) n p m)):=fun X x =>
    ih (d+1) p m _ _ l X HM.out.2.2.1 Aa Aa (HC.out.2.2.2.2.2.2.trans (HX.out.2.trans x)) ⟨_,_,_,_,_,_,_,_,_,_,_,_,_,_,_,_,rfl,HC.out.2.1.ext (HX.out.2.trans x),HX.out.1.ext x⟩ (HC.out.2.2.2.2.1.ext (HX.out.2.trans x)) (by have:=HLn.out;omega)
   have hcall2:∀ X r,KD W6 X→Ext a X→EQ a.heap.size 30 X r (l ++ Jl (rc W) n p m)→Calls Tryz.prog 64 #[.agg #[.slice A0 n0 c0],r,.agg #[.bool e1,.slice B1 m1 k1,.bool e2,.slice B2 m2 k2,.bool d3,.slice A3 n3 c3,.bool d4,.slice A4 n4 c4]] X
     (R6 a.heap.size 30 X r (l ++ Jl (rc W) n p m ++ Jl (rc W) n m q)):=fun X r k x hr =>
    ih (d+1) m q _ _ _ X HM.out.2.2.2.1 Aa Aa x ⟨_,_,_,_,_,_,_,_,_,_,_,_,_,_,_,_,rfl,HX.out.1.kd k,(HC.out.2.2.1.ext HX.out.2).kd k⟩ hr (by have:=HLn.out;rw[List.length_append];omega)
   have HK:=Lib.hid (And.intro hcall1 hcall2);clear hcall1 hcall2;obtain⟨cea0,cea1,cea2,cea3,cea4,cea5,cea6,cea7⟩:=ea.cells8;have fea:=ea.frozen;obtain⟨cem0,cem1,cem2,cem3⟩:=em.cells4;have fem:=em.frozen;have cec0:=ec.cells1;have hkeep:∀(G:List Nat) (X Y:World),Ch G X Y→(∀ g∈G,g < w.heap.size∨W6.heap.size≤g)→(X.cell? ⟨w.heap.size+1,0,none⟩=some (.bool d1)∧X.cell? ⟨w.heap.size+1,1,none⟩=some (.slice A1 n1 c1)∧X.cell? ⟨w.heap.size+1,2,none⟩=some (.bool d2)∧X.cell? ⟨w.heap.size+1,3,none⟩=some (.slice A2 n2 c2)∧X.cell? ⟨w.heap.size+1,4,none⟩=some (.bool d3)∧X.cell? ⟨w.heap.size+1,5,none⟩=some (.slice A3 n3 c3)∧X.cell? ⟨w.heap.size+1,6,none⟩=some (.bool d4)∧X.cell? ⟨w.heap.size+1,7,none⟩=some (.slice A4 n4 c4)∧X.cell? ⟨gm,0,none⟩=some (.bool e1)∧X.cell? ⟨gm,1,none⟩=some (.slice B1 m1 k1)∧X.cell? ⟨gm,2,none⟩=some (.bool e2)∧X.cell? ⟨gm,3,none⟩=some (.slice B2 m2 k2)∧X.cell? ⟨w.heap.size,0,none⟩=some (.slice A0 n0 c0))→(Y.cell? ⟨w.heap.size+1,0,none⟩=some (.bool d1)∧Y.cell? ⟨w.heap.size+1,1,none⟩=some (.slice A1 n1 c1)∧Y.cell? ⟨w.heap.size+1,2,none⟩=some (.bool d2)∧Y.cell? ⟨w.heap.size+1,3,none⟩=some (.slice A2 n2 c2)∧Y.cell? ⟨w.heap.size+1,4,none⟩=some (.bool d3)∧Y.cell? ⟨w.heap.size+1,5,none⟩=some (.slice A3 n3 c3)∧Y.cell? ⟨w.heap.size+1,6,none⟩=some (.bool d4)∧Y.cell? ⟨w.heap.size+1,7,none⟩=some (.slice A4 n4 c4)∧Y.cell? ⟨gm,0,none⟩=some (.bool e1)∧Y.cell? ⟨gm,1,none⟩=some (.slice B1 m1 k1)∧Y.cell? ⟨gm,2,none⟩=some (.bool e2)∧Y.cell? ⟨gm,3,none⟩=some (.slice B2 m2 k2)∧Y.cell? ⟨w.heap.size,0,none⟩=some (.slice A0 n0 c0)):=fun G X Y U hG ⟨a0,a1,a2,a3,a4,a5,a6,a7,b0,b1,b2,b3,c0⟩=>by
    have gl1:=ea.lt;have gl2:=em.lt;have gl3:=ec.lt;have q:∀ g i x,(w.heap.size≤g∧g < W6.heap.size)→X.cell? ⟨g,i,none⟩=some x→Y.cell? ⟨g,i,none⟩=some x:=fun g i x hg hc=>Vu U (fun hm=>by rcases hG g hm with z | z<;>omega) hc;exact⟨q _ _ _ Aa a0,q _ _ _ Aa a1,q _ _ _ Aa a2,q _ _ _ Aa a3,q _ _ _ Aa a4,q _ _ _ Aa a5,q _ _ _ Aa a6,q _ _ _ Aa a7,q _ _ _ Aa b0,q _ _ _ Aa b1,q _ _ _ Aa b2,q _ _ _ Aa b3,q _ _ _ Aa c0⟩
   have HE:=Lib.hid hkeep;clear hkeep;have hS0:W6.cell? ⟨w.heap.size+1,0,none⟩=some (.bool d1)∧W6.cell? ⟨w.heap.size+1,1,none⟩=some (.slice A1 n1 c1)∧W6.cell? ⟨w.heap.size+1,2,none⟩=some (.bool d2)∧W6.cell? ⟨w.heap.size+1,3,none⟩=some (.slice A2 n2 c2)∧W6.cell? ⟨w.heap.size+1,4,none⟩=some (.bool d3)∧W6.cell? ⟨w.heap.size+1,5,none⟩=some (.slice A3 n3 c3)∧W6.cell? ⟨w.heap.size+1,6,none⟩=some (.bool d4)∧W6.cell? ⟨w.heap.size+1,7,none⟩=some (.slice A4 n4 c4)∧W6.cell? ⟨gm,0,none⟩=some (.bool e1)∧W6.cell? ⟨gm,1,none⟩=some (.slice B1 m1 k1)∧W6.cell? ⟨gm,2,none⟩=some (.bool e2)∧W6.cell? ⟨gm,3,none⟩=some (.slice B2 m2 k2)∧W6.cell? ⟨w.heap.size,0,none⟩=some (.slice A0 n0 c0):=⟨cea0,cea1,cea2,cea3,cea4,cea5,cea6,cea7,cem0,cem1,cem2,cem3,cec0⟩
   have hS1:W6.drew.cell? ⟨w.heap.size+1,0,none⟩=some (.bool d1)∧W6.drew.cell? ⟨w.heap.size+1,1,none⟩=some (.slice A1 n1 c1)∧W6.drew.cell? ⟨w.heap.size+1,2,none⟩=some (.bool d2)∧W6.drew.cell? ⟨w.heap.size+1,3,none⟩=some (.slice A2 n2 c2)∧W6.drew.cell? ⟨w.heap.size+1,4,none⟩=some (.bool d3)∧W6.drew.cell? ⟨w.heap.size+1,5,none⟩=some (.slice A3 n3 c3)∧W6.drew.cell? ⟨w.heap.size+1,6,none⟩=some (.bool d4)∧W6.drew.cell? ⟨w.heap.size+1,7,none⟩=some (.slice A4 n4 c4)∧W6.drew.cell? ⟨gm,0,none⟩=some (.bool e1)∧W6.drew.cell? ⟨gm,1,none⟩=some (.slice B1 m1 k1)∧W6.drew.cell? ⟨gm,2,none⟩=some (.bool e2)∧W6.drew.cell? ⟨gm,3,none⟩=some (.slice B2 m2 k2)∧W6.drew.cell? ⟨w.heap.size,0,none⟩=some (.slice A0 n0 c0):=HE.out [] W6 W6.drew (Ch.of_ext (Ext.refl W6).drew) (fun g hg=>by cases hg) hS0
   clear hS0 cea0 cea1 cea2 cea3 cea4 cea5 cea6 cea7 cem0 cem1 cem2 cem3 cec0 fea fem;clear ih hC hK hPQ hP hQ hdeep h0 ht hN hd hdN hv
   go_region_held3 (fun w'=>w'.cell? ⟨w.heap.size+1,0,none⟩=some (.bool d1)∧w'.cell? ⟨w.heap.size+1,1,none⟩=some (.slice A1 n1 c1)∧w'.cell? ⟨w.heap.size+1,2,none⟩=some (.bool d2)∧w'.cell? ⟨w.heap.size+1,3,none⟩=some (.slice A2 n2 c2)∧w'.cell? ⟨w.heap.size+1,4,none⟩=some (.bool d3)∧w'.cell? ⟨w.heap.size+1,5,none⟩=some (.slice A3 n3 c3)∧w'.cell? ⟨w.heap.size+1,6,none⟩=some (.bool d4)∧w'.cell? ⟨w.heap.size+1,7,none⟩=some (.slice A4 n4 c4)∧w'.cell? ⟨gm,0,none⟩=some (.bool e1)∧w'.cell? ⟨gm,1,none⟩=some (.slice B1 m1 k1)∧w'.cell? ⟨gm,2,none⟩=some (.bool e2)∧w'.cell? ⟨gm,3,none⟩=some (.slice B2 m2 k2)∧w'.cell? ⟨w.heap.size,0,none⟩=some (.slice A0 n0 c0))
    (first | (exact HE.out _ _ _ U2 hG2 (by assumption)) | (exact HE.out _ _ _ U1 hG1 (by assumption)) | (exact hS1))
    ((first
     | (have hU1:=U1;clear hU1;go_at_call 64;refine Calls.mono (HK.out.2 _ _ (((KD.refl W6).drew).trans U1.kd) (U1.from_ (HC.out.2.2.2.2.2.2.trans hx).drew fun g hg=>(BD.blk_ge HC.out.2.2.2.2.1 g hg).1) hown1) ?_;rintro e w2 ⟨r2,rfl,hown2,U2,hat2⟩;have hG2:∀ g∈blk r1,g < w.heap.size∨W6.heap.size≤g:=fun g hg=>(hat1 g hg).imp (HO.out g) id)
     | (go_at_call 64;refine Calls.mono (HK.out.1 W6.drew (Ext.refl W6).drew) ?_;rintro e w1 ⟨r1,rfl,hown1,U1,hat1⟩;have hG1:∀ g∈blk (.slice Ao l.length co),g < w.heap.size∨W6.heap.size≤g:=fun g hg=>Or.inl (HO.out g hg))))
   have hgm1:w1.heap.size > gm:=by
    have hne:gm∉blk (.slice Ao l.length co):=fun hm=>by have:=HO.out _ hm;omega
    exact(Array.getElem?_eq_some_iff.1 (U1.1 gm _ hne em.1)).1
   have UA:Ch (blk (.slice Ao l.length co)) w w1:=(Ch.of_ext hx.drew).trans U1;have HF:R6 a.heap.size 30 w (.slice Ao l.length co) (l ++ Jl (rc W) (n+1) p q) (.returned r2) w2:=by
    rw[HM.out.2.1,←List.append_assoc];refine⟨r2,rfl,hown2,UA.new_trans U2 fun g hg=>(hat1 g hg).imp id fun z=>Nat.le_trans hsz6 z,fun g hg=>?_⟩;rcases hat2 g hg with z | z
    ·exact(hat1 g z).imp id fun z=>Nat.le_trans hsz6 z
    ·right;omega
   have HFF:=Lib.hid HF;clear HF UA hown1 hown2 U1 U2 hat1 hat2 hG1 hG2;go_wp2
   go_ret
   exact HFF.out
end Go.Proofs.YtmhgnigpmompmaaGreat
namespace Go.Hp
open Go.RowKit
theorem aU(q:Rat):(ab q).num=(q.num.natAbs:Nat)∧(ab q).den=q.den:=by
 unfold ab
 split
 ·rename_i h
  have h1:=K8 (q:=-q);have h2:(-q).num = -q.num:=rfl;have h3:0 < -q:=by grind
  have:=h1.2 h3;exact⟨Aa,rfl⟩
 ·rename_i h
  have:0≤q.num:=Rat.num_nonneg.2 Aj;exact⟨Aa,rfl⟩
theorem Be.put42{w:World}{g:Nat}{t:TypeId}{a b c d:Value}(h:Be w g t #[a,b,c,d])(u v:Value)(hu:Ag u=false)(hv:Ag v=false) :
  ∃ W,W=(w.setCell ⟨g,0,none⟩ u).setCell ⟨g,1,none⟩ v∧Be W g t #[u,v,c,d]∧Ch [g] w W:=
 ⟨_,rfl,(h.set_ 0 hu).set_ 1 hv,(Ch.set_ h.nodig 0 u).trans (Ch.set_ (h.set_ 0 hu).nodig 1 v)⟩
end Go.Hp
namespace Go.Proofs.YtmhgnigpmompmaaGreat
open Go.RowKit Go.Hp
set_option maxRecDepth 20000 in
set_option maxHeartbeats 4000000 in
theorem Zf(v:Value)(q:Rat)(w:World)(hv:BQ w v q)(hs:qsz q≤274877906944):Calls Tryz.prog 121 #[v] w (Ad w fun r w'=>Bw w' r (ab q)):=by
 have HV:=Lib.hid hv;obtain⟨b,B,m1,e1,b',B',m1',e1',x0,y0,rfl,-⟩:=hv.form;clear hv;have hsn:sz q.num.natAbs≤274877906944:=by have:=Fx q;omega
 have HS:=Lib.hid hsn;clear hs hsn
 go_enter Tryz.func121,Tryz.ntmps121
 obtain⟨W1,eW1,ea,y1⟩:=Be.made w 28 #[.bool b,.slice B m1 e1,.bool b',.slice B' m1' e1'] (by simp[Ag]);obtain⟨W2,eW2,ez,y2⟩:=Be.made W1 28 #[.bool false,.slice none 0 0,.bool false,.slice none 0 0] (by simp[Ag]);have s1:W1.heap.size=w.heap.size+1:=by rw[eW1,World.size_alloc]
 rw[s1]at ez;have hx:=y1.trans y2;replace ea:=ea.ext y2
 go_upto_region 1 with(fail)
 rw[←eW1,←eW2];clear eW1 eW2 y1 y2 s1;obtain⟨cea0,cea1,cea2,cea3⟩:=ea.cells4;have fea:=ea.frozen
 go_wp2_with fail
 refine Calls.mono (Gn _ q _ (HV.out.ext hx)) ?_;rintro e w3 ⟨r3,rfl,hr3,hx3⟩;obtain⟨b5,A5,n5,c5,b6,A6,n6,c6,rfl⟩:=hr3.cells;clear cea0 cea1 cea2 cea3 fea;replace ea:=ea.ext hx3;replace ez:=ez.ext hx3;replace hx:=hx.trans hx3;clear hx3;obtain⟨cea0,cea1,cea2,cea3⟩:=ea.cells4;have fea:=ea.frozen
 go_upto_region 2 with(fail)
 obtain⟨W4,eW,ea',U⟩:=ea.put4 (.bool b5) (.slice A5 n5 c5) (.bool b6) (.slice A6 n6 c6) rfl rfl rfl rfl;rw[←eW];clear eW ea;replace hr3:=hr3.kd U.kd;replace ez:=ez.upd U Ai;replace hx:=U.from_ hx Ai;have ea:=ea';clear U ea';have hnd:AC W4 (.agg #[.bool b5,.slice A5 n5 c5]) q.num∧AC W4 (.agg #[.bool b6,.slice A6 n6 c6]) (q.den:Nat):=by
  obtain⟨_,_,_,_,_,_,_,_,e,h1,h2⟩:=hr3;cases e;exact⟨h1,h2⟩
 have HN:=Lib.hid hnd;clear hnd hr3;clear cea0 cea1 cea2 cea3 fea;obtain⟨cea0,cea1,cea2,cea3⟩:=ea.cells4;have fea:=ea.frozen
 go_wp2_with fail
 refine Calls.mono (dO _ q.num _ (HN.out.1.has (by have:=HS.out;omega))) ?_;rintro e w5 ⟨r5,rfl,hr5,hx5⟩;obtain⟨b7,A7,n7,c7,rfl⟩:=hr5.cells;have HD:=Lib.hid (And.intro hr5 (HN.out.2.ext hx5));clear cea0 cea1 cea2 cea3 fea HN hr5;replace ea:=ea.ext hx5;replace ez:=ez.ext hx5;replace hx:=hx.trans hx5;clear hx5;obtain⟨cea0,cea1,cea2,cea3⟩:=ea.cells4;have fea:=ea.frozen
 go_upto_region 3 with(fail)
 obtain⟨W6,eW6,ea',U⟩:=ea.put42 (.bool b7) (.slice A7 n7 c7) rfl rfl;rw[←eW6];have HE:=Lib.hid (And.intro (HD.out.1.kd U.kd) (HD.out.2.kd U.kd));replace ez:=ez.upd U Ac;replace hx:=U.from_ hx Ac;clear eW6 ea cea0 cea1 cea2 cea3 fea HD U;have ea:=ea';clear ea';obtain⟨cea0,cea1,cea2,cea3⟩:=ea.cells4;have fea:=ea.frozen;obtain⟨cez0,cez1,cez2,cez3⟩:=ez.cells4;have fez:=ez.frozen;have hq:Bw W6 (.agg #[.bool b7,.slice A7 n7 c7,.bool b6,.slice A6 n6 c6]) (ab q):=by
  obtain⟨h1,h2⟩:=aU q;exact⟨_,_,_,_,_,_,_,_,rfl,by rw[h1];exact HE.out.1,by rw[h2];exact HE.out.2⟩
 have Hq:=Lib.hid hq;clear hq HE;go_wp2;have hr:=Hq.out;obtain⟨W8,eW,ez',U⟩:=ez.put4 (.bool b7) (.slice A7 n7 c7) (.bool b6) (.slice A6 n6 c6) rfl rfl rfl rfl;rw[←eW];clear eW ez;replace hr:=hr.kd U.kd;replace hx:=U.from_ hx Ai;have ez:=ez';clear U ez';clear cez0 cez1 cez2 cez3 fez;obtain⟨cez0,cez1,cez2,cez3⟩:=ez.cells4;have fez:=ez.frozen;refine bodyPost_ret (v := .agg #[.bool b7,.slice A7 n7 c7,.bool b6,.slice A6 n6 c6]) (by simp[results,Tryz.results121,go_sem,cez0,cez1,cez2,cez3]) rfl ?_
 exact Ad.mk hr hx
end Go.Proofs.YtmhgnigpmompmaaGreat
namespace Go.Hp
open Go.RowKit
theorem Vd(x y:Int):ab (Rat.divInt x y)=Rat.divInt (x.natAbs:Nat) (y.natAbs:Nat):=by
 have key:∀ n m:Nat,ab (Rat.divInt (n:Int) (m:Int))=Rat.divInt (n:Int) (m:Int):=fun n m=>by
  have:0≤Rat.divInt (n:Int) (m:Int):=Rat.divInt_nonneg Aa Aa;unfold ab;rw[if_neg Aj]
 rcases Int.natAbs_eq x with hx | hx<;>rcases Int.natAbs_eq y with hy | hy
 ·rw[hx,hy,key];simp
 ·rw[hx,hy,Rat.divInt_neg',←Rat.neg_divInt,GZ,key];simp
 ·rw[hx,hy,←Rat.neg_divInt,GZ,key];simp
 ·rw[hx,hy,Rat.divInt_neg',←Rat.neg_divInt,←Rat.neg_divInt,GZ,GZ,key];simp
end Go.Hp
namespace Go.Proofs.YtmhgnigpmompmaaGreat
open Go.RowKit Go.Hp
set_option maxHeartbeats 1000000 in
theorem ZM(v:Value)(q:Rat)(w:World)(hv:BQ w v q):Calls Tryz.prog 76 #[v] w (Ad w fun r w'=>Bw w' r (ab q)):=by
 obtain⟨b,A,n,c,b',A',n',c',x,y,rfl,hx,hy,sx,sy,hq⟩:=hv.form;have HX:=Lib.hid hx;have HY:=Lib.hid hy;clear hx hy hv;have hab:ab q=Rat.divInt (x.natAbs:Nat) (y.natAbs:Nat):=by rw[hq];exact Vd x y
 rw[hab];clear hq hab
 go_enter Tryz.func76,Tryz.ntmps76
 go_wp2_with fail
 refine Ae 6 [3,4,5,6,7,8] [[],[0],[0,1],[],[3],[0,1,2,3,4],[0,1,2,3,4,5],[0,1,2,3,4,5,6]] [1] [_] [(kv ?_),(kv ?_),(fun γ=>γ 2),(kv ?_),(kv ?_),(fun γ=>γ 5)] (fun γ w'=>[True,True,AC w' (γ 2) (x.natAbs:Nat),True,True,AC w' (γ 5) (y.natAbs:Nat)]) Bd Ah Ah Bb Ah Bc Bg ?hstep1 ?_
 case hstep1 =>
  iterate 6 refine⟨?_,?_⟩
  trivial
  iterate 2 focus
   intro γ w' he hf;clear hf;refine⟨by trivial,?_⟩;intro R hR;have hc:=he.cells;go_simp;refine hR _ _ (Ext.refl _) ?_ trivial;rfl
  ·intro γ w' he hf;clear hf;refine⟨trivial,?_⟩;intro R hR
   go_simp;exact AX (Qu _ x w' (HX.out.ext he.a2)) hR
  iterate 2 focus
   intro γ w' he hf;clear hf;refine⟨by trivial,?_⟩;intro R hR;have hc:=he.cells;go_simp;refine hR _ _ (Ext.refl _) ?_ trivial;rfl
  ·intro γ w' he hf;clear hf;refine⟨trivial,?_⟩;intro R hR
   go_simp;exact AX (Qu _ y w' (HY.out.ext he.a2)) hR
 intro γ w1 hx1 hF;have p2:AC w1 (γ 2) (x.natAbs:Nat):=Au.get hF 2 Ab;have p5:AC w1 (γ 5) (y.natAbs:Nat):=Au.get hF 5 Ab;clear hF;simp only[AZ,Nat.reduceAdd];generalize γ 2=g2 at *;generalize γ 5=g5 at *;clear γ
 go_wp2_with fail
 refine Calls.mono (Ha _ _ _ _ _ (p2.has CY) (p5.has CY) CY CY) ?_;rintro e w2 ⟨r,rfl,hr,hx2⟩;replace hx1:=hx1.trans hx2;clear hx2 p2 p5;obtain⟨b5,A5,n5,c5,b6,A6,n6,c6,rfl⟩:=hr.cells;have hc1:=hx1.cells;have hf1:=hx1.frozens;have Hfin:=Lib.hid (Cs hr hx1.a2 (AL.at_ hx1 (g:=w.heap.size+1) Ac (by simp[Ag])) Aa);clear hr;go_wp2;refine bodyPost_ret (v := .agg #[.bool b5,.slice A5 n5 c5,.bool b6,.slice A6 n6 c6]) (by simp[results,Tryz.results76,go_sem,hc1]) rfl ?_
 exact Hfin.out
end Go.Proofs.YtmhgnigpmompmaaGreat
namespace Go.Hp
theorem Xz(p q:Rat):ab (p / q)=ab p / ab q:=by
 by_cases h:q=0
 ·rw[h,Dp,Rat.div_def,Rat.div_def,Rat.inv_zero,Rat.mul_zero,Rat.mul_zero];decide
 ·have h1:p / q*q=p:=by grind
  have h2:ab (p / q)*ab q=ab p:=by rw[←Cf,h1]
  have h3:ab q≠0:=fun e=>h (TV.1 e);grind
theorem Mh{p q:Rat}:decide (KA (p - q)≤0)=decide (p≤q):=by
 rw[O5];unfold BA;by_cases h:p≤q
 ·rw[if_neg Aj,decide_eq_true h]
  split<;>rfl
 ·rw[decide_eq_false h,if_pos Aj];rfl
theorem Gl(n:Nat):(((2:Int)^n:Int):Rat)=2^n:=by push_cast;rfl
theorem EH{p q:Rat}:decide (KA (p - q) > 0)=decide (q < p):=by
 rw[O5];unfold BA;by_cases h:q < p
 ·rw[if_pos Aj,decide_eq_true h];rfl
 ·rw[decide_eq_false h,if_neg Aj]
  split<;>rfl
theorem P2.qsz{r:Rat}{s:Nat}(h0:0≤r)(h:Hp.qsz r≤s):∃ J,P2 r J∧J≤32*s+1:=by
 have h1:=(Mf h).1;rw[Dw h0,Bt]at h1;have key:∀ m,r < 2^m→∃ J,P2 r J∧J≤m:=by
  intro m;induction m with
  | zero=>intro h;exact⟨0,⟨h,fun i hi=>Aa⟩,Nat.le_refl _⟩
  | succ m ih =>
   intro h;by_cases h2:r < 2^m
   ·obtain⟨J,a,b⟩:=ih h2;exact⟨J,a,Aa⟩
   ·exact⟨m+1,⟨h,fun i hi=>by have:=Mk (show i≤m by omega);grind⟩,Nat.le_refl _⟩
 refine key (32*s+1) ?_;rw[Rat.pow_succ];have:=Ce (32*s);rw[Bt]at this ⊢;grind
end Go.Hp
namespace Go.Proofs.YtmhgnigpmompmaaGreat
open Go.RowKit Go.Hp
set_option maxRecDepth 20000 in
set_option maxHeartbeats 8000000 in
theorem YH(v:Value)(F:Nat→Rat)(s:Nat)(w:World)(hv:AQ 0 w v F)(zF:ZI F)(fF:Af F)(h0:F≠pz)(hs:∀ i,qsz (F i)≤s)(hs9:s≤1000000)(hn:pl F≤1000) :
  Calls Tryz.prog 67 #[v] w (Ad w fun r w'=>∃ j,P2 (En F (pl F - 1)+1) j∧AC w' r (2^j)):=by
 have hp:=AY fF h0;obtain⟨A,c,l,rfl,k1,k2,hA,k3,k4,k5⟩:=hv.form;have HA:=Lib.hid (And.intro hA (And.intro k3 k5));clear hA k3 k4 k5 hv
 go_enter Tryz.func67,Tryz.ntmps67
 obtain⟨W1,eW1,ez,y1⟩:=Be.made w 26 #[.bool false,.slice none 0 0] (by simp[Ag])
 go_upto_region 1 with(fail)
 rw[←eW1];clear eW1;have hx:=y1
 go_wp2_with fail
 refine Calls.mono (X5 1 _ Aa Aa) ?_;rintro e w2 ⟨r2,rfl,hr2,hx2⟩;obtain⟨b5,A5,n5,c5,b6,A6,n6,c6,rfl⟩:=hr2.cells;replace ez:=ez.ext hx2;replace hx:=hx.trans hx2;clear hx2;obtain⟨W3,eW3,el,y3⟩:=Be.made w2 28 #[.bool b5,.slice A5 n5 c5,.bool b6,.slice A6 n6 c6] (by simp[Ag]);have hl:=CL.mk el (hr2.ext y3);have hgl:=ez.lt;replace ez:=ez.ext y3;replace hx:=hx.trans y3;clear y3;clear hr2 el
 go_upto_region 2 with(fail)
 rw[←eW3];clear eW3;generalize w2.heap.size=gl at *;have hld:ld F=(l[pl F - 1]'(by have:=HA.out.2.1;omega):Rat):=by rw[←Cr,HA.out.2.2];rfl
 have hls:=hs (pl F - 1);obtain⟨g,o,b,A2,n2,c2,rfl,h64,q0,q1,hq⟩:=HA.out.1.at_ (j:=pl F - 1) (by have:=HA.out.2.1;omega);have hqh:Bj w (.agg #[.bool b,.slice A2 n2 c2]) (l[pl F - 1]'(by have:=HA.out.2.1;omega)):=hq.has (by
  have h1:F (pl F - 1)=(l[pl F - 1]'(by have:=HA.out.2.1;omega):Rat):=hld;rw[h1,Ba]at hls;omega)
 have hqq:qsz ((l[pl F - 1]'(by have:=HA.out.2.1;omega):Rat))≤274877906944:=by
  have h1:F (pl F - 1)=(l[pl F - 1]'(by have:=HA.out.2.1;omega):Rat):=hld;rw[h1]at hls;omega
 obtain⟨y,hy⟩:∃ y,y=(l[pl F - 1]'(by have:=HA.out.2.1;omega)):=⟨_,rfl⟩
 rw[←hy]at hld hqh hqq;have HQ:=Lib.hid (And.intro hqh (And.intro hqq hld));clear hqh hqq hld hy hq hls;replace q0:=hx.cell q0;replace q1:=hx.cell q1
 go_wp2_with fail
 refine Calls.mono (GX _ y _ (HQ.out.1.ext hx)) ?_;rintro e w4 ⟨r4,rfl,hr4,hx4⟩;clear q0 q1;replace ez:=ez.ext hx4;replace hl:=hl.ext hx4;replace hx:=hx.trans hx4;clear hx4
 go_wp2_with fail
 refine Calls.mono (Zf _ _ _ (hr4.has HQ.out.2.1) HQ.out.2.1) ?_;rintro e w5 ⟨r5,rfl,hr5,hx5⟩;obtain⟨b7,A7,n7,c7,b8,A8,n8,c8,rfl⟩:=hr5.cells;replace ez:=ez.ext hx5;replace hl:=hl.ext hx5;replace hx:=hx.trans hx5;clear hx5;obtain⟨W6,eW6,ed,y6⟩:=Be.made w5 28 #[.bool b7,.slice A7 n7 c7,.bool b8,.slice A8 n8 c8] (by simp[Ag]);have hd:=CL.mk ed (hr5.ext y6);rw[←HQ.out.2.2]at hd;have hgd:=hl.lt;replace ez:=ez.ext y6
 replace hl:=hl.ext y6;replace hx:=hx.trans y6;clear y6;clear hr4 hr5 ed
 go_upto_region 3 with(fail)
 rw[←eW6];clear eW6;generalize w5.heap.size=gd at *;obtain⟨N,hN⟩:∃ N,pl F=N+1:=⟨pl F - 1,Aa⟩
 have e1:En F 0+1=((1:Int):Rat):=by show(0:Rat)+1=1;grind
 rw[←e1]at hl;have HN:=Lib.hid hN;rw[hN]at hn k1 ⊢;rw[Nat.add_sub_cancel,show(((N+1:Nat):Int))=(N:Int)+1 from Aa,show((N:Int)+1 - 1)=(N:Int)from by omega];clear hN hp e1;go_wp2
 go_loopw [25] (fun iv wr=>∃ i:Nat,i≤N∧iv = .int .i64 (i:Nat)∧CL wr gl 28 (En F i+1)∧CL wr gd 28 (ab (ld F))∧Be wr w.heap.size 26 #[.bool false,.slice none 0 0]∧Ext w wr) (fun iv _=>N - (intOf iv).toNat)
 case atStart=>exact⟨0,Aa,rfl,hl,hd,ez,hx⟩
 case round =>
  clear hl hd ez hx;obtain⟨i,hi,rfl,hl,hd,ez,hx⟩:=hrel;by_cases hiN:i < N
  ·have hls:=hs i
   have hlt:i < l.length:=by have:=HA.out.2.1;have:=HN.out;omega
   have hli:F i=(l[i]:Rat):=by rw[←Cr hlt,HA.out.2.2]
   obtain⟨g',o',b3,A3,n3,c3,e3,-,q0,q1,hq⟩:=HA.out.1.at_ hlt;cases e3;have hqh:Bj w (.agg #[.bool b3,.slice A3 n3 c3]) l[i]:=hq.has (by rw[hli,Ba]at hls;omega);have hqq:qsz (l[i]:Rat)≤s:=by rw[hli]at hls;exact hls
   obtain⟨yi,hy⟩:∃ y,y=l[i]:=⟨_,rfl⟩
   rw[←hy]at hli hqh hqq;have HI:=Lib.hid (And.intro hqh (And.intro hqq hli));clear hqh hqq hli hy hq hls hlt;replace q0:=hx.cell q0;replace q1:=hx.cell q1;obtain⟨W7,eW7,e6,y7⟩:=Be.made wr 26 #[.bool b3,.slice A3 n3 c3] (by simp[Ag])
   go_upto_region 6 with(fail)
   rw[←eW7];clear eW7 q0 q1;have hg6:=ez.lt;replace ez:=ez.ext y7;replace hl:=hl.ext y7;replace hd:=hd.ext y7;replace hx:=hx.trans y7;clear y7;generalize wr.heap.size=g6 at *;have HDq:=Lib.hid hd;obtain⟨b9,A9,n9,c9,b10,A10,n10,c10,ed,hdq⟩:=hd;have hqa:qsz (ab (ld F))≤274877906944:=by rw[KX];have:qsz (ld F)≤s:=hs _;omega
   have hqi:qsz (ab (yi:Rat))≤274877906944:=by rw[KX];have:=HI.out.2.1;omega
   have hne:ab (ld F)≠0:=fun e=>Dc fF h0 (TV.1 e);have HB:=Lib.hid (And.intro (hdq.has hqa) (And.intro hqi hne));clear hqa hqi hne;have hgd2:=ed.lt;obtain⟨ce60,ce61⟩:=e6.cells2;have fe6:=e6.frozen;obtain⟨ced0,ced1,ced2,ced3⟩:=ed.cells4;have fed:=ed.frozen
   go_cut [7,8] (fun pv ev wx=>∃ gc,pv = .pointer (some ⟨gc,0,none⟩)∧ev = .int .i64 0∧CL wx gc 28 (ab (yi:Rat) / ab (ld F))∧W7.heap.size≤gc∧Ext W7 wx)
   case first =>
    refine BJ 9 7 1 [30,31,32,33,34,29,35,36,7] [[],[0],[0,1],[],[0,1,2,3],[0,1,2,3,4],[0,1,2,3,4,5],[0,1,2,3,4,5],[],[0,1,2,3,4,5,6,8],[0,1,2,3,4,5,6,7,8,9]] [6,4] [_,_] [(kv ?_),(fun γ=>γ 1),(fun γ=>γ 2),(kv ?_),(fun γ=>γ 4),(fun γ=>γ 4),(fun γ=>γ 6),(kv ?_),(fun γ=>γ 8)] (fun γ w'=>[True,Bw w' (γ 1) (yi:Rat),Bw w' (γ 2) (ab (yi:Rat)),True,Js w' (γ 4) (ab (yi:Rat) / ab (ld F)),True,Bw w' (γ 6) (ab (yi:Rat) / ab (ld F)),True,AV w' (γ 8) W7.heap.size #[.bool false,.slice none 0 0,.bool false,.slice none 0 0] 28]) _ rfl Bd Ah Ah Ah Ah Ah Bb Ah Bc ?hmono1 ?hstep1 ?_ ?hlate1
    case hstep1 =>
     iterate 9 refine⟨?_,?_⟩
     trivial
     iterate 1 focus
      intro γ w' he hf;clear hf;refine⟨by trivial,?_⟩;intro R hR;have hc:=he.cells;have cq0:=he.cell ce60;have cq1:=he.cell ce61;have cq2:=he.cell ced0;have cq3:=he.cell ced1;have cq4:=he.cell ced2;have cq5:=he.cell ced3;go_simp;refine hR _ _ (Ext.refl _) ?_ trivial;rfl
     ·intro γ w' he hf;clear hf;refine⟨trivial,?_⟩;intro R hR
      go_simp;exact AX (GX _ yi w' (HI.out.1.ext (hx.trans he))) hR
     ·intro γ w' he hf;have f1:Bw w' (γ 1) (yi:Rat):=hf 1 Ab;clear hf;refine⟨trivial,?_⟩;intro R hR
      go_simp;exact AX (Zf _ _ w' (f1.has (by have:=HI.out.2.1;omega)) (by have:=HI.out.2.1;omega)) hR
     iterate 1 focus
      intro γ w' he hf;clear hf;refine⟨by trivial,?_⟩;intro R hR;have hc:=he.cells;have cq0:=he.cell ce60;have cq1:=he.cell ce61;have cq2:=he.cell ced0;have cq3:=he.cell ced1;have cq4:=he.cell ced2;have cq5:=he.cell ced3;go_simp;refine hR _ _ (Ext.refl _) ?_ trivial;rfl
     ·intro γ w' he hf;have f2:Bw w' (γ 2) (ab (yi:Rat)):=hf 2 Ab;clear hf;refine⟨trivial,?_⟩;intro R hR
      go_simp;exact AX (Xt _ _ _ _ w' (f2.has HB.out.2.1) (HB.out.1.ext he) HB.out.2.2) hR
     ·intro γ w' he hf;clear hf;refine⟨trivial,?_⟩;intro R hR
      have hc:=he.cells;go_simp
      (try go_ints);(try(rw[if_neg Aa]));(try(rw[if_pos Aa]));(try go_simp);(try go_ints)
      refine hR _ _ (Ext.refl _) ?_ trivial;rfl
     ·intro γ w' he hf;have f4:Js w' (γ 4) (ab (yi:Rat) / ab (ld F)):=hf 4 Ab;clear hf;refine⟨trivial,?_⟩;intro R hR
      obtain⟨a,e,ha⟩:=f4;go_simp;exact hR _ _ (Ext.refl _) rfl ha
     ·intro γ w' he hf;have f4:Js w' (γ 4) (ab (yi:Rat) / ab (ld F)):=hf 4 Ab;clear hf;refine⟨trivial,?_⟩;intro R hR
      obtain⟨a,e,ha⟩:=f4;have hc:=he.cells;go_simp
      (try go_ints);(try(rw[if_neg Aa]));(try(rw[if_pos Aa]));(try go_simp);(try go_ints)
      refine hR _ _ (Ext.refl _) ?_ trivial;rfl
     ·intro γ w' he hf;clear hf;refine⟨trivial,?_⟩;intro R hR
      go_simp;exact hR _ _ ((Ext.refl _).alloc _) rfl (AV.mk (Nat.le_trans Ac he.size) (by simp[Ag]))
    case hmono1 =>
     exact⟨⟨⟨⟨⟨⟨⟨⟨⟨trivial,(fun γ wA w' e h=>h)⟩,(fun γ wA w' e h=>(show Bw wA (γ 1) (yi:Rat)from h).ext e)⟩,(fun γ wA w' e h=>(show Bw wA (γ 2) (ab (yi:Rat))from h).ext e)⟩,(fun γ wA w' e h=>h)⟩,(fun γ wA w' e h=>(show Js wA (γ 4) (ab (yi:Rat) / ab (ld F))from h).ext e)⟩,(fun γ wA w' e h=>h)⟩,(fun γ w w' e h=>Bw.ext h e)⟩,(fun γ wA w' e h=>h)⟩,(fun γ wA w' e h=>(show AV wA (γ 8) W7.heap.size #[.bool false,.slice none 0 0,.bool false,.slice none 0 0] 28 from h).ext e)⟩
    case hlate1 =>
     intro γ w8 hx8 hF;have p1:Bw w8 (γ 1) (yi:Rat):=(Au.get hF 1 Ab).resolve_left Ab;have p2:Bw w8 (γ 2) (ab (yi:Rat)):=(Au.get hF 2 Ab).resolve_left Ab;have p4:Js w8 (γ 4) (ab (yi:Rat) / ab (ld F)):=(Au.get hF 4 Ab).resolve_left Ab;have p6:Bw w8 (γ 6) (ab (yi:Rat) / ab (ld F)):=(Au.get hF 6 Ab).resolve_left Ab;have p8:AV w8 (γ 8) W7.heap.size #[.bool false,.slice none 0 0,.bool false,.slice none 0 0] 28:=(Au.get hF 8 Ab).resolve_left Ab
     clear hF;simp only[AZ,Nat.reduceAdd,EB,Array.getD_eq_getD_getElem?,List.getElem?_toArray,List.getElem?_cons_succ,List.getElem?_cons_zero,Option.getD_some];generalize γ 1=g1 at *;generalize γ 2=g2 at *;generalize γ 4=g4 at *;generalize γ 6=g6 at *;generalize γ 8=g8 at *;clear γ;obtain⟨a4,rfl,-⟩:=p4;obtain⟨gc,rfl,hgc,ec⟩:=p8;obtain⟨bx,Ax,nx',cx,by',Ay,ny,cy,rfl⟩:=p6.cells;clear ce60 ce61 ced0 ced1 ced2 ced3 p1 p2
     obtain⟨cec0,cec1,cec2,cec3⟩:=ec.cells4;have fec:=ec.frozen;go_wp2;refine⟨?_,trivial⟩;go_wp2;skip;obtain⟨W9,eW,ec',U⟩:=ec.put4 (.bool bx) (.slice Ax nx' cx) (.bool by') (.slice Ay ny cy) rfl rfl rfl rfl;rw[←eW];clear eW ec;replace p6:=p6.kd U.kd;replace hx8:=U.from_ hx8 Ai;have ec:=ec';clear U ec'
     go_meet
     case rel=>exact⟨gc,rfl,rfl,CL.mk ec p6,hgc,hx8⟩
    intro γ w8 hx8 hF;have p1:Bw w8 (γ 1) (yi:Rat):=Au.get hF 1 Ab;have p2:Bw w8 (γ 2) (ab (yi:Rat)):=Au.get hF 2 Ab;have p4:Js w8 (γ 4) (ab (yi:Rat) / ab (ld F)):=Au.get hF 4 Ab;have p6:Bw w8 (γ 6) (ab (yi:Rat) / ab (ld F)):=Au.get hF 6 Ab;have p8:AV w8 (γ 8) W7.heap.size #[.bool false,.slice none 0 0,.bool false,.slice none 0 0] 28:=Au.get hF 8 Ab;clear hF;simp only[AZ,Nat.reduceAdd];generalize γ 1=g1 at *
    generalize γ 2=g2 at *;generalize γ 4=g4 at *;generalize γ 6=g6 at *;generalize γ 8=g8 at *;clear γ;obtain⟨a4,rfl,-⟩:=p4;obtain⟨gc,rfl,hgc,ec⟩:=p8;obtain⟨bx,Ax,nx',cx,by',Ay,ny,cy,rfl⟩:=p6.cells;clear ce60 ce61 ced0 ced1 ced2 ced3 p1 p2;obtain⟨cec0,cec1,cec2,cec3⟩:=ec.cells4;have fec:=ec.frozen;go_wp2;skip;obtain⟨W9,eW,ec',U⟩:=ec.put4 (.bool bx) (.slice Ax nx' cx) (.bool by') (.slice Ay ny cy) rfl rfl rfl rfl
    rw[←eW];clear eW ec;replace p6:=p6.kd U.kd;replace hx8:=U.from_ hx8 Ai;have ec:=ec';clear U ec'
    go_meet
    case rel=>exact⟨gc,rfl,rfl,CL.mk ec p6,hgc,hx8⟩
   case rest =>
   clear ce60 ce61 ced0 ced1 ced2 ced3 fe6 fed e6 ed hdq;obtain⟨gc,rfl,rfl,hcq,hgc,hx8⟩:=hcut;have hd:CL W7 gd 28 (ab (ld F)):=HDq.out;have hgl7:=hl.lt;have hgd7:=hd.lt;have hez7:=ez.lt;replace ez:=ez.ext hx8;replace hl:=hl.ext hx8;replace hd:=hd.ext hx8;replace hx:=hx.trans hx8;clear hx8;obtain⟨bx,Ax,nx',cx,by',Ay,ny,cy,ec,hcz⟩:=hcq;have hqq:qsz (ab (yi:Rat) / ab (ld F))≤4*s+4:=by
    have h1:=F8 (ab (yi:Rat)) (ab (ld F));have h2:qsz (ld F)≤s:=hs _;rw[KX,KX]at h1;have:=HI.out.2.1;omega
   have HZ:=Lib.hid (And.intro (hcz.has Aa) hqq);clear hcz hqq;obtain⟨cec0,cec1,cec2,cec3⟩:=ec.cells4;have fec:=ec.frozen
   go_upto_region 7 with(fail)
   refine Ae 2 [37,38] [[],[],[0,1],[0,1,2]] [7] [_] [(kv ?_),(fun γ=>γ 1)] (fun γ w'=>[True,Bw w' (γ 1) ((1:Int):Rat)]) Bd Ah Ah Bb Ah Bc Bg ?hstep2 ?_
   case hstep2 =>
    iterate 2 refine⟨?_,?_⟩
    trivial
    iterate 1 focus
     intro γ w' he hf;clear hf;refine⟨by trivial,?_⟩;intro R hR;have hc:=he.cells;have cq0:=he.cell cec0;have cq1:=he.cell cec1;have cq2:=he.cell cec2;have cq3:=he.cell cec3;go_simp;refine hR _ _ (Ext.refl _) ?_ trivial;rfl
    ·intro γ w' he hf;clear hf;refine⟨trivial,?_⟩;intro R hR
     go_simp;exact AX (X5 1 w' Aa Aa) hR
   intro γ w10 hx10 hF;have p1:Bw w10 (γ 1) ((1:Int):Rat):=Au.get hF 1 Ab;clear hF;simp only[AZ,Nat.reduceAdd];generalize γ 1=g1 at *;clear γ
   go_wp2_with fail
   refine Calls.mono (Tf _ _ (ab (yi:Rat) / ab (ld F)) ((1:Int):Rat) _ (HZ.out.1.ext hx10) (p1.has Ab)) ?_;rintro e w11 ⟨r11,rfl,hr11,hx11⟩;obtain⟨bz,Az,nz,cz',bw,Aw,nw,cw,rfl⟩:=hr11.cells;have x1011:=hx10.trans hx11;clear p1 cec0 cec1 cec2 cec3 fec;replace ez:=ez.ext x1011;replace hl:=hl.ext x1011;replace hd:=hd.ext x1011;replace ec:=ec.ext x1011;replace hx:=hx.trans x1011;clear x1011;clear hx10 hx11
   obtain⟨cec0,cec1,cec2,cec3⟩:=ec.cells4;have fec:=ec.frozen
   go_upto_region 8 with(fail)
   obtain⟨W12,eW,ec',U⟩:=ec.put4 (.bool bz) (.slice Az nz cz') (.bool bw) (.slice Aw nw cw) rfl rfl rfl rfl;rw[←eW];clear eW ec;replace hr11:=hr11.kd U.kd;replace ez:=ez.upd U Ai;replace hl:=hl.upd U Ai;replace hd:=hd.upd U Ai;replace hx:=U.from_ hx Ai;have ec:=ec';clear U ec';obtain⟨bl,Al,nl,cl,bl',Al',nl',cl',el,hlz⟩:=hl;have hqx:qsz (ab (yi:Rat) / ab (ld F)+((1:Int):Rat))≤4*s+8:=by
    have h1:=EA (ab (yi:Rat) / ab (ld F)) ((1:Int):Rat);have h2:qsz (((1:Int):Rat))=1:=by decide
    have h3:=HZ.out.2;omega
   have hql:qsz (En F i+1)≤2*s+8:=by
    have h1:=EA (En F i) 1;have h2:qsz (1:Rat)=1:=by decide
    have h3:=IM hs (Nat.le_trans (CO (F 0)) (hs 0)) i;omega
   have HX:=Lib.hid (And.intro (hr11.has Aa) (And.intro (hlz.has Aa) (show qsz (ab (yi:Rat) / ab (ld F)+((1:Int):Rat))+qsz (En F i+1) < 274877906944 by omega)));clear hqx hql;have HR:=Lib.hid (And.intro hr11 hlz);clear hr11 hlz;obtain⟨cec0,cec1,cec2,cec3⟩:=ec.cells4;have fec:=ec.frozen;obtain⟨cel0,cel1,cel2,cel3⟩:=el.cells4;have fel:=el.frozen
   go_wp2_with fail
   refine Calls.mono (WH _ _ _ _ _ HX.out.1 HX.out.2.1 HX.out.2.2) ?_;rintro e w13 ⟨r13,rfl,rfl,hx13⟩;clear HX cec0 cec1 cec2 cec3 fec cel0 cel1 cel2 cel3 fel;have e13:ab (yi:Rat) / ab (ld F)+((1:Int):Rat) - (En F i+1)=ab (F i / ld F) - En F i:=by
    rw[Xz,HI.out.2.2];show _+(1:Rat) - _=_;grind
   rw[e13];have hnext:En F (i+1)=if En F i < ab (F i / ld F)then ab (F i / ld F)else En F i:=rfl;replace HR:=Lib.hid (And.intro (HR.out.1.ext hx13) (HR.out.2.ext hx13));replace ez:=ez.ext hx13;replace hd:=hd.ext hx13;replace ec:=ec.ext hx13;replace el:=el.ext hx13;replace hx:=hx.trans hx13;clear hx13;by_cases hgt:En F i < ab (F i / ld F)
   ·have hdec:decide (KA (ab (F i / ld F) - En F i) > 0)=true:=by rw[EH,decide_eq_true hgt]
    rw[if_pos hgt]at hnext;obtain⟨cec0,cec1,cec2,cec3⟩:=ec.cells4;have fec:=ec.frozen;obtain⟨cel0,cel1,cel2,cel3⟩:=el.cells4;have fel:=el.frozen
    go_upto_region 10 with(fail)
    have hr13:=HR.out.1;obtain⟨W14,eW,el',U⟩:=el.put4 (.bool bz) (.slice Az nz cz') (.bool bw) (.slice Aw nw cw) rfl rfl rfl rfl;rw[←eW];clear eW el;replace hr13:=hr13.kd U.kd;replace ez:=ez.upd U Ai;replace hd:=hd.upd U Ai;replace hx:=U.from_ hx Ai;have el:=el';clear U el';have hl:=CL.mk el hr13;rw[show ab (yi:Rat) / ab (ld F)+((1:Int):Rat)=En F (i+1)+1 from by rw[hnext,Xz,HI.out.2.2];rfl]at hl;clear hdec hnext HR HZ e13 hr13
    go_wp2
    go_roundw
    case rel=>exact⟨i+1,Aa,by go_num,hl,hd,ez,hx⟩
    case measure=>simp[intOf];omega
   ·have hdec:decide (KA (ab (F i / ld F) - En F i) > 0)=false:=by rw[EH,decide_eq_false hgt]
    rw[if_neg hgt]at hnext;have hl:=CL.mk el HR.out.2;rw[←hnext]at hl;clear hnext HR HZ e13;go_wp2
    go_roundw
    case rel=>exact⟨i+1,Aa,by go_num,hl,hd,ez,hx⟩
    case measure=>simp[intOf];omega
  ·obtain rfl:i=N:=by omega
   have ez11:=ez.lt;have hql:qsz (En F i+1)≤2*s+8:=by
    have h1:=EA (En F i) 1;have h2:qsz (1:Rat)=1:=by decide
    have h3:=IM hs (Nat.le_trans (CO (F 0)) (hs 0)) i;omega
   obtain⟨J,hJ,hJ9⟩:∃ J,P2 (En F i+1) J∧J≤32*(2*s+8)+1:=P2.qsz (by have:=GJ F i;grind) hql;have HJ:=Lib.hid (And.intro hJ (show qsz (En F i+1)≤3000000 by omega));clear hJ hql;have hJ8:J≤100000000:=by omega
   clear hJ9;obtain⟨rr,hrr⟩:∃ r,r=En F i+1:=⟨_,rfl⟩
   rw[←hrr]at HJ hl;have Hrr:=Lib.hid hrr;clear hrr hi hiN h0 hs hs9 zF fF hd HQ HA
   go_wp2_with fail
   refine Calls.mono (Ji 1 _ Aa Aa) ?_;rintro e w14 ⟨r14,rfl,hr14,hx14⟩;obtain⟨b11,A11,n11,c11,rfl⟩:=hr14.cells;replace ez:=ez.ext hx14;replace hl:=hl.ext hx14;replace hx:=hx.trans hx14;clear hx14;obtain⟨W15,eW15,eo,y15⟩:=Be.made w14 26 #[.bool b11,.slice A11 n11 c11] (by simp[Ag]);have ho:=Bh.mk eo (hr14.kd y15.kd);have hgo:=hl.lt;replace ez:=ez.ext y15;replace hl:=hl.ext y15;replace hx:=hx.trans y15
   clear y15;clear eo hr14;go_wp2;rw[←eW15];clear eW15;generalize w14.heap.size=go at *
   go_loopw [47] (fun _ wr=>∃ j:Nat,j≤J∧Bh wr go 26 (2^j)∧CL wr gl 28 rr∧Be wr w.heap.size 26 #[.bool false,.slice none 0 0]∧Ext w wr) (fun _ wr=>2^(J+1) - dG wr go 26)
   case atStart=>exact⟨0,Aa,ho,hl,ez,hx⟩
   case round =>
    clear ho hl ez hx;obtain⟨j,hj,⟨b7,A7,n7,c7,eo,hoz⟩,⟨bl,Al,nl,cl,bl',Al',nl',cl',el,hlz⟩,ez,hx⟩:=hrel;have Hoz:=Lib.hid (And.intro hoz (And.intro eo hlz));clear hoz hlz;have hgl3:=el.lt;have hgo3:=eo.lt;have hjz:sz ((2:Int)^j).natAbs≤1+j:=GG j;have Hjz:=Lib.hid hjz;have hjq:qsz (((2:Int)^j:Int):Rat)≤1+j:=by rw[Ba];omega
    have HS:=Lib.hid (And.intro (show sz ((2:Int)^j).natAbs≤1099511627776 by omega) (And.intro (show qsz (((2:Int)^j:Int):Rat)≤274877906944 by omega) (show qsz (((2:Int)^j:Int):Rat)+qsz rr < 274877906944 by have:=HJ.out.2;omega)));clear hjz hjq;obtain⟨ceo0,ceo1⟩:=eo.cells2;have feo:=eo.frozen;obtain⟨cel0,cel1,cel2,cel3⟩:=el.cells4;have fel:=el.frozen
    go_upto_region 12 with(fail)
    refine Ae 3 [47,48,49] [[],[0],[],[0,1,2],[0,1,2,3]] [9,3] [_,_] [(kv ?_),(fun γ=>γ 1),(kv ?_)] (fun γ w'=>[True,Bw w' (γ 1) (((2:Int)^j:Int):Rat),True]) Bd Ah Ah Bb Ah Bc Bg ?hstep3 ?_
    case hstep3 =>
     iterate 3 refine⟨?_,?_⟩
     trivial
     iterate 1 focus
      intro γ w' he hf;clear hf;refine⟨by trivial,?_⟩;intro R hR;have hc:=he.cells;have cq0:=he.cell ceo0;have cq1:=he.cell ceo1;have cq2:=he.cell cel0;have cq3:=he.cell cel1;have cq4:=he.cell cel2;have cq5:=he.cell cel3;go_simp;refine hR _ _ (Ext.refl _) ?_ trivial;rfl
     ·intro γ w' he hf;clear hf;refine⟨trivial,?_⟩;intro R hR
      go_simp;exact AX (GX _ _ w' ((Hoz.out.1.has HS.out.1).ext he)) hR
     iterate 1 focus
      intro γ w' he hf;clear hf;refine⟨by trivial,?_⟩;intro R hR;have hc:=he.cells;have cq0:=he.cell ceo0;have cq1:=he.cell ceo1;have cq2:=he.cell cel0;have cq3:=he.cell cel1;have cq4:=he.cell cel2;have cq5:=he.cell cel3;go_simp;refine hR _ _ (Ext.refl _) ?_ trivial;rfl
    intro γ w16 hx16 hF;have p1:Bw w16 (γ 1) (((2:Int)^j:Int):Rat):=Au.get hF 1 Ab;clear hF;simp only[AZ,Nat.reduceAdd];generalize γ 1=g1 at *;clear γ
    go_wp2_with fail
    refine Calls.mono (WH _ _ _ rr _ (p1.has HS.out.2.1) ((Hoz.out.2.2.has (by have:=HJ.out.2;omega)).ext hx16) HS.out.2.2) ?_;rintro e w17 ⟨r17,rfl,rfl,hx17⟩;generalize hm:KA ((((2:Int)^j:Int):Rat) - rr)=m;have hm1:=Mh (p:=(((2:Int)^j:Int):Rat)) (q:=rr);rw[hm]at hm1;clear hm;have x1617:=hx16.trans hx17;have HO:=Lib.hid (And.intro (Hoz.out.1.ext x1617) (Hoz.out.2.2.ext x1617));clear p1 ceo0 ceo1 feo cel0 cel1 cel2 cel3 fel
    replace ez:=ez.ext x1617;replace eo:=eo.ext x1617;replace el:=el.ext x1617;replace hx:=hx.trans x1617;clear x1617;clear hx16 hx17;have hl:=CL.mk el HO.out.2;by_cases hjJ:j < J
    ·rw[decide_eq_true (show(((2:Int)^j:Int):Rat)≤rr by have:=HJ.out.1.2 j hjJ;rw[Gl];exact this)]at hm1
     obtain⟨ceo0,ceo1⟩:=eo.cells2;have feo:=eo.frozen
     go_wp2_with fail
     refine Calls.mono (Ml _ _ _ _ _ (HO.out.1.has HS.out.1) (HO.out.1.has HS.out.1)) ?_;rintro e w18 ⟨r18,rfl,hr18,hx18⟩;obtain⟨b8,A8,n8,c8,rfl⟩:=hr18.cells;clear ceo0 ceo1 feo el;replace ez:=ez.ext hx18;replace eo:=eo.ext hx18;replace hl:=hl.ext hx18;replace hx:=hx.trans hx18;clear hx18;obtain⟨ceo0,ceo1⟩:=eo.cells2;have feo:=eo.frozen;go_wp2;obtain⟨W19,eW,eo',U⟩:=eo.put2 (.bool b8) (.slice A8 n8 c8) rfl rfl
     rw[←eW];clear eW eo;replace hr18:=hr18.kd U.kd;replace ez:=ez.upd U Ai;replace hl:=hl.upd U Ai;replace hx:=U.from_ hx Ai;have eo:=eo';clear U eo';rw[show(2:Int)^j+2^j=2^(j+1) by rw[Int.pow_succ];omega]at hr18;have ho:=Bh.mk eo hr18;have hb1:=KG ho;have hb2:=KG (Bh.mk Hoz.out.2.1 Hoz.out.1);have hpw:2^(j+1)≤2^J:=Nat.pow_le_pow_right Ab hjJ
     go_roundw
     case rel=>exact⟨j+1,hjJ,ho,hl,ez,hx⟩
     case measure =>
      rw[hb1,hb2];rw[Int.natAbs_pow,Int.natAbs_pow];show 2^(J+1) - 2^(j+1) < 2^(J+1) - 2^j;have h1:2^(J+1)=2*2^J:=Nat.pow_succ';have h2:2^(j+1)=2*2^j:=Nat.pow_succ';have h3:=Nat.two_pow_pos j;omega
    ·obtain rfl:j=J:=by omega
     rw[decide_eq_false (show ¬ (((2:Int)^j:Int):Rat)≤rr by have:=HJ.out.1.1;rw[Gl];grind)]at hm1;obtain⟨ceo0,ceo1⟩:=eo.cells2;have feo:=eo.frozen;obtain⟨cez0,cez1⟩:=ez.cells2;have fez:=ez.frozen
     go_upto_region 14 with(fail)
     have hr:=HO.out.1;go_wp2;obtain⟨W3,eW,ez',U⟩:=ez.put2 (.bool b7) (.slice A7 n7 c7) rfl rfl;rw[←eW];clear eW ez;replace hr:=hr.kd U.kd;replace hx:=U.from_ hx Ai;have ez:=ez';clear U ez';clear ceo0 ceo1 feo cez0 cez1 fez;obtain⟨cez0,cez1⟩:=ez.cells2;have fez:=ez.frozen;refine bodyPost_ret (v := .agg #[.bool b7,.slice A7 n7 c7]) (by simp[results,Tryz.results67,go_sem,cez0,cez1]) rfl ?_;have hfin:=HJ.out.1
     rw[Hrr.out]at hfin;exact Ad.mk ⟨j,by rw[HN.out];exact hfin,hr⟩ hx
end Go.Proofs.YtmhgnigpmompmaaGreat
namespace Go.Hp
open Go.RowKit
noncomputable def bx(F:Nat→Rat):Nat:=open Classical in if h:∃ j,P2 (En F (pl F - 1)+1) j then Classical.choose h else 0
theorem P2.bx{F:Nat→Rat}{j:Nat}(h:P2 (En F (pl F - 1)+1) j):j=Hp.bx F:=by
 have hx:∃ j,P2 (En F (pl F - 1)+1) j:=⟨j,h⟩
 unfold Hp.bx;rw[dif_pos hx];exact h.uniq (Classical.choose_spec hx)
theorem Xg{F:Nat→Rat}{s:Nat}(h:∀ i,qsz (F i)≤s):bx F≤32*(2*s+2)+1:=by
 have h0:0≤En F (pl F - 1)+1:=by have:=GJ F (pl F - 1);grind
 have h1:=EA (En F (pl F - 1)) 1;have h2:qsz (1:Rat)=1:=by decide
 have h3:=IM h (Nat.le_trans (CO (F 0)) (h 0)) (pl F - 1);obtain⟨j,hj,hj2⟩:=P2.qsz h0 (show qsz (En F (pl F - 1)+1)≤2*s+2 by omega);rw[←hj.bx];exact hj2
theorem XD(j:Nat):qsz ((2:Rat)^j)≤j+1∧qsz (-(2:Rat)^j)≤j+1:=by
 have h1:=GG j;have e:((2:Rat)^j)=(((2:Int)^j:Int):Rat):=(Gl j).symm;have h2:qsz ((2:Rat)^j)≤j+1:=by rw[e,Ba];omega
 exact⟨h2,by rw[FW];exact h2⟩
structure Pg(F:Nat→Rat)(D M:Nat):Prop where
 z:ZI F
 f:Af F
 n0:F≠pz
 e:CV F=0
 q:∀ i,qsz (F i)≤1000
 pln:pl F≤1000
 sim:∃ S n M T,UC F S n M T
 chn:∃ S,LQ (Er F) S D M
theorem Pg.sf{F:Nat→Rat}{D M:Nat}(h:Pg F D M):SF (Er F):=PD h.z h.f h.n0
theorem Pg.k{F:Nat→Rat}{D M:Nat}(h:Pg F D M):Nv (Er F) (pd (Er F)) (kn (Er F)):=h.sf.st.k
theorem Pg.lim{F:Nat→Rat}{D M:Nat}(h:Pg F D M):M≤1000000∧D≤900:=by
 obtain⟨S,h⟩:=h.chn;exact⟨by have:=h.b;omega,h.D9⟩
theorem RY.lower{base b:Nat}{t:TypeId}{w:World}{v:Value}{W:Nat→Rat}(h:RY base t w v W)(hb:b≤base):RY b t w v W:=by
 obtain⟨c,us,K,h1,h2,h3,h4⟩:=h;exact⟨c,us,K,h1,h2,h3,h4.base_le hb⟩
end Go.Hp
namespace Go.Proofs.YtmhgnigpmompmaaGreat
open Go.RowKit Go.Hp
theorem Q5(v:Value)(F:Nat→Rat)(D M:Nat)(w:World)(hv:AQ 0 w v F)(hR:Pg F D M):Calls Tryz.prog 50 #[v] w (Ad w fun r w'=>RY w.heap.size 23 w' r (Er F)):=by
 obtain⟨S,n,M1,T,h1⟩:=hR.sim;obtain⟨S2,h2⟩:=hR.chn;exact YA v F (Er F) S n M1 T S2 D M w hv h1 rfl h2
theorem Qk(v:Value)(F:Nat→Rat)(D M:Nat)(w:World)(hv:AQ 0 w v F)(hR:Pg F D M):Calls Tryz.prog 67 #[v] w (Ad w fun r w'=>AC w' r (2^bx F)):=
 Ad.imp (YH v F 1000 w hv hR.z hR.f hR.n0 hR.q Aa hR.pln) fun _ _ ⟨j,h1,h2⟩=>by rw[←h1.bx];exact h2
set_option maxHeartbeats 4000000 in
theorem Y0(v:Value)(F:Nat→Rat)(D M:Nat)(w:World)(hv:AQ 0 w v F)(hR:Pg F D M):Calls Tryz.prog 52 #[v] w (Ad w fun r w'=>Km w' r (-(2:Rat)^bx F) ((2:Rat)^bx F)):=by
 have hb:=fun X (x:Ext w X)=>Qk v F D M X (hv.ext x) hR;have hbx:=Xg hR.q;obtain⟨j,hj⟩:∃ j,j=bx F:=⟨_,rfl⟩
 rw[←hj]at hb hbx ⊢;have hz:=GG j;have hq:=(XD j).1;obtain⟨A0,c0,rfl,-⟩:=hv.shape;have HC:=Lib.hid (And.intro hb (And.intro (show sz ((2:Int)^j).natAbs≤1099511627776 by omega) (show qsz ((2:Rat)^j)≤274877906944 by omega)));clear hb hbx hj hz hq hv hR
 go_enter Tryz.func52,Tryz.ntmps52
 obtain⟨W1,eW1,ez,y1⟩:=Be.made w 30 #[.bool false,.slice none 0 0,.bool false,.slice none 0 0,.bool false,.slice none 0 0,.bool false,.slice none 0 0] (by simp[Ag])
 go_upto_region 1 with(fail)
 rw[←eW1];clear eW1;have hx:=y1;clear y1
 go_wp2_with fail
 refine Calls.mono (HC.out.1 _ hx) ?_;rintro e w2 ⟨r2,rfl,hr2,hx2⟩;obtain⟨b5,A5,n5,c5,rfl⟩:=hr2.cells;have H2:=Lib.hid (hr2.has HC.out.2.1);clear hr2;replace ez:=ez.ext hx2;replace hx:=hx.trans hx2;clear hx2
 go_wp2_with fail
 refine Calls.mono (GX _ _ _ H2.out) ?_;rintro e w3 ⟨r3,rfl,hr3,hx3⟩;rw[Gl]at hr3;obtain⟨b6,A6,n6,c6,b7,A7,n7,c7,rfl⟩:=hr3.cells;replace ez:=ez.ext hx3;replace hx:=hx.trans hx3;clear hx3;obtain⟨W4,eW4,eb,y4⟩:=Be.made w3 28 #[.bool b6,.slice A6 n6 c6,.bool b7,.slice A7 n7 c7] (by simp[Ag]);have hb4:=hr3.ext y4;have hgb:=ez.lt;replace ez:=ez.ext y4;replace hx:=hx.trans y4;clear y4;clear hr3 H2
 go_upto_region 2 with(fail)
 rw[←eW4];clear eW4;generalize w3.heap.size=gb at *;have HB:=Lib.hid (And.intro hb4 (hb4.has HC.out.2.2));clear hb4;obtain⟨ceb0,ceb1,ceb2,ceb3⟩:=eb.cells4;have feb:=eb.frozen;refine Ae 3 [7,8,9] [[],[0],[],[0,1,2],[0,1,2,3]] [3] [_] [(kv ?_),(fun γ=>γ 1),(kv ?_)] (fun γ w'=>[True,Bw w' (γ 1) (-(2:Rat)^j),True]) Bd Ah Ah Bb Ah Bc Bg ?hstep1 ?_
 case hstep1 =>
  iterate 3 refine⟨?_,?_⟩
  trivial
  iterate 1 focus
   intro γ w' he hf;clear hf;refine⟨by trivial,?_⟩;intro R hR;have hc:=he.cells;have cq0:=he.cell ceb0;have cq1:=he.cell ceb1;have cq2:=he.cell ceb2;have cq3:=he.cell ceb3;go_simp;refine hR _ _ (Ext.refl _) ?_ trivial;rfl
  ·intro γ w' he hf;clear hf;refine⟨trivial,?_⟩;intro R hR
   go_simp;exact AX (Zt _ _ w' (HB.out.2.ext he)) hR
  iterate 1 focus
   intro γ w' he hf;clear hf;refine⟨by trivial,?_⟩;intro R hR;have hc:=he.cells;have cq0:=he.cell ceb0;have cq1:=he.cell ceb1;have cq2:=he.cell ceb2;have cq3:=he.cell ceb3;go_simp;refine hR _ _ (Ext.refl _) ?_ trivial;rfl
 intro γ w5 hx5 hF;have p1:Bw w5 (γ 1) (-(2:Rat)^j):=Au.get hF 1 Ab;clear hF;simp only[AZ,Nat.reduceAdd];generalize γ 1=g1 at *;clear γ;obtain⟨b8,A8,n8,c8,b9,A9,n9,c9,rfl⟩:=p1.cells;have HF:=Lib.hid (And.intro p1 (HB.out.1.ext hx5));clear ceb0 ceb1 ceb2 ceb3 feb p1;replace ez:=ez.ext hx5;replace hx:=hx.trans hx5;clear hx5;have p1:=HF.out.1;have p2:=HF.out.2;clear HF;obtain⟨cez0,cez1,cez2,cez3,cez4,cez5,cez6,cez7⟩:=ez.cells8
 have fez:=ez.frozen;go_wp2;obtain⟨W6,eW,ez',U⟩:=ez.put8 (.bool b8) (.slice A8 n8 c8) (.bool b9) (.slice A9 n9 c9) (.bool b6) (.slice A6 n6 c6) (.bool b7) (.slice A7 n7 c7) rfl rfl rfl rfl rfl rfl rfl rfl;rw[←eW];clear eW ez;replace p1:=p1.kd U.kd;replace p2:=p2.kd U.kd;replace hx:=U.from_ hx Ai;have ez:=ez';clear U ez';clear cez0 cez1 cez2 cez3 cez4 cez5 cez6 cez7 fez;obtain⟨cez0,cez1,cez2,cez3,cez4,cez5,cez6,cez7⟩:=ez.cells8
 have fez:=ez.frozen;refine bodyPost_ret (v := .agg #[.bool b8,.slice A8 n8 c8,.bool b9,.slice A9 n9 c9,.bool b6,.slice A6 n6 c6,.bool b7,.slice A7 n7 c7]) (by simp[results,Tryz.results52,go_sem,cez0,cez1,cez2,cez3,cez4,cez5,cez6,cez7]) rfl ?_;exact Ad.mk ⟨_,_,_,_,_,_,_,_,_,_,_,_,_,_,_,_,rfl,p1,p2⟩ hx
def Rj(base:Nat)(F:Nat→Rat)(r:Value)(w:World):Prop:=∃ c us,r = .tuple #[c,.int .i64 (CV F)]∧(CV F=0→Ib base 23 w c us (F4 F (pd F) (kn F)))∧(CV F≠0→c = .slice none 0 0)
set_option maxHeartbeats 2000000 in
theorem XM(v:Value)(l:List Int)(S D M:Nat)(w:World)(hv:EI 0 w v l)(hn:l.length≤1000000)(hR:CV (cz l)=0→LQ (cz l) S D M):Calls Tryz.prog 26 #[v] w (Ad w fun r w'=>Rj w.heap.size (cz l) r w'):=by
 have HV:=Lib.hid (And.intro hv hR);obtain⟨A,c,rfl⟩:=hv.len;clear hv hR
 go_enter Tryz.func26,Tryz.ntmps26
 go_wp2_with fail
 refine Calls.mono (Oz _ l _ HV.out.1 hn) ?_;rintro e w2 ⟨r2,rfl,⟨u,rfl,hu1,hu2⟩,hx⟩;obtain⟨E,hE⟩:∃ E,E=CV (cz l):=⟨_,rfl⟩
 have hc:=Et (cz l);rw[←hE]at hu1 hu2 hc ⊢;have HE:=Lib.hid hE;clear hE;have fin:E≠0→∀ {W:World},Ext w W→Ad w (fun r w'=>Rj w.heap.size (cz l) r w') (.returned (.tuple #[.slice none 0 0,.int .i64 E])) W:=fun hne W h=>Ad.mk ⟨_,[],by rw[←HE.out],fun e=>absurd (HE.out.trans e) hne,fun _=>rfl⟩ h;have Hfin:=Lib.hid fin;clear fin;rcases hc with⟨-,hc⟩ | ⟨-,hc⟩ | ⟨h0,hp,-,hc⟩
 ·subst hc
  clear hu1 hu2;go_wp2;refine bodyPost_ret (v := .tuple #[.slice none 0 0,.int .i64 5]) (by simp[results,Tryz.results26,go_sem]) rfl ?_;exact Hfin.out Ab hx
 ·subst hc
  clear hu1 hu2;go_wp2;refine bodyPost_ret (v := .tuple #[.slice none 0 0,.int .i64 7]) (by simp[results,Tryz.results26,go_sem]) rfl ?_;exact Hfin.out Ab hx
 subst hc;have hR:=HV.out.2 HE.out.symm;have hu:=hu1 rfl;obtain⟨A1,c1,rfl,-⟩:=hu.shape;have hM9:=hR.b;have hSM:=hR.SM;have hs:=hR.s;have HU:=Lib.hid (And.intro hu (And.intro hR h0));clear hu1 hu2 hR h0 hu;have hde:∀ X u,AQ 0 X u (cz l)→Calls Tryz.prog 66 #[u] X (Ad X fun r w'=>AQ 0 w' r (pd (cz l))):=fun X u hu=>by
  obtain⟨m,g1,g2,-,g4⟩:=hu.hz (fun i=>by have:=hs i;omega);rw[←g4];exact Ad.imp (G7 _ m X g1 Aa) fun _ _ h=>h.base_le (Nat.zero_le _)
 have HD:=Lib.hid hde;clear hde hs hM9 hSM
 go_wp2_with fail
 refine Calls.mono (HD.out _ _ HU.out.1) ?_;rintro e w3 ⟨r3,rfl,hr3,hx3⟩;have H3:=Lib.hid hr3;clear hr3
 go_wp2_with fail
 refine Calls.mono (TI _ _ (cz l) (pd (cz l)) S D M _ (HU.out.1.ext hx3) H3.out HU.out.2.1.z (EM HU.out.2.1.z) HU.out.2.1.f (BS HU.out.2.1.f) HU.out.2.1.s HU.out.2.1.d HU.out.2.1.e HU.out.2.1.m HU.out.2.1.b HU.out.2.1.D9) ?_;rintro e w4 ⟨r4,rfl,⟨us,K,hK,-,hP⟩,hx4⟩;have hx34:=hx3.trans hx4;have HF:=Lib.hid (show Rj w.heap.size (cz l) (.tuple #[r4,.int .i64 0]) w4 from⟨_,us,by rw[←HE.out],fun _=>by rw[hK.kn];exact hP.base_le (by have:=hx.size;have:=hx3.size;omega),fun e=>absurd HE.out.symm e⟩)
 have hx5:=hx.trans hx34;clear hK hP hx34 hx3 hx4 H3;go_wp2;refine bodyPost_ret (v := .tuple #[r4,.int .i64 0]) (by simp[results,Tryz.results26,go_sem]) rfl ?_;exact Ad.mk HF.out hx5
end Go.Proofs.YtmhgnigpmompmaaGreat
namespace Go.Hp
open Go.RowKit
theorem EQ.lower{base b:Nat}{e:TypeId}{w:World}{v:Value}{l:List (Rat×Rat)}(h:EQ base e w v l)(hb:b≤base):EQ b e w v l:=by
 obtain⟨ess,g1,g2,⟨g3,g4⟩,g5⟩:=h;refine⟨ess,g1,g2,⟨g3,?_⟩,g5⟩;rcases g4 with h4 | ⟨g,cap,cur,a,c,d⟩
 ·exact .inl h4
 ·exact .inr ⟨g,cap,cur,a,Nat.le_trans hb c,d⟩
def Sc(F:Nat→Rat)(r:Value)(w:World):Prop:=∃ z,r = .tuple #[z,.int .i64 (CV F)]∧(CV F=0→AC w z (2^bx F))∧(CV F≠0→z = .agg #[.bool false,.slice none 0 0])
def Wq(base:Nat)(t:TypeId)(F:Nat→Rat)(N:Nat)(r:Value)(w:World):Prop:=∃ c,r = .tuple #[c,.int .i64 (CV F)]∧(CV F=0→EQ base t w c (Jl (rc (Er F)) N (-(2:Rat)^bx F) ((2:Rat)^bx F)))∧(CV F≠0→c = .slice none 0 0)
def JB(F:Nat→Rat)(p q:Rat)(r:Value):Prop:=r = .tuple #[.int .i64 (if CV F=0∧p≤q then rc (Er F) p q else 0),.int .i64 (if CV F=0 then(if p≤q then 0 else 2)else CV F)]
end Go.Hp
namespace Go.Proofs.YtmhgnigpmompmaaGreat
open Go.RowKit Go.Hp
set_option maxHeartbeats 4000000 in
theorem WW(v:Value)(l:List Int)(D M:Nat)(w:World)(hv:EI 0 w v l)(hn:l.length≤1000000)(hR:CV (cz l)=0→Pg (cz l) D M) :
  Calls Tryz.prog 27 #[v] w (Ad w fun r w'=>Sc (cz l) r w'):=by
 have HV:=Lib.hid (And.intro hv hR);obtain⟨A,c,rfl⟩:=hv.len;clear hv hR
 go_enter Tryz.func27,Tryz.ntmps27
 obtain⟨W1,eW1,ez,y1⟩:=Be.made w 26 #[.bool false,.slice none 0 0] (by simp[Ag])
 go_upto_region 1 with(fail)
 rw[←eW1];clear eW1;have hx:=y1;clear y1
 go_wp2_with fail
 refine Calls.mono (Oz _ l _ (HV.out.1.ext hx) hn) ?_;rintro e w2 ⟨r2,rfl,⟨u,rfl,hu1,hu2⟩,hx2⟩;have hgz:=ez.lt;replace ez:=ez.ext hx2;replace hx:=hx.trans hx2;clear hx2;obtain⟨E,hE⟩:∃ E,E=CV (cz l):=⟨_,rfl⟩
 have hc:=Et (cz l);rw[←hE]at hu1 hu2 hc ⊢;have HE:=Lib.hid hE;clear hE;have fin:E≠0→∀ {W:World},Ext w W→Ad w (fun r w'=>Sc (cz l) r w') (.returned (.tuple #[.agg #[.bool false,.slice none 0 0],.int .i64 E])) W:=fun hne W h=>Ad.mk ⟨_,by rw[←HE.out],fun e=>absurd (HE.out.trans e) hne,fun _=>rfl⟩ h;have Hfin:=Lib.hid fin;clear fin;rcases hc with⟨-,hc⟩ | ⟨-,hc⟩ | ⟨h0,hp,-,hc⟩
 ·subst hc
  clear hu1 hu2;obtain⟨cez0,cez1⟩:=ez.cells2;have fez:=ez.frozen;go_wp2;obtain⟨W3,eW,ez',U⟩:=ez.put2 (.bool false) (.slice none 0 0) rfl rfl;rw[←eW];clear eW ez;replace hx:=U.from_ hx Ai;have ez:=ez';clear U ez';clear cez0 cez1 fez;obtain⟨cez0,cez1⟩:=ez.cells2;have fez:=ez.frozen;refine bodyPost_ret (v := .tuple #[.agg #[.bool false,.slice none 0 0],.int .i64 5]) (by simp[results,Tryz.results27,go_sem,cez0,cez1]) rfl ?_
  exact Hfin.out Ab hx
 ·subst hc
  clear hu1 hu2;obtain⟨cez0,cez1⟩:=ez.cells2;have fez:=ez.frozen;go_wp2;obtain⟨W3,eW,ez',U⟩:=ez.put2 (.bool false) (.slice none 0 0) rfl rfl;rw[←eW];clear eW ez;replace hx:=U.from_ hx Ai;have ez:=ez';clear U ez';clear cez0 cez1 fez;obtain⟨cez0,cez1⟩:=ez.cells2;have fez:=ez.frozen;refine bodyPost_ret (v := .tuple #[.agg #[.bool false,.slice none 0 0],.int .i64 7]) (by simp[results,Tryz.results27,go_sem,cez0,cez1]) rfl ?_
  exact Hfin.out Ab hx
 ·subst hc
  have hR:=HV.out.2 HE.out.symm;have hu:=hu1 rfl;obtain⟨A1,c1,rfl,-⟩:=hu.shape;have HU:=Lib.hid (And.intro hu hR);clear hu1 hu2 hR h0 hu
  go_wp2_with fail
  refine Calls.mono (Qk _ (cz l) D M _ HU.out.1 HU.out.2) ?_;rintro e w4 ⟨r4,rfl,hr4,hx4⟩;obtain⟨b5,A5,n5,c5,rfl⟩:=hr4.cells;clear HU;replace ez:=ez.ext hx4;replace hx:=hx.trans hx4;clear hx4;obtain⟨cez0,cez1⟩:=ez.cells2;have fez:=ez.frozen;go_wp2;obtain⟨W3,eW,ez',U⟩:=ez.put2 (.bool b5) (.slice A5 n5 c5) rfl rfl;rw[←eW];clear eW ez;replace hr4:=hr4.kd U.kd;replace hx:=U.from_ hx Ai;have ez:=ez';clear U ez'
  clear cez0 cez1 fez;obtain⟨cez0,cez1⟩:=ez.cells2;have fez:=ez.frozen;have HF:=Lib.hid (show Sc (cz l) (.tuple #[.agg #[.bool b5,.slice A5 n5 c5],.int .i64 0]) W3 from⟨_,by rw[←HE.out],fun _=>hr4,fun e=>absurd HE.out.symm e⟩);clear hr4;refine bodyPost_ret (v := .tuple #[.agg #[.bool b5,.slice A5 n5 c5],.int .i64 0]) (by simp[results,Tryz.results27,go_sem,cez0,cez1]) rfl ?_;exact Ad.mk HF.out hx
set_option maxHeartbeats 4000000 in
theorem VO(v u0:Value)(l:List Int)(p q:Rat)(D M t:Nat)(w:World)(hv:EI 0 w v l)(hu0:Vw w u0 p q)(hn:l.length≤1000000)(hR:CV (cz l)=0→Pg (cz l) D M)(hp:qsz p≤t)(hq:qsz q≤t)(ht:t≤10000000) :
  Calls Tryz.prog 16 #[v,u0] w (Ad w fun r _=>JB (cz l) p q r):=by
 have HV:=Lib.hid (And.intro hv (And.intro hR (And.intro hp hq)));obtain⟨A,c,rfl⟩:=hv.len;obtain⟨b1,B1,m1,k1,b2,B2,m2,k2,b3,B3,m3,k3,b4,B4,m4,k4,rfl,hi1,hi2⟩:=hu0;have hsg:=EH (p:=p) (q:=q);have HI:=Lib.hid (And.intro hi1 (And.intro hi2 (show qsz p+qsz q < 274877906944 by omega)));clear hv hR hi1 hi2;obtain⟨X0,hX0⟩:∃ X,X=rc (Er (cz l)) p q:=⟨_,rfl⟩
 have HX0:=Lib.hid hX0;clear hX0
 go_enter Tryz.func16,Tryz.ntmps16
 obtain⟨W1,eW1,eb,y1⟩:=Be.made w 30 #[.bool b1,.slice B1 m1 k1,.bool b2,.slice B2 m2 k2,.bool b3,.slice B3 m3 k3,.bool b4,.slice B4 m4 k4] (by simp[Ag])
 go_upto_region 1 with(fail)
 rw[←eW1];clear eW1;have hx:=y1;clear y1
 go_wp2_with fail
 refine Calls.mono (Oz _ l _ (HV.out.1.ext hx) hn) ?_;rintro e w2 ⟨r2,rfl,⟨u,rfl,hu1,hu2⟩,hx2⟩;replace eb:=eb.ext hx2;replace hx:=hx.trans hx2;clear hx2;obtain⟨E,hE⟩:∃ E,E=CV (cz l):=⟨_,rfl⟩
 have hc:=Et (cz l);rw[←hE]at hu1 hu2 hc ⊢;have HE:=Lib.hid hE;clear hE;have fin:E≠0→∀ {W:World},Ext w W→Ad w (fun r _=>JB (cz l) p q r) (.returned (.tuple #[.int .i64 0,.int .i64 E])) W:=fun hne W h=>Ad.mk (by unfold JB;rw[←HE.out,if_neg (fun z=>hne z.1),if_neg hne]) h;have Hfin:=Lib.hid fin;clear fin;rcases hc with⟨-,hc⟩ | ⟨-,hc⟩ | ⟨h0,hpl,-,hc⟩
 ·subst hc
  clear hu1 hu2;go_wp2;refine bodyPost_ret (v := .tuple #[.int .i64 0,.int .i64 5]) (by simp[results,Tryz.results16,go_sem]) rfl ?_;exact Hfin.out Ab hx
 ·subst hc
  clear hu1 hu2;go_wp2;refine bodyPost_ret (v := .tuple #[.int .i64 0,.int .i64 7]) (by simp[results,Tryz.results16,go_sem]) rfl ?_;exact Hfin.out Ab hx
 subst hc;have hR:=HV.out.2.1 HE.out.symm;have hu:=hu1 rfl;obtain⟨A1,c1,rfl,-⟩:=hu.shape;have HU:=Lib.hid (And.intro hu hR);clear hu1 hu2 hR h0 hu;have h22:=Ext.refl w2;obtain⟨ceb0,ceb1,ceb2,ceb3,ceb4,ceb5,ceb6,ceb7⟩:=eb.cells8;have feb:=eb.frozen
 go_wp2_with fail
 refine Calls.mono (WH _ _ p q _ (HI.out.1.ext hx) (HI.out.2.1.ext hx) HI.out.2.2) ?_;rintro e w3 ⟨r3,rfl,rfl,hx3⟩;clear ceb0 ceb1 ceb2 ceb3 ceb4 ceb5 ceb6 ceb7 feb;replace eb:=eb.ext hx3;replace hx:=hx.trans hx3;replace h22:=h22.trans hx3;clear hx3;generalize KA (p - q)=m at *;by_cases hqp:q < p
 ·rw[decide_eq_true hqp]at hsg
  have HF:=Lib.hid (show JB (cz l) p q (.tuple #[.int .i64 0,.int .i64 2]) by unfold JB;rw[←HE.out,if_neg (fun z=>by have:=z.2;grind),if_pos rfl,if_neg Aj]);go_wp2;refine bodyPost_ret (v := .tuple #[.int .i64 0,.int .i64 2]) (by simp[results,Tryz.results16,go_sem]) rfl ?_;exact Ad.mk HF.out hx
 rw[decide_eq_false hqp]at hsg;have HW:=Lib.hid (HU.out.1.ext h22);obtain⟨ceb0,ceb1,ceb2,ceb3,ceb4,ceb5,ceb6,ceb7⟩:=eb.cells8;have feb:=eb.frozen
 go_upto_region 6 with(fail)
 refine Ae 6 [21,22,23,24,25,26] [[],[0],[],[2],[],[4],[0,1,2,3,4,5],[0,1,2,3,4,5,6],[0,1,2,3,4,5,6,7]] [0,3] [_,_] [(kv ?_),(fun γ=>γ 1),(kv ?_),(kv ?_),(kv ?_),(kv ?_)] (fun γ w'=>[True,RY 0 23 w' (γ 1) (Er (cz l)),True,True,True,True]) Bd Ah Ah Bb Ah Bc Bg ?hstep1 ?_
 case hstep1 =>
  iterate 6 refine⟨?_,?_⟩
  trivial
  iterate 1 focus
   intro γ w' he hf;clear hf;refine⟨by trivial,?_⟩;intro R hR;have hc:=he.cells;go_simp;refine hR _ _ (Ext.refl _) ?_ trivial;rfl
  ·intro γ w' he hf;clear hf;refine⟨trivial,?_⟩;intro R hR
   go_simp;exact AX (F:=fun r w''=>RY 0 23 w'' (r) (Er (cz l))) (Ad.imp (Q5 _ (cz l) D M w' (HW.out.ext he) HU.out.2) fun _ _ h=>h.lower (Nat.zero_le _)) hR
  iterate 4 focus
   intro γ w' he hf;clear hf;refine⟨by trivial,?_⟩;intro R hR;have hc:=he.cells;have cq0:=he.cell ceb0;have cq1:=he.cell ceb1;have cq2:=he.cell ceb2;have cq3:=he.cell ceb3;have cq4:=he.cell ceb4;have cq5:=he.cell ceb5;have cq6:=he.cell ceb6;have cq7:=he.cell ceb7;go_simp;refine hR _ _ (Ext.refl _) ?_ trivial;rfl
 intro γ w5 hx5 hF;have p1:RY 0 23 w5 (γ 1) (Er (cz l)):=Au.get hF 1 Ab;clear hF;simp only[AZ,Nat.reduceAdd];generalize γ 1=g1 at *;clear γ;have HP1:=Lib.hid p1;obtain⟨cA,cn,cc,rfl⟩:=p1.cell;have hlim:=HU.out.2.lim;have hin:Calls Tryz.prog 51 #[.agg #[.slice cA cn cc],.agg #[.bool b1,.slice B1 m1 k1,.bool b2,.slice B2 m2 k2],.agg #[.bool b3,.slice B3 m3 k3,.bool b4,.slice B4 m4 k4]] w5 (Ad w5 fun r _=>r = .int .i64 X0):=by
  obtain⟨S,hC⟩:=HU.out.2.chn;have h9:D*(M+t+1)≤900*(M+t+1):=Nat.mul_le_mul_right _ hlim.2;have:=eH _ _ _ (Er (cz l)) p q 0 S D M t (kn (Er (cz l))) w5 HP1.out (HI.out.1.ext (hx.trans hx5)) (HI.out.2.1.ext (hx.trans hx5)) hC HU.out.2.k HV.out.2.2.1 HV.out.2.2.2 Aa;have e:((V (F4 (Er (cz l)) (pd (Er (cz l))) (kn (Er (cz l)))) p:Nat):Int) - (V (F4 (Er (cz l)) (pd (Er (cz l))) (kn (Er (cz l)))) q:Nat)=X0:=by
   rw[HX0.out];exact Ov HU.out.2.k _ _
  rw[e]at this;exact this
 have HIN:=Lib.hid hin;clear hin p1
 go_wp2_with fail
 refine Calls.mono HIN.out ?_;rintro e w6 ⟨r6,rfl,rfl,hx6⟩;have hx7:=(hx.trans hx5).trans hx6;clear hx5 hx6;have HF:=Lib.hid (show JB (cz l) p q (.tuple #[.int .i64 X0,.int .i64 0]) by unfold JB;rw[←HE.out,if_pos ⟨rfl,Aj⟩,if_pos rfl,if_pos Aj,HX0.out]);go_wp2;refine bodyPost_ret (v := .tuple #[.int .i64 X0,.int .i64 0]) (by simp[results,Tryz.results16,go_sem]) rfl ?_;exact Ad.mk HF.out hx7
set_option maxHeartbeats 4000000 in
theorem RF(v:Value)(l:List Int)(D M N:Nat)(w:World)(hv:EI 0 w v l)(hn:l.length≤1000000)(hR:CV (cz l)=0→Pg (cz l) D M)
  (hdeep:CV (cz l)=0→∀ d p q,Hp.Node (-(2:Rat)^bx (cz l)) ((2:Rat)^bx (cz l)) d p q→N≤d→rc (Er (cz l)) p q≤1) (hN:N≤1000000000) (hD:D≤30) :
  Calls Tryz.prog 25 #[v] w (Ad w fun r w'=>Wq w.heap.size 30 (cz l) N r w'):=by
 have HV:=Lib.hid (And.intro hv (And.intro hR hdeep));obtain⟨A,c,rfl⟩:=hv.len;clear hv hR hdeep
 go_enter Tryz.func25,Tryz.ntmps25
 go_wp2_with fail
 refine Calls.mono (Oz _ l _ HV.out.1 hn) ?_;rintro e w2 ⟨r2,rfl,⟨u,rfl,hu1,hu2⟩,hx⟩;obtain⟨E,hE⟩:∃ E,E=CV (cz l):=⟨_,rfl⟩
 have hc:=Et (cz l);rw[←hE]at hu1 hu2 hc ⊢;have HE:=Lib.hid hE;clear hE;have fin:E≠0→∀ {W:World},Ext w W→Ad w (fun r w'=>Wq w.heap.size 30 (cz l) N r w') (.returned (.tuple #[.slice none 0 0,.int .i64 E])) W:=fun hne W h=>Ad.mk ⟨_,by rw[←HE.out],fun e=>absurd (HE.out.trans e) hne,fun _=>rfl⟩ h;have Hfin:=Lib.hid fin;clear fin;rcases hc with⟨-,hc⟩ | ⟨-,hc⟩ | ⟨h0,hpl,-,hc⟩
 ·subst hc
  clear hu1 hu2;go_wp2;refine bodyPost_ret (v := .tuple #[.slice none 0 0,.int .i64 5]) (by simp[results,Tryz.results25,go_sem]) rfl ?_;exact Hfin.out Ab hx
 ·subst hc
  clear hu1 hu2;go_wp2;refine bodyPost_ret (v := .tuple #[.slice none 0 0,.int .i64 7]) (by simp[results,Tryz.results25,go_sem]) rfl ?_;exact Hfin.out Ab hx
 subst hc;have hR:=HV.out.2.1 HE.out.symm;have hu:=hu1 rfl;obtain⟨A1,c1,rfl,-⟩:=hu.shape;have HU:=Lib.hid (And.intro hu hR);clear hu1 hu2 hR h0 hu
 go_wp2_with fail
 refine Calls.mono (Q5 _ (cz l) D M _ HU.out.1 HU.out.2) ?_;rintro e w3 ⟨r3,rfl,hr3,hx3⟩;have hsz3:=hx3.size;have hszx:=hx.size;obtain⟨cA,cn,cc,rfl⟩:=hr3.cell;have HU3:=Lib.hid (HU.out.1.ext hx3);have HC:=Lib.hid hr3;replace hx:=hx.trans hx3;clear hx3;clear hr3
 go_wp2_with fail
 refine Calls.mono (Y0 _ (cz l) D M _ HU3.out HU.out.2) ?_;rintro e w4 ⟨r4,rfl,hr4,hx4⟩;have hsz4:=hx4.size;obtain⟨b1,B1,m1,k1,b2,B2,m2,k2,b3,B3,m3,k3,b4,B4,m4,k4,rfl⟩:=hr4.cells;have HI:=Lib.hid hr4;have HX4:=Lib.hid (hx.trans hx4);clear hr4;have hcall:Calls Tryz.prog 64 #[.agg #[.slice cA cn cc],.slice none 0 0,.agg #[.bool b1,.slice B1 m1 k1,.bool b2,.slice B2 m2 k2,.bool b3,.slice B3 m3 k3,.bool b4,.slice B4 m4 k4]] w4
   (R6 w3.heap.size 30 w4 (.slice none 0 0) ([] ++ Jl (rc (Er (cz l))) N (-(2:Rat)^bx (cz l)) ((2:Rat)^bx (cz l)))):=by
  obtain⟨S,hC⟩:=HU.out.2.chn;have hbx:=Xg HU.out.2.q;have hqj:=XD (bx (cz l));have hM:=HU.out.2.lim.1;have hpos:=Ce (bx (cz l));have hPQ : -(2:Rat)^bx (cz l) < (2:Rat)^bx (cz l):=by grind
  have hsf:=HU.out.2.sf;have h9:D*(M+(3*100000+N+4)+1)≤30*(M+(3*100000+N+4)+1):=Nat.mul_le_mul_right _ hD;have hdp:=HV.out.2.2 HE.out.symm;have hnodes:=Vm hsf hPQ hdp N 0 _ _ (Hp.Node.root _ _) Aa;have hlen:(Jl (rc (Er (cz l))) N (-(2:Rat)^bx (cz l)) ((2:Rat)^bx (cz l))).length≤1000:=by
   have h1:=hnodes.2.1;have h2:rc (Er (cz l)) (-(2:Rat)^bx (cz l)) ((2:Rat)^bx (cz l))≤1000:=by
    rw[←Ov HU.out.2.k];unfold rts;have h3:=bH (F4 (Er (cz l)) (pd (Er (cz l))) (kn (Er (cz l)))) (-(2:Rat)^bx (cz l));rw[Co]at h3;obtain⟨K0,q1,q2⟩:=IC hC.f (BS hC.f) hC.z (EM hC.z) hC.s hC.d;rw[q1.uniq HU.out.2.k]at q2;have:=hC.e;omega
   omega
  exact Um w3 _ (Er (cz l)) _ _ _ S D M (kn (Er (cz l))) N 100000 HC.out hC HU.out.2.k hPQ Aa Aa hdp (fun d p q hn=>hsf.nonneg (Std.le_of_lt (hn.within hPQ).2.1)) Aa
   N 0 _ _ _ _ [] w4 (Hp.Node.root _ _) Aa Aa hx4 (HI.out.has Aa Aa) (EQ.nil _ _ _) (by simpa using hlen)
 have HK:=Lib.hid hcall;clear hcall
 go_wp2_with fail
 refine Calls.mono HK.out ?_;rintro e w5 ⟨r5,rfl,hown,U,-⟩;have hx5:Ext w w5:=U.from_ HX4.out (fun g hg=>by simp[blk,Value.ownBlock]at hg);have HF:=Lib.hid (show Wq w.heap.size 30 (cz l) N (.tuple #[r5,.int .i64 0]) w5 from⟨r5,by rw[←HE.out],fun _=>EQ.lower hown Aa,fun e=>absurd HE.out.symm e⟩);clear hown U hx hx4;go_wp2;refine bodyPost_ret (v := .tuple #[r5,.int .i64 0]) (by simp[results,Tryz.results25,go_sem]) rfl ?_
 exact Ad.mk HF.out hx5
end Go.Proofs.YtmhgnigpmompmaaGreat
namespace Go.Hp
structure FI(F:Nat→Rat):Prop where
 z:ZI F
 f:Af F
 n0:F≠pz
 p:pl F≤7
 b:∀ i,(F i).num.natAbs≤4095
theorem Gc{F:Nat→Rat}(z:ZI F){i s:Nat}(hs:1≤s)(h:(F i).num.natAbs < bp s):qsz (F i)≤s:=by
 have h3:=C8 h;rw[z.num i,Ba];omega
theorem FI.q{F:Nat→Rat}(h:FI F)(i:Nat):qsz (F i)≤1:=Gc h.z Ab (Nat.lt_of_le_of_lt (h.b i) Ab)
theorem RL{F:Nat→Rat}(z:ZI F)(f:Af F){n X:Nat}(hp:pl F≤n+1)(h:∀ i,(F i).num.natAbs≤X)(i:Nat):(pd F i).num.natAbs≤n*X:=by
 have e:pd F i=((((i+1:Nat):Int)*(F (i+1)).num:Int):Rat):=by
  show((i+1:Nat):Rat)*F (i+1)=_
  conv=>lhs;rw[z.num (i+1)]
  push_cast;rfl
 rw[e];show(((i+1:Nat):Int)*(F (i+1)).num).natAbs≤_;rw[Int.natAbs_mul];by_cases hi:i+1≤n
 ·exact Nat.mul_le_mul hi (h _)
 ·have:F (i+1)=0:=(AJ f) _ Aa
  rw[this];simp
theorem Wv{F:Nat→Rat}(z:ZI F)(f:Af F)(h0:F≠pz){X:Nat}(h:∀ i,(F i).num.natAbs≤X)(i:Nat):(pp F i).num.natAbs≤X:=by
 rw[NQ z f h0];show((F i).num / pcn F).natAbs≤X;exact Nat.le_trans (Int.natAbs_ediv_le_natAbs _ _) (h i)
theorem Yo{F:Nat→Rat}(z:ZI F){X:Nat}(h:∀ i,(F i).num.natAbs≤X):Jh ((X:Nat):Rat) F:=fun i=>by
 rw[z.num i,JK];exact_mod_cast h i
theorem Zc{F:Nat→Rat}(z:ZI F){X:Nat}(h:Jh ((X:Nat):Rat) F)(i:Nat):(F i).num.natAbs≤X:=by
 have:=h i;rw[z.num i,JK]at this;exact_mod_cast this
theorem VX(a b c d:Nat):((a:Nat):Rat)*(((b:Nat):Rat)*((c:Nat):Rat)*((d:Nat):Rat)*((d:Nat):Rat))=((a*(b*c*d*d):Nat):Rat):=by push_cast;rfl
theorem FI.w{F:Nat→Rat}(h:FI F):(∀ i,(Er F i).num.natAbs≤7*(4095*7*15^7*15^7))∧pl (Er F)≤7:=by
 have hP:=BI.pp h.z h.f h.n0;have hS:=PD h.z h.f h.n0;have hpl:=Ep h.z h.f;have hd:J8 (pp F) (Er F):=by
  obtain⟨hC,hW,e,-,-⟩:=FX hP;exact⟨yc (pp F),hC.z,hC.f,by rw[Bl];exact e⟩
 have h1:=YZ hP.z hP.f hP.n hS.p.z hS.p.f hd (n:=7) (by rw[hpl];exact h.p) (Yo hP.z (Wv h.z h.f h.n0 h.b));refine⟨Zc hS.p.z ?_,?_⟩
 ·intro i
  have:=h1 i;refine Std.le_trans this ?_;have e:(1:Rat)+2*((7:Nat):Rat)=((15:Nat):Rat):=by exact_mod_cast(rfl:1+2*7=15)
  rw[e,KS];have:((7:Nat):Rat)*(((4095:Nat):Rat)*((7:Nat):Rat)*((15^7:Nat):Rat)*((15^7:Nat):Rat))=((7*(4095*7*15^7*15^7):Nat):Rat):=VX 7 4095 7 _;rw[this];exact Std.le_refl _
 ·have:=Dv.le hS.p.f hP.f hP.n (M5 hd)
  rw[hpl]at this;have:=h.p;omega
theorem FI.chn{F:Nat→Rat}(h:FI F):LQ (Er F) 3 (pl (Er F)+pl (pd (Er F))) 32768∧pl (Er F)+pl (pd (Er F))≤13:=by
 obtain⟨h1,h2⟩:=h.w;have hS:=PD h.z h.f h.n0;have h3:=NE hS.p.f;have h4:=AY hS.p.f hS.p.n;have hD:pl (Er F)+pl (pd (Er F))≤13:=by omega
 have hp:2^(pl (Er F)+pl (pd (Er F)))≤2^13:=Nat.pow_le_pow_right Ab hD;have hm:(pl (Er F)+pl (pd (Er F))+1)*(32768+1)≤14*32769:=Nat.mul_le_mul_right _ Aa;refine⟨⟨hS.p.z,hS.p.f,fun i=>Gc hS.p.z Ab (Nat.lt_of_le_of_lt (h1 i) (by decide +kernel)),fun i=>Gc (EM hS.p.z) Ab (Nat.lt_of_le_of_lt (RL hS.p.z hS.p.f (n:=6) Aa h1 i) (by decide +kernel)),rfl,Aa,Aa,Aa⟩,hD⟩
theorem FI.sim{F:Nat→Rat}(h:FI F):UC F 1 7 16384 36000:=by
 have hP:=BI.pp h.z h.f h.n0;have hpl:=Ep h.z h.f;have hpn:=Wv h.z h.f h.n0 h.b;exact⟨h.z,h.f,h.n0,h.q,fun i=>Gc (EM hP.z) Ab (Nat.lt_of_le_of_lt (RL hP.z hP.f (n:=6) (by rw[hpl];exact h.p) hpn i) Ab),
  fun i=>Za hP (n:=7) (s:=1) (by rw[hpl];exact h.p) Ab (fun i=>Gc hP.z Ab (Nat.lt_of_le_of_lt (hpn i) Ab)) Ab i,h.p,Ab,Ab,Ab,Ab⟩
theorem FI.err{F:Nat→Rat}(h:FI F):CV F=0:=by
 refine OZ h.n0 (by have:=h.p;omega) fun⟨i,b,h1,h2⟩=>?_;have:=h1.le (m:=12) (Nat.lt_of_le_of_lt (h.b i) Ab);omega
theorem FI.pg{F:Nat→Rat}(h:FI F):Pg F (pl (Er F)+pl (pd (Er F))) 32768:=
 ⟨h.z,h.f,h.n0,h.err,fun i=>Nat.le_trans (h.q i) Ab,by have:=h.p;omega,⟨1,7,16384,36000,h.sim⟩,⟨3,h.chn.1⟩⟩
theorem Y7{S D b:Nat}(hS:S≤3)(hD:D≤13)(hb:b≤400):OH S D b≤660000000:=by
 have hp:2^D≤8192:=Nat.le_trans (Nat.pow_le_pow_right Ab hD) Ab;have h1:(S+1)*2^D≤4*8192:=Nat.mul_le_mul Aa hp;have h2:(D+1)*((S+1)*2^D+1)≤14*32769:=Nat.mul_le_mul Aa Aa;have h3:b*(D+1)≤400*14:=Nat.mul_le_mul hb Aa;have h4:(3+b)*D≤403*13:=Nat.mul_le_mul Aa hD;have h5:Jv S D b≤50338607:=by unfold Jv;omega
 have h6:D*Jv S D b≤13*50338607:=Nat.mul_le_mul hD h5;unfold OH QQ XC;omega
theorem FI.sep{F:Nat→Rat}(h:FI F){p q:Rat}{E:Nat}(hE:660000000≤E)(hp:ab p≤2^400 - 1)(hq:ab q≤2^400 - 1)(hpq:p < q)(hd:(q - p)*2^E≤1):rc (Er F) p q≤1:=by
 obtain⟨hC,hD⟩:=h.chn;have hS:=PD h.z h.f h.n0;have h1:=Y7 (S:=3) (b:=400) Ab hD Ab;have h2:=CJ (Mk (show OH 3 (pl (Er F)+pl (pd (Er F))) 400≤E by omega)) (show 0≤q - p by grind);exact hS.st.sep hC.s hC.d rfl hp hq hpq (Std.le_trans h2 hd)
theorem aB{b:Nat}(j:Nat)(h:j+1≤b):(2:Rat)^j≤2^b - 1:=by
 have h1:=Mk h;rw[Rat.pow_succ]at h1;have:=Om j;grind
theorem FI.deep{F:Nat→Rat}(h:FI F)(d:Nat)(p q:Rat)(hn:Node (-(2:Rat)^bx F) ((2:Rat)^bx F) d p q)(hd:700000000≤d):rc (Er F) p q≤1:=by
 have hb:=Xg h.q;have hpos:=Ce (bx F);have hPQ : -(2:Rat)^bx F < (2:Rat)^bx F:=by grind
 obtain⟨w1,w2,w3⟩:=hn.within hPQ;have hB:=aB (b:=400) (bx F) Aa;have hap:ab p≤2^400 - 1:=Ij.2 ⟨Aj,Aj⟩;have haq:ab q≤2^400 - 1:=Ij.2 ⟨Aj,Aj⟩;obtain⟨E,hE⟩:∃ E,d=E+(bx F+1):=⟨d - (bx F+1),Aa⟩
 refine h.sep (E:=E) Aa hap haq w2 ?_;have hw:=hn.width;rw[hE,DF,Rat.pow_succ]at hw;have:(q - p)*2^E*(2^bx F*2)=1*(2^bx F*2):=by grind
 have hne:(2:Rat)^bx F*2≠0:=by grind
 have:(q - p)*2^E=1:=by grind
 rw[this];exact Std.le_refl _
theorem U6:∀ l:List Int,KC 0 l≤l.length - 1
 | []=>Nat.le_refl _
 | s::l=>by
  rw[KC]
  split
  ·have:=U6 l;simp;omega
  ·rename_i h
   rw[if_neg (show ¬ (0:Int) = -s by omega)];have:=XU l s;simp;omega
theorem PT:pl (cz [-2,0,1])=3:=Le (Cb [-2,0,1]) (fun _=>by decide +kernel)
theorem Zy:cz [-2,0,1]≠pz:=fun e=>by have:=PT;rw[e,BV]at this;omega
theorem FM:FI (cz [-2,0,1]):=by
 refine⟨ZI.cz _,Af.cz _,Zy,by rw[PT];decide,fun i=>?_⟩
 match i with
 | 0=>decide +kernel
 | 1=>decide +kernel
 | 2=>decide +kernel
 | i+3=>rw[Iz Ac];decide
theorem TH(x:Rat):ev (cz [-2,0,1]) x = -2+x*x:=by
 rw[EU (Cb [-2,0,1]) x];show cz [-2,0,1] 0+x*(cz [-2,0,1] 1+x*(cz [-2,0,1] 2+x*0))=_;have h0:cz [-2,0,1] 0 = -2:=by decide +kernel
 have h1:cz [-2,0,1] 1=0:=by decide +kernel
 have h2:cz [-2,0,1] 2=1:=by decide +kernel
 rw[h0,h1,h2];grind
theorem Xx:ld (cz [-2,0,1])=1:=by unfold ld;rw[PT];decide +kernel
theorem Zr:SF (cz [-2,0,1]):=by
 refine⟨⟨ZI.cz _,Af.cz _,Zy,by rw[Xx];decide,?_⟩,?_⟩
 ·have h:=FM
  have h1:cn (cz [-2,0,1])∣1:=by
   have h2:=IK (F:=cz [-2,0,1]) (Af.cz _) 2;have h3:(cz [-2,0,1] 2).num=1:=by decide +kernel
   rw[h3]at h2;exact Int.natCast_dvd_natCast.1 h2
  exact Nat.dvd_one.1 h1
 ·have e:∀ i,pd (cz [-2,0,1]) i=cs 0 (cs 2 pz) i:=fun i=>by
   match i with
   | 0=>decide +kernel
   | 1=>decide +kernel
   | i+2 =>
    show((i+2+1:Nat):Rat)*cz [-2,0,1] (i+3)=pz i;rw[Iz Ac,Rat.mul_zero];rfl
  have e':pd (cz [-2,0,1])=cs 0 (cs 2 pz):=funext e;have f':cz [-2,0,1]=cs (-2) (cs 0 (cs 1 pz)):=funext fun i=>by
   match i with
   | 0=>decide +kernel
   | 1=>decide +kernel
   | 2=>decide +kernel
   | i+3=>rw[Iz Ac];rfl
  refine⟨cs (-(1 / 2)) pz,cs 0 (cs (1 / 4) pz),Af.pz.cs _,(Af.pz.cs _).cs _,?_⟩;rw[e',f'];simp only[L9,Cy]
  funext i
  match i with
  | 0=>simp only[pad,psc,cs,pz,pone];grind
  | 1=>simp only[pad,psc,cs,pz,pone];grind
  | 2=>simp only[pad,psc,cs,pz,pone];grind
  | 3=>simp only[pad,psc,cs,pz,pone];grind
  | i+4=>simp only[pad,psc,cs,pz,pone];grind
theorem YO{F:Nat→Rat}(h:SF F):Er F=F:=by
 have e:pp F=F:=h.p.self;have h2:=aY h h.p (Dv.refl F);have h3:=FX h.p;unfold Er;rw[e];refine h3.2.1.eq_dv h.p ⟨yc F,h3.1.f,?_⟩ h2;rw[Bl];exact h3.2.2.1
theorem WS:Er (cz [-2,0,1])=cz [-2,0,1]:=YO Zr
theorem dS:bx (cz [-2,0,1])=2:=by
 refine(P2.bx ?_).symm;rw[PT];have h0:cz [-2,0,1] 0 = -2:=by decide +kernel
 have h1:cz [-2,0,1] 1=0:=by decide +kernel
 have e1:En (cz [-2,0,1]) 1=2:=by
  show(if (0:Rat) < ab (cz [-2,0,1] 0 / ld (cz [-2,0,1]))then ab (cz [-2,0,1] 0 / ld (cz [-2,0,1]))else 0)=2;rw[h0,Xx];decide +kernel
 have e2:En (cz [-2,0,1]) (3 - 1)=2:=by
  show(if En (cz [-2,0,1]) 1 < ab (cz [-2,0,1] 1 / ld (cz [-2,0,1]))then ab (cz [-2,0,1] 1 / ld (cz [-2,0,1]))else En (cz [-2,0,1]) 1)=2;rw[e1,h1,Xx];decide +kernel
 rw[e2];refine⟨by decide +kernel,fun i hi=>?_⟩
 match i with
 | 0=>decide +kernel
 | 1=>decide +kernel
theorem Zo:rc (cz [-2,0,1]) 0 2=1∧rc (cz [-2,0,1]) (-4) 4=2∧rc (cz [-2,0,1]) (-4) 0=1∧rc (cz [-2,0,1]) 0 4=1:=by
 have hs:=Zr;have e0:ev (cz [-2,0,1]) 0 = -2:=by rw[TH];decide +kernel
 have e2:ev (cz [-2,0,1]) 2=2:=by rw[TH];decide +kernel
 have e4:ev (cz [-2,0,1]) 4=14:=by rw[TH];decide +kernel
 have em:ev (cz [-2,0,1]) (-4)=14:=by rw[TH];decide +kernel
 have h1:1≤rc (cz [-2,0,1]) 0 2:=hs.st.change_counts (by decide +kernel) (by rw[e0];decide +kernel) (by rw[e0,e2];decide +kernel);have h2:1≤rc (cz [-2,0,1]) (-4) 0:=hs.st.change_counts (by decide +kernel) (by rw[em];decide +kernel) (by rw[e0,em];decide +kernel);have h3:=hs.sub (p:=0) (x:=0) (y:=2) (q:=4) (by decide +kernel) (by decide +kernel) (by decide +kernel);have h4:=WM (cz [-2,0,1]) (-4) 0 4
 have h5:rc (cz [-2,0,1]) (-4) 4≤2:=by
  rw[←Ov hs.st.k];unfold rts;have h6:V (F4 (cz [-2,0,1]) (pd (cz [-2,0,1])) (kn (cz [-2,0,1]))) (-4)≤kn (cz [-2,0,1]) - 1:=by
   have:=U6 ((F4 (cz [-2,0,1]) (pd (cz [-2,0,1])) (kn (cz [-2,0,1]))).map fun F=>BA (ev F (-4)));rw[List.length_map,Co]at this;exact this
  obtain⟨S,hS⟩:=Ee hs.p.f;obtain⟨T,hT⟩:=Ee (BS hs.p.f);obtain⟨K,q1,q2⟩:=IC hs.p.f (BS hs.p.f) hs.p.z (EM hs.p.z) (S:=max S T) (fun i=>Nat.le_trans (hS i) (Nat.le_max_left _ _)) (fun i=>Nat.le_trans (hT i) (Nat.le_max_right _ _));rw[NE hs.p.f,PT]at q2;rw[q1.kn]at h6 ⊢;omega
 omega
theorem bD(N:Nat):Jl (rc (Er (cz [-2,0,1]))) (N+1) (-(2:Rat)^bx (cz [-2,0,1])) ((2:Rat)^bx (cz [-2,0,1]))=[(-4,0),(0,4)]:=by
 rw[WS,dS];have e1:(2:Rat)^2=4:=by decide +kernel
 have e2 : -(2:Rat)^2 = -4:=by decide +kernel
 obtain⟨-,r1,r2,r3⟩:=Zo;rw[e2,e1,MO Aa Aa];have e3:((-4:Rat)+4) / 2=0:=by decide +kernel
 rw[e3,Ku r2,Ku r3];rfl
end Go.Hp
namespace Go.Hp
open Go.RowKit
end Go.Hp
namespace Go.Proofs.YtmhgnigpmompmaaGreat
open Go.RowKit Go.Hp
set_option maxRecDepth 20000 in
set_option maxHeartbeats 1000000 in
theorem gB(v:Value)(ns:List Int)(w:World)(hv:Tk w v ns)(hn:ns.length≤1000)(hs:∀ n∈ns,-4294967296 < n∧n < 4294967296):Calls Tryz.prog 21 #[v] w (Ad w fun r w'=>Ll w.heap.size w' r ns):=by
 obtain⟨g,c,rfl,h1,h2,h3⟩:=hv;have H3:=Lib.hid (And.intro h3 hs);clear h3 hs
 go_enter Tryz.func21,Tryz.ntmps21
 go_wp2
 go_loopw [3,4] (fun ov iv wr=>∃ (k:Nat),k≤ns.length∧iv = .int .i64 k∧D7 w.heap.size 26 wr ov (ns.take k)∧Ext w wr) (fun _ iv _=>ns.length - (intOf iv).toNat)
 case atStart=>exact⟨0,Nat.zero_le _,rfl,BD.nil _ _ _ _ _,Ext.refl _⟩
 case round =>
  obtain⟨k,hk,rfl,hown,hx⟩:=hrel;have Hown0:=Lib.hid hown;clear hown;by_cases hkl:k < ns.length
  ·have q0:=hx.cell (H3.out.1 k hkl)
   obtain⟨m,hm⟩:∃ m,m=ns[k]:=⟨_,rfl⟩
   rw[←hm]at q0;have hb:=H3.out.2 ns[k] (List.getElem_mem hkl);rw[←hm]at hb;have Hm:=Lib.hid hm;clear hm
   go_wp2_with fail
   refine Calls.mono (gI m _ hb.1 hb.2) ?_;rintro e w2 ⟨r,rfl,hr,hx2⟩;obtain⟨b5,A5,n5,c5,rfl⟩:=hr.cells;have Hr:=Lib.hid hr;clear hr;have hown:=Hown0.out.ext hx2;have Hown:=Lib.hid hown;clear hown;replace hx:=hx.trans hx2;have hsz:=hx.size;have hlk:(ns.take k).length≤1000:=Nat.le_trans (List.length_take_le _ _) Aa;clear hx2 q0 Hown0
   go_wp2_with (at_builtin;refine AB rfl _ _ 22 rfl u3 (.slice (some ⟨w2.heap.size,0,none⟩) 1 1) rfl rfl (NI w2 w.heap.size _ _ _ _ _ Hown.out Hr.out (by first | (rw[AP];omega) | omega) hsz rfl) ?_)
   first | intro v' w5 hown U | rintro v' w5 ⟨hown,U⟩
   replace hx:=(Hown.out.ext ((Ext.refl w2).alloc _)).from_ U (hx.alloc _) (Nat.le_refl _);have Hown':=Lib.hid hown;clear hown U;go_wp2
   go_roundw
   case rel=>exact⟨k+1,Aa,by go_num,by
    rw[List.take_succ_eq_append_getElem hkl,←Hm.out];exact Hown'.out,hx⟩
   case measure=>simp[intOf]<;>omega
  ·obtain rfl:k=ns.length:=by omega
   have hq:=D7.row Hown0.out;rw[List.take_of_length_le (Nat.le_refl _)]at hq;have Hq:=Lib.hid hq;clear hq Hown0;go_wp2
   go_ret
   exact Ad.mk Hq.out hx
end Go.Proofs.YtmhgnigpmompmaaGreat
namespace Go.Hp
open Go.RowKit
theorem Km.one{w:World}{cs:Array Value}{p q:Rat}(h:Km w (.agg cs) p q):∃ b1 A1 n1 c1 b2 A2 n2 c2 b3 A3 n3 c3 b4 A4 n4 c4,cs=#[.bool b1,.slice A1 n1 c1,.bool b2,.slice A2 n2 c2,.bool b3,.slice A3 n3 c3,.bool b4,.slice A4 n4 c4]:=by
 obtain⟨b1,A1,n1,c1,b2,A2,n2,c2,b3,A3,n3,c3,b4,A4,n4,c4,h1⟩:=h.cells;injection h1 with h1;exact⟨_,_,_,_,_,_,_,_,_,_,_,_,_,_,_,_,h1⟩
theorem EQ.at_{base n c:Nat}{e:TypeId}{w:World}{A:Option Addr}{l:List (Rat×Rat)}(h:EQ base e w (.slice A n c) l){j:Nat}(hj:j < l.length) :
  ∃ g o b1 A1 n1 c1 b2 A2 n2 c2 b3 A3 n3 c3 b4 A4 n4 c4,A=some ⟨g,o,none⟩∧w.cell? ⟨g,o+j*8,none⟩=some (.bool b1)∧w.cell? ⟨g,o+j*8+1,none⟩=some (.slice A1 n1 c1)∧w.cell? ⟨g,o+j*8+2,none⟩=some (.bool b2)∧w.cell? ⟨g,o+j*8+3,none⟩=some (.slice A2 n2 c2) ∧
   w.cell? ⟨g,o+j*8+4,none⟩=some (.bool b3)∧w.cell? ⟨g,o+j*8+5,none⟩=some (.slice A3 n3 c3)∧w.cell? ⟨g,o+j*8+6,none⟩=some (.bool b4)∧w.cell? ⟨g,o+j*8+7,none⟩=some (.slice A4 n4 c4) ∧
   Km w (.agg #[.bool b1,.slice A1 n1 c1,.bool b2,.slice A2 n2 c2,.bool b3,.slice A3 n3 c3,.bool b4,.slice A4 n4 c4]) l[j].1 l[j].2:=by
 obtain⟨A',c',e1,-,-,hA⟩:=BD.row h;have eA:A'=A:=by injection e1 with h1;exact h1.symm
 subst eA;obtain⟨g,o,ha,hb,hc⟩:=hA Aa;obtain⟨cs,q1,q2,q3⟩:=hc j hj;obtain⟨b1,A1,n1,c1,b2,A2,n2,c2,b3,A3,n3,c3,b4,A4,n4,c4,rfl⟩:=Km.one q3;refine⟨g,o,b1,A1,n1,c1,b2,A2,n2,c2,b3,A3,n3,c3,b4,A4,n4,c4,ha,?_,?_,?_,?_,?_,?_,?_,?_,q3⟩
 ·exact q2 0 Ab
 ·exact q2 1 Ab
 ·exact q2 2 Ab
 ·exact q2 3 Ab
 ·exact q2 4 Ab
 ·exact q2 5 Ab
 ·exact q2 6 Ab
 ·exact q2 7 Ab
end Go.Hp
namespace Go.Proofs.YtmhgnigpmompmaaGreat
open Go.RowKit Go.Hp
set_option maxHeartbeats 2000000 in
theorem Sj(x y:Int)(w:World)(h1 : -4294967296 < x∧x < 4294967296)(h2 : -4294967296 < y∧y < 4294967296):Calls Tryz.prog 45 #[.int .i64 x,.int .i64 y] w (Ad w fun r w'=>Km w' r (x:Rat) (y:Rat)):=by
 go_enter Tryz.func45,Tryz.ntmps45
 obtain⟨W1,eW1,ez,y1⟩:=Be.made w 30 #[.bool false,.slice none 0 0,.bool false,.slice none 0 0,.bool false,.slice none 0 0,.bool false,.slice none 0 0] (by simp[Ag])
 go_upto_region 1 with(fail)
 rw[←eW1];clear eW1;have hx:=y1;clear y1
 go_wp2_with fail
 refine Calls.mono (gM x _ Aa Aa) ?_;rintro e w2 ⟨r2,rfl,hr2,hx2⟩;obtain⟨b5,A5,n5,c5,b6,A6,n6,c6,rfl⟩:=hr2.cells;have H2:=Lib.hid hr2;clear hr2;have hgz:=ez.lt;replace ez:=ez.ext hx2;replace hx:=hx.trans hx2;clear hx2
 go_wp2_with fail
 refine Calls.mono (gM y _ Aa Aa) ?_;rintro e w3 ⟨r3,rfl,hr3,hx3⟩;obtain⟨b7,A7,n7,c7,b8,A8,n8,c8,rfl⟩:=hr3.cells;have p1:=H2.out.ext hx3;replace ez:=ez.ext hx3;replace hx:=hx.trans hx3;clear hx3;obtain⟨cez0,cez1,cez2,cez3,cez4,cez5,cez6,cez7⟩:=ez.cells8;have fez:=ez.frozen;go_wp2;obtain⟨W6,eW,ez',U⟩:=ez.put8 (.bool b5) (.slice A5 n5 c5) (.bool b6) (.slice A6 n6 c6) (.bool b7) (.slice A7 n7 c7) (.bool b8) (.slice A8 n8 c8) rfl rfl rfl rfl rfl rfl rfl rfl
 rw[←eW];clear eW ez;replace p1:=p1.kd U.kd;replace hr3:=hr3.kd U.kd;replace hx:=U.from_ hx Ai;have ez:=ez';clear U ez';clear cez0 cez1 cez2 cez3 cez4 cez5 cez6 cez7 fez;obtain⟨cez0,cez1,cez2,cez3,cez4,cez5,cez6,cez7⟩:=ez.cells8;have fez:=ez.frozen;refine bodyPost_ret (v := .agg #[.bool b5,.slice A5 n5 c5,.bool b6,.slice A6 n6 c6,.bool b7,.slice A7 n7 c7,.bool b8,.slice A8 n8 c8]) (by simp[results,Tryz.results45,go_sem,cez0,cez1,cez2,cez3,cez4,cez5,cez6,cez7]) rfl ?_
 exact Ad.mk ⟨_,_,_,_,_,_,_,_,_,_,_,_,_,_,_,_,rfl,p1,hr3⟩ hx
set_option maxHeartbeats 2000000 in
theorem TZ(v u:Value)(p q p' q':Rat)(w:World)(hv:Km w v p q)(hu:Km w u p' q'):Calls Tryz.prog 33 #[v,u] w (Ad w fun r _=>r = .bool (decide (p=p'∧q=q'))):=by
 obtain⟨b1,A1,n1,c1,b2,A2,n2,c2,b3,A3,n3,c3,b4,A4,n4,c4,rfl,i1,i2⟩:=hv;obtain⟨d1,B1,m1,k1,d2,B2,m2,k2,d3,B3,m3,k3,d4,B4,m4,k4,rfl,j1,j2⟩:=hu;have H:=Lib.hid (And.intro i1 (And.intro i2 (And.intro j1 j2)));clear i1 i2 j1 j2
 go_enter Tryz.func33,Tryz.ntmps33
 obtain⟨W1,eW1,ea,y1⟩:=Be.made w 30 #[.bool b1,.slice A1 n1 c1,.bool b2,.slice A2 n2 c2,.bool b3,.slice A3 n3 c3,.bool b4,.slice A4 n4 c4] (by simp[Ag]);obtain⟨W2,eW2,eb,y2⟩:=Be.made W1 30 #[.bool d1,.slice B1 m1 k1,.bool d2,.slice B2 m2 k2,.bool d3,.slice B3 m3 k3,.bool d4,.slice B4 m4 k4] (by simp[Ag]);have s1:W1.heap.size=w.heap.size+1:=by rw[eW1,World.size_alloc]
 rw[s1]at eb;have hx:=y1.trans y2;replace ea:=ea.ext y2
 go_upto_region 1 with(fail)
 rw[←eW1,←eW2];clear eW1 eW2 y1 y2 s1;obtain⟨cea0,cea1,cea2,cea3,cea4,cea5,cea6,cea7⟩:=ea.cells8;have fea:=ea.frozen;obtain⟨ceb0,ceb1,ceb2,ceb3,ceb4,ceb5,ceb6,ceb7⟩:=eb.cells8;have feb:=eb.frozen
 go_wp2_with fail
 refine Calls.mono (Ty _ _ p p' _ (H.out.1.ext hx) (H.out.2.2.1.ext hx)) ?_;rintro e w3 ⟨r3,rfl,rfl,hx3⟩;clear cea0 cea1 cea2 cea3 cea4 cea5 cea6 cea7 fea ceb0 ceb1 ceb2 ceb3 ceb4 ceb5 ceb6 ceb7 feb;replace ea:=ea.ext hx3;replace eb:=eb.ext hx3;replace hx:=hx.trans hx3;clear hx3;by_cases hp:p=p'
 ·have hd:decide (p=p')=true:=decide_eq_true hp
  have hq:decide (p=p'∧q=q')=decide (q=q'):=by simp[hp]
  have HQ:=Lib.hid hq;clear hq;rw[hd];have HP:=Lib.hid hp;clear hp;obtain⟨cea0,cea1,cea2,cea3,cea4,cea5,cea6,cea7⟩:=ea.cells8;have fea:=ea.frozen;obtain⟨ceb0,ceb1,ceb2,ceb3,ceb4,ceb5,ceb6,ceb7⟩:=eb.cells8;have feb:=eb.frozen
  go_wp2_with fail
  refine Calls.mono (Ty _ _ q q' _ (H.out.2.1.ext hx) (H.out.2.2.2.ext hx)) ?_;rintro e w4 ⟨r4,rfl,rfl,hx4⟩;generalize decide (q=q')=bb at *;go_wp2
  go_ret
  exact Ad.mk (show Value.bool bb = .bool (decide (p=p'∧q=q'))from by rw[HQ.out]) (hx.trans hx4)
 ·have hd:decide (p=p')=false:=decide_eq_false hp
  have hq:decide (p=p'∧q=q')=false:=decide_eq_false fun z=>hp z.1;have HQ:=Lib.hid hq;clear hq;rw[hd];clear hp;go_wp2
  go_ret
  exact Ad.mk (show Value.bool false = .bool (decide (p=p'∧q=q'))from by rw[HQ.out]) hx
set_option maxRecDepth 20000 in
set_option maxHeartbeats 4000000 in
theorem VM(w:World):Calls Tryz.prog 12 #[] w (Ad w fun r _=>r = .bool true):=by
 have K1:=Lib.hid (show ∀ x∈([-2,0,1]:List Int),sz x.natAbs≤1 by decide +kernel);have hcnt:∀ X v u,EI 0 X v [-2,0,1]→Vw X u 0 2→Calls Tryz.prog 16 #[v,u] X (Ad X fun r _=>r = .tuple #[.int .i64 1,.int .i64 0]):=fun X v u hv hu=>by
  refine Ad.imp (VO v u [-2,0,1] 0 2 _ 32768 10 X hv hu Ab (fun _=>FM.pg) (by decide +kernel) (by decide +kernel) Ab) fun r _ h=>?_;rw[h,FM.err,WS,Zo.1,if_pos ⟨rfl,by decide +kernel⟩,if_pos rfl,if_pos (by decide +kernel)]
 have hiso:∀ X v,EI 0 X v [-2,0,1]→Calls Tryz.prog 25 #[v] X (Ad X fun r w'=>∃ c,r = .tuple #[c,.int .i64 0]∧EQ 0 30 w' c [(-4,0),(0,4)]):=fun X v hv=>by
  obtain⟨N,h1,h2⟩:∃ N,700000000≤N+1∧N+1≤1000000000:=⟨800000000,Aa,Aa⟩
  refine Ad.imp (RF v [-2,0,1] _ 32768 (N+1) X hv Ab (fun _=>FM.pg) (fun _ d p q hn hd=>FM.deep d p q hn Aa) h2 (by have:=FM.chn.2;omega)) fun r w' ⟨c,e1,e2,_⟩=>?_;rw[FM.err]at e1;have:=e2 FM.err;rw[bD]at this;exact⟨c,e1,this.lower (Nat.zero_le _)⟩
 have HC:=Lib.hid (And.intro hcnt hiso);clear hcnt hiso
 go_enter Tryz.func12,Tryz.ntmps12
 go_wp2_with fail
 refine Calls.mono (gB _ [-2,0,1] _ (Tk.new w _ [-2,0,1] Ab) Ab Ab) ?_;rintro e w1 ⟨r1,rfl,h1,hx⟩;have H1:=Lib.hid (h1.has (fun x hx=>by have:=K1.out x hx;omega));clear h1;replace hx:=hx.a1
 go_wp2_with fail
 refine Calls.mono (Sj 0 2 _ Aa Aa) ?_;rintro e w2 ⟨r2,rfl,hr2,hx2⟩;have H2:=Lib.hid (And.intro (H1.out.ext hx2) (show Vw w2 r2 0 2 from hr2.has (by decide +kernel) (by decide +kernel)));clear hr2 H1;replace hx:=hx.trans hx2;clear hx2
 go_wp2_with fail
 refine Calls.mono (HC.out.1 _ _ _ H2.out.1 H2.out.2) ?_;rintro e w3 ⟨r3,rfl,rfl,hx3⟩;have H3:=Lib.hid (H2.out.1.ext hx3);clear H2;replace hx:=hx.trans hx3;clear hx3
 go_wp2_with fail
 refine Calls.mono (HC.out.2 _ _ H3.out) ?_;rintro e w4 ⟨r4,rfl,⟨c4,rfl,hown⟩,hx4⟩;replace hx:=hx.trans hx4;clear hx4;obtain⟨A,c,rfl⟩:=hown.len;obtain⟨g,o,b1,A1,n1,c1,b2,A2,n2,c2,b3,A3,n3,c3,b4,A4,n4,c4,rfl,q0,q1,q2,q3,q4,q5,q6,q7,hi0⟩:=hown.at_ (j:=0) Ab;obtain⟨g',o',d1,B1,m1,k1,d2,B2,m2,k2,d3,B3,m3,k3,d4,B4,m4,k4,e1,s0,s1,s2,s3,s4,s5,s6,s7,hi1⟩:=hown.at_ (j:=1) Ab;cases e1;have HI:=Lib.hid (And.intro (show Km w4 _ (-4) 0 from hi0) (show Km w4 _ 0 4 from hi1));clear hi0 hi1 hown H3
 rw[Nat.zero_mul,Nat.add_zero]at q0 q1 q2 q3 q4 q5 q6 q7;rw[Nat.one_mul]at s0 s1 s2 s3 s4 s5 s6 s7;have hl2:([(-4,0),(0,4)]:List (Rat×Rat)).length=2:=rfl;rw[hl2];clear hl2
 go_upto_region 4 with(fail)
 refine Ae 27 [19,20,21,22,23,24,25,26,27,28,29,30,31,32,33,34,35,36,37,38,39,40,41,42,43,44,45] [[],[0],[0,1],[0,1,2],[0,1,2,3],[0,1,2,3,4],[0,1,2,3,4,5],[0,1,2,3,4,5,6],[0,1,2,3,4,5,6,7],[0,1,2,3,4,5,6,7,8],[0,1,2,3,4,5,6,7,8,9],[0,1,2,3,4,5,6,7,8,9,10],[0,1,2,3,4,5,6,7,8,9,10,11],[0,1,2,3,4,5,6,7,8,9,10,11,12],[0,1,2,3,4,5,6,7,8,9,10,11,12,13],[0,1,2,3,4,5,6,7,8,9,10,11,12,13,14],[0,1,2,3,4,5,6,7,8,9,10,11,12,13,14,15],[0,1,2,3,4,5,6,7,8,9,10,11,12,13,14,15,16],[0,1,2,3,4,5,6,7,8,9,10,11,12,13,14,15,16,17],[0,1,2,3,4,5,6,7,8,9,10,11,12,13,14,15],[0,1,2,3,4,5,6,7,8,9,10,11,12,13,14,15,16,17,18,19],[0,1,2,3,4,5,6,7,8,9,10,11,12,13,14,15,16,17,18,19,20],[0,1,2,3,4,5,6,7,8,9,10,11,12,13,14,15,16,17,18,19,20,21],[0,1,2,3,4,5,6,7,8,9,10,11,12,13,14,15,16,17,18,19,20,21,22],[0,1,2,3,4,5,6,7,8,9,10,11,12,13,14,15,16,17,18,19,20,21,22,23],[0,1,2,3,4,5,6,7,8,9,10,11,12,13,14,15,16,17,18,19,20,21,22,23,24],[0,1,2,3,4,5,6,7,8,9,10,11,12,13,14,15,16,17,18,19,20,21,22],[0,1,2,3,4,5,6,7,8,9,10,11,12,13,14,15,16,17,18,19,20,21,22,23,24,25,26],[0,1,2,3,4,5,6,7,8,9,10,11,12,13,14,15,16,17,18,19,20,21,22,23,24,25,26,27],[0,1,2,3,4,5,6,7,8,9,10,11,12,13,14,15,16,17,18,19,20,21,22,23,24,25,26,27,28]] [3,2,5,4] [_,_,_,_] [(kv ?_),(kv ?_),(kv ?_),(kv ?_),(kv ?_),(kv ?_),(kv ?_),(kv ?_),(kv ?_),(kv ?_),(kv ?_),(kv ?_),(kv ?_),(kv ?_),(kv ?_),(kv ?_),(kv ?_),(kv ?_),(kv ?_),(fun γ=>γ 19),(kv (.bool true)),(kv ?_),(kv ?_),(kv ?_),(kv ?_),(kv ?_),(fun γ=>γ 26)] (fun γ w'=>[True,True,True,True,True,True,True,True,True,True,True,True,True,True,True,True,True,True,True,Km w' (γ 19) (-4) 0,True,True,True,True,True,True,Km w' (γ 26) 0 4]) Bd Ah Ah Bb Ah Bc Bg ?hstep1 ?_
 case hstep1 =>
  iterate 27 refine⟨?_,?_⟩
  trivial
  iterate 19 focus
   intro γ w' he hf;clear hf;refine⟨by trivial,?_⟩;intro R hR;have hc:=he.cells;have cq0:=he.cell q0;have cq1:=he.cell q1;have cq2:=he.cell q2;have cq3:=he.cell q3;have cq4:=he.cell q4;have cq5:=he.cell q5;have cq6:=he.cell q6;have cq7:=he.cell q7;have cq8:=he.cell s0;have cq9:=he.cell s1;have cq10:=he.cell s2;have cq11:=he.cell s3;have cq12:=he.cell s4;have cq13:=he.cell s5;have cq14:=he.cell s6;have cq15:=he.cell s7
   go_simp;(try go_ints);(try(rw[if_neg Aa]));(try(rw[if_pos Aa]));(try go_simp);(try go_ints)
   refine hR _ _ (Ext.refl _) ?_ trivial;rfl
  ·intro γ w' he hf;clear hf;refine⟨rfl,?_⟩;intro R hR
   go_simp;exact AX (Sj (-4) 0 w' Aa Aa) hR
  ·intro γ w' he hf;have f19:Km w' (γ 19) (-4) 0:=hf 19 Ab;clear hf;refine⟨rfl,?_⟩;intro R hR
   go_simp;exact Q8 (Ad.imp (TZ _ _ (-4) 0 (-4) 0 w' (HI.out.1.ext he) f19) fun _ _ h=>h) hR
  iterate 5 focus
   intro γ w' he hf;clear hf;refine⟨by trivial,?_⟩;intro R hR;have hc:=he.cells;have cq0:=he.cell q0;have cq1:=he.cell q1;have cq2:=he.cell q2;have cq3:=he.cell q3;have cq4:=he.cell q4;have cq5:=he.cell q5;have cq6:=he.cell q6;have cq7:=he.cell q7;have cq8:=he.cell s0;have cq9:=he.cell s1;have cq10:=he.cell s2;have cq11:=he.cell s3;have cq12:=he.cell s4;have cq13:=he.cell s5;have cq14:=he.cell s6;have cq15:=he.cell s7
   go_simp;(try go_ints);(try(rw[if_neg Aa]));(try(rw[if_pos Aa]));(try go_simp);(try go_ints)
   refine hR _ _ (Ext.refl _) ?_ trivial;rfl
  ·intro γ w' he hf;clear hf;refine⟨rfl,?_⟩;intro R hR
   go_simp;exact AX (Sj 0 4 w' Aa Aa) hR
 intro γ w5 hx5 hF;have p19:Km w5 (γ 19) (-4) 0:=Au.get hF 19 Ab;have p26:Km w5 (γ 26) 0 4:=Au.get hF 26 Ab;clear hF;simp only[AZ,Nat.reduceAdd];generalize γ 19=g19 at *;generalize γ 26=g26 at *;clear γ;have H5:=Lib.hid (And.intro (HI.out.2.ext hx5) p26);clear p19 p26 q0 q1 q2 q3 q4 q5 q6 q7 s0 s1 s2 s3 s4 s5 s6 s7
 go_wp2_with fail
 refine Calls.mono (TZ _ _ 0 4 0 4 _ H5.out.1 H5.out.2) ?_;rintro e w6 ⟨r6,rfl,rfl,hx6⟩;have hx7:=(hx.trans hx5).trans hx6;have hd:decide ((0:Rat)=0∧(4:Rat)=4)=true:=decide_eq_true ⟨rfl,rfl⟩;rw[hd];clear hx hx5 hx6 hd;go_wp2
 go_ret
 exact Ad.mk rfl hx7
end Go.Proofs.YtmhgnigpmompmaaGreat
namespace Go.Hp
open Go.RowKit
def LV(w:World)(g:Nat)(vs:List (Value×List Int)):Prop:=∀ j (h:j < vs.length),w.cell? ⟨g,j,none⟩=some vs[j].1∧EI 0 w vs[j].1 vs[j].2
theorem LV.ext{w w':World}{g:Nat}{vs:List (Value×List Int)}(h:LV w g vs)(e:Ext w w'):LV w' g vs:=fun j hj=>⟨e.cell (h j hj).1,(h j hj).2.ext e⟩
def Pb(m:List Int):Prop:=m.length≤12∧pl (cz m)≤7∧∀ i,(cz m i).num.natAbs≤4095
def ZR(vs:List (Value×List Int))(r:Value):Prop:=∃ b:Bool,r = .bool b∧(b=true→∀ p∈vs,Pb p.2)
theorem Pb.lite{m:List Int}(h:Pb m)(h0:cz m≠pz):FI (cz m):=⟨ZI.cz m,Af.cz m,h0,h.2.1,h.2.2⟩
theorem Rl(w:World)(t:TypeId){v:Value}{l:List Int}(h:EI 0 w v l){g:Nat}(hg:g=w.heap.size):LV (w.alloc (.cells #[v] t)) g [(v,l)]:=by
 subst hg;intro j hj;obtain rfl:j=0:=by simpa using hj
 exact⟨by rw[cell_of_row _ w.heap.size 0 _ t (0,0) (heap_alloc_new w _)];rfl,h.ext ((Ext.refl w).alloc _)⟩
end Go.Hp
namespace Go.Proofs.YtmhgnigpmompmaaGreat
open Go.RowKit Go.Hp
set_option maxRecDepth 20000 in
set_option maxHeartbeats 4000000 in
theorem YJ(g c:Nat)(vs:List (Value×List Int))(w:World)(hn:vs.length≤1000)(hc:vs.length≤c)(hv:LV w g vs) :
  Calls Tryz.prog 13 #[.slice (some ⟨g,0,none⟩) vs.length c] w (Ad w fun r _=>ZR vs r):=by
 have HV:=Lib.hid hv;clear hv
 go_enter Tryz.func13,Tryz.ntmps13
 go_wp2
 go_loopw [3] (fun iv wr=>∃ i:Nat,i≤vs.length∧iv = .int .i64 (i:Nat)∧(∀ j (h:j < vs.length),j < i→Pb vs[j].2)∧Ext w wr) (fun iv _=>vs.length - (intOf iv).toNat)
 case atStart=>exact⟨0,Nat.zero_le _,rfl,fun j h h'=>Aa,Ext.refl _⟩
 case round =>
  obtain⟨i,hi,rfl,hst,hx⟩:=hrel;have Hst:=Lib.hid hst;clear hst;by_cases hil:i < vs.length
  ·obtain⟨q0,hp⟩:=HV.out i hil
   obtain⟨A1,c1,e1⟩:=hp.len;rw[e1]at q0 hp;obtain⟨l,hl⟩:∃ l,l=vs[i].2:=⟨_,rfl⟩
   rw[←hl]at q0 hp;have Hl:=Lib.hid (And.intro hl hp);clear hl hp e1;have q:=hx.cell q0;by_cases hlong:12 < l.length
   ·skip
    go_wp2
    go_ret
    exact Ad.mk ⟨false,rfl,fun h=>by cases h⟩ hx
   ·have hd:∀ X,Ext w X→Calls Tryz.prog 15 #[.slice A1 l.length c1] X (Ad X fun r _=>r = .int .i64 ((pl (cz l):Int) - 1)):=fun X x=>J5 _ l X (Hl.out.2.ext x) Aa
    have HD:=Lib.hid hd;clear hd;have hpl:pl (cz l)≤l.length:=BB (Cb l)
    go_wp2_with fail
    refine Calls.mono (HD.out _ hx) ?_;rintro e w2 ⟨r2,rfl,rfl,hx2⟩;replace hx:=hx.trans hx2;have q:=hx.cell q0;clear hx2;by_cases hdeg:7 < pl (cz l)
    ·skip
     go_wp2
     go_ret
     exact Ad.mk ⟨false,rfl,fun h=>by cases h⟩ hx
    ·go_wp2
     go_loopw [4] (fun kv wk=>∃ k:Nat,k≤l.length∧kv = .int .i64 (k:Nat)∧(∀ j,j < k→(cz l j).num.natAbs≤4095)∧Ext w wk) (fun kv _=>l.length - (intOf kv).toNat)
     case atStart=>exact⟨0,Nat.zero_le _,rfl,fun j h=>Aa,hx⟩
     case round =>
      clear hx q;obtain⟨k,hk,rfl,hsm,hx⟩:=hrel;have Hsm:=Lib.hid hsm;clear hsm;have q:=hx.cell q0;by_cases hkl:k < l.length
      ·obtain⟨g',o',b1,B1,m1,d1,e3,-,r0,r1,hz⟩:=(Hl.out.2.ext hx).at_ hkl
       cases e3;obtain⟨y,hy⟩:∃ y,y=l[k]:=⟨_,rfl⟩
       rw[←hy]at hz;have Hy:=Lib.hid (And.intro hz (show cz l k=(y:Rat) by rw[Cr hkl,hy]));clear hz hy
       go_wp2_with fail
       refine Calls.mono (WU _ y _ Hy.out.1) ?_;rintro e w3 ⟨r3,rfl,⟨b,rfl,hbl⟩,hx3⟩;have HB:=Lib.hid hbl;clear hbl r0 r1 q;replace hx:=hx.trans hx3;have q:=hx.cell q0;clear hx3;by_cases hb:12 < b
       ·skip
        go_wp2
        go_ret
        exact Ad.mk ⟨false,rfl,fun h=>by cases h⟩ hx
       ·go_wp2
        go_roundw
        case rel=>exact⟨k+1,Aa,by go_num,fun j h1=>by
         rcases Nat.lt_or_ge j k with h | h
         ·exact Hsm.out j h
         ·obtain rfl:j=k:=by omega
          rw[Hy.out.2];have h2:=HB.out.1;have h3:2^b≤2^12:=Nat.pow_le_pow_right Ab Aa;show y.natAbs≤4095;omega,hx⟩
        case measure=>simp[intOf]<;>omega
      ·obtain rfl:k=l.length:=by omega
       go_wp2
       go_roundw
       case rel=>exact⟨i+1,Aa,by go_num,fun j h1 h2=>by
        rcases Nat.lt_or_ge j i with h | h
        ·exact Hst.out j h1 h
        ·obtain rfl:j=i:=by omega
         rw[←Hl.out.1];exact⟨Aa,Aa,fun i=>by
          rcases Nat.lt_or_ge i l.length with h | h
          ·exact Hsm.out i h
          ·rw[Iz h];decide⟩,hx⟩
       case measure=>simp[intOf]<;>omega
  ·obtain rfl:i=vs.length:=by omega
   go_wp2
   go_ret
   exact Ad.mk ⟨true,rfl,fun _ p hp=>by
    obtain⟨j,hj,rfl⟩:=List.getElem_of_mem hp;exact Hst.out j hj hj⟩ hx
set_option maxRecDepth 20000 in
set_option maxHeartbeats 8000000 in
theorem X4(v:Value)(l:List Int)(s:Nat)(w:World)(hv:EI 0 w v l)(h0:cz l≠pz)(hs:∀ i,qsz (cz l i)≤s)(hs9:s≤1000000)(hn:l.length≤1000) :
  Calls Tryz.prog 30 #[v] w (Ad w fun r w'=>∃ j,P2 (En (cz l) (pl (cz l) - 1)+1) j∧AC w' r (2^j)):=by
 have fF:Af (cz l):=⟨_,Cb l⟩
 have hp:=AY fF h0;have hpl:pl (cz l)≤l.length:=BB (Cb l);have hld:ld (cz l)=((ld (cz l)).num:Rat):=Sr (ZI.cz l);have hls:qsz (ld (cz l))≤s:=hs _;have HV:=Lib.hid hv;have HA0:=Lib.hid (And.intro hpl (And.intro hld (And.intro hls (And.intro hs h0))));obtain⟨A,c,rfl⟩:=hv.len;clear hv
 go_enter Tryz.func30,Tryz.ntmps30
 obtain⟨W1,eW1,ez,y1⟩:=Be.made w 26 #[.bool false,.slice none 0 0] (by simp[Ag])
 go_upto_region 1 with(fail)
 rw[←eW1];clear eW1;have hx:=y1
 go_wp2_with fail
 refine Calls.mono (Ol _ l _ (HV.out.ext hx) Aa) ?_;rintro e w2 ⟨r2,rfl,hr2,hx2⟩;obtain⟨b5,A5,n5,c5,rfl⟩:=hr2.cells;replace ez:=ez.ext hx2;replace hx:=hx.trans hx2;clear hx2;obtain⟨W3,eW3,ed,y3⟩:=Be.made w2 26 #[.bool b5,.slice A5 n5 c5] (by simp[Ag]);have hd:=Bh.mk ed (hr2.ext_ y3);have hgd:=ez.lt;replace ez:=ez.ext y3;replace hx:=hx.trans y3;clear y3;clear hr2 ed
 go_upto_region 2 with(fail)
 rw[←eW3];clear eW3;generalize w2.heap.size=gd at *
 go_wp2_with fail
 refine Calls.mono (NC 0 _ Aa Aa) ?_;rintro e w4 ⟨r4,rfl,hr4,hx4⟩;obtain⟨b7,A7,n7,c7,b8,A8,n8,c8,rfl⟩:=hr4.cells;replace ez:=ez.ext hx4;replace hd:=hd.ext hx4;replace hx:=hx.trans hx4;clear hx4;obtain⟨W6,eW6,el,y6⟩:=Be.made w4 28 #[.bool b7,.slice A7 n7 c7,.bool b8,.slice A8 n8 c8] (by simp[Ag]);have hl:=CL.mk el (hr4.ext y6);have hgl:=hd.lt;replace ez:=ez.ext y6;replace hd:=hd.ext y6;replace hx:=hx.trans y6
 clear y6;clear hr4 el
 go_upto_region 3 with(fail)
 rw[←eW6];clear eW6;generalize w4.heap.size=gl at *;obtain⟨N,hN⟩:∃ N,pl (cz l)=N+1:=⟨pl (cz l) - 1,Aa⟩
 have e1:En (cz l) 0=((0:Int):Rat):=rfl;rw[←e1]at hl;have HN:=Lib.hid hN;have hN9:N < 1000:=by omega
 clear hN hp e1 hpl hld hls hs h0;have hdeg:∀ W (x:Ext w W),Calls Tryz.prog 15 #[.slice A l.length c] W (Ad W fun r _=>r = .int .i64 (N:Nat)):=fun W x=>by
  refine Ad.imp (J5 _ l W (HV.out.ext x) Aa) fun r _ h=>?_;rw[h,HN.out];congr 1;omega
 have HD:=Lib.hid hdeg;clear hdeg;go_wp2
 go_loopw [5] (fun iv wr=>∃ i:Nat,i≤N∧iv = .int .i64 (i:Nat)∧CL wr gl 28 (En (cz l) i)∧Bh wr gd 26 (ld (cz l)).num∧Be wr w.heap.size 26 #[.bool false,.slice none 0 0]∧Ext w wr) (fun iv _=>N - (intOf iv).toNat)
 case atStart=>exact⟨0,Aa,rfl,hl,hd,ez,hx⟩
 case round =>
  clear hl hd ez hx;obtain⟨i,hi,rfl,hl,hd,ez,hx⟩:=hrel
  go_wp2_with fail
  refine Calls.mono (HD.out _ hx) ?_;rintro e w7 ⟨r7,rfl,rfl,hx7⟩;replace ez:=ez.ext hx7;replace hl:=hl.ext hx7;replace hd:=hd.ext hx7;replace hx:=hx.trans hx7;clear hx7;by_cases hiN:i < N
  ·have hlt:i < l.length:=by have:=HA0.out.1;have:=HN.out;omega
   have hli:cz l i=(l[i]:Rat):=Cr hlt;have hsi:=HA0.out.2.2.2.1 i;rw[hli]at hsi;obtain⟨g',o',b3,A3,n3,c3,e3,-,q0,q1,hq⟩:=HV.out.at_ hlt;cases e3;obtain⟨yi,hy⟩:∃ y,y=l[i]:=⟨_,rfl⟩
   rw[←hy]at hli hsi hq;have HI:=Lib.hid (And.intro hq (And.intro hsi hli));clear hsi hli hy hq;replace q0:=hx.cell q0;replace q1:=hx.cell q1;obtain⟨b9,A9,n9,c9,ed,hdz⟩:=hd;have HDz:=Lib.hid hdz;clear hdz;have hez7:=ez.lt;have hgl7:=hl.lt;have hgd7:=ed.lt;obtain⟨ced0,ced1⟩:=ed.cells2;have fed:=ed.frozen
   go_upto_region 6 with(fail)
   go_cut [6] (fun pv wx=>∃ gc,pv = .pointer (some ⟨gc,0,none⟩)∧CL wx gc 28 (ab (cz l i / ld (cz l)))∧w7.heap.size≤gc∧Ext w7 wx)
   case first =>
    refine Ae 8 [17,18,19,20,21,22,23,6] [[],[],[0,1],[0,1,2],[],[0,1,2,3,4],[0,1,2,3,4,5],[],[0,1,2,3,4,5,6,7]] [0,5,3] [_,_,_] [(kv ?_),(kv ?_),(kv ?_),(kv ?_),(kv ?_),(fun γ=>γ 5),(fun γ=>γ 6),(fun γ=>γ 7)] (fun γ w'=>[True,True,True,True,True,Bw w' (γ 5) (Rat.divInt yi (ld (cz l)).num),Bw w' (γ 6) (ab (Rat.divInt yi (ld (cz l)).num)),AV w' (γ 7) w7.heap.size #[.bool false,.slice none 0 0,.bool false,.slice none 0 0] 28]) Bd Ah Ah Bb Ah Bc Bg ?hstep1 ?_
    case hstep1 =>
     iterate 8 refine⟨?_,?_⟩
     trivial
     iterate 5 focus
      intro γ w' he hf;clear hf;refine⟨by trivial,?_⟩;intro R hR;have hc:=he.cells;have cq0:=he.cell q0;have cq1:=he.cell q1;have cq2:=he.cell ced0;have cq3:=he.cell ced1;go_simp;(try go_ints);(try(rw[if_neg Aa]));(try(rw[if_pos Aa]));(try go_simp);(try go_ints)
      refine hR _ _ (Ext.refl _) ?_ trivial;rfl
     ·intro γ w' he hf;clear hf;refine⟨trivial,?_⟩;intro R hR
      go_simp;exact AX (Ha _ _ yi (ld (cz l)).num w' (HI.out.1.ext (hx.trans he)) ((HDz.out.ext_ he).has (by have h1:=HA0.out.2.2.1;rw[HA0.out.2.1,Ba]at h1;omega)) (by have h1:=HI.out.2.1;rw[Ba]at h1;omega) (by have h1:=HA0.out.2.2.1;rw[HA0.out.2.1,Ba]at h1;omega)) hR
     ·intro γ w' he hf;have f5:Bw w' (γ 5) (Rat.divInt yi (ld (cz l)).num):=hf 5 Ab;clear hf;refine⟨trivial,?_⟩;intro R hR
      go_simp;exact AX (ZM _ _ w' (f5.has (by
     have h1:=HA0.out.2.2.1;have h2:=F8 (yi:Rat) (((ld (cz l)).num:Int):Rat);have h3:=HI.out.2.1;rw[HA0.out.2.1]at h1;rw[Rat.divInt_eq_div];omega))) hR
     ·intro γ w' he hf;clear hf;refine⟨trivial,?_⟩;intro R hR
      go_simp;exact hR _ _ ((Ext.refl _).alloc _) rfl (AV.mk (Nat.le_trans Ac he.size) (by simp[Ag]))
    intro γ w8 hx8 hF;have p5:Bw w8 (γ 5) (Rat.divInt yi (ld (cz l)).num):=Au.get hF 5 Ab;have p6:Bw w8 (γ 6) (ab (Rat.divInt yi (ld (cz l)).num)):=Au.get hF 6 Ab;have p7:AV w8 (γ 7) w7.heap.size #[.bool false,.slice none 0 0,.bool false,.slice none 0 0] 28:=Au.get hF 7 Ab;clear hF;simp only[AZ,Nat.reduceAdd];generalize γ 5=g5 at *;generalize γ 6=g6 at *;generalize γ 7=g7 at *;clear γ;obtain⟨gc,rfl,hgc,ec⟩:=p7
    obtain⟨bx,Ax,nx',cx,by',Ay,ny,cy,rfl⟩:=p6.cells;clear ced0 ced1 p5 q0 q1;obtain⟨cec0,cec1,cec2,cec3⟩:=ec.cells4;have fec:=ec.frozen;go_wp2;obtain⟨W9,eW,ec',U⟩:=ec.put4 (.bool bx) (.slice Ax nx' cx) (.bool by') (.slice Ay ny cy) rfl rfl rfl rfl;rw[←eW];clear eW ec;replace p6:=p6.kd U.kd;replace hx8:=U.from_ hx8 Ai;have ec:=ec';clear U ec';have e6:Rat.divInt yi (ld (cz l)).num=cz l i / ld (cz l):=by rw[Rat.divInt_eq_div,HI.out.2.2];congr 1;exact HA0.out.2.1.symm
    rw[e6]at p6
    go_meet
    case rel=>exact⟨gc,rfl,CL.mk ec p6,hgc,hx8⟩
   case rest =>
   obtain⟨gc,rfl,hcq,hgc,hx8⟩:=hcut;have hd:=Bh.mk ed HDz.out;clear ced0 ced1 fed q0 q1 ed HDz;replace ez:=ez.ext hx8;replace hl:=hl.ext hx8;replace hd:=hd.ext hx8;replace hx:=hx.trans hx8;clear hx8;obtain⟨bx,Ax,nx',cx,by',Ay,ny,cy,ec,hcz⟩:=hcq;obtain⟨bl,Al,nl,cl,bl',Al',nl',cl',el,hlz⟩:=hl;have hqx:qsz (ab (cz l i / ld (cz l)))≤4*s+8:=by
    rw[KX];have h1:=F8 (cz l i) (ld (cz l));have h2:=HA0.out.2.2.1;have h3:=HA0.out.2.2.2.1 i;omega
   have hql:qsz (En (cz l) i)≤2*s:=IM HA0.out.2.2.2.1 (Nat.le_trans (CO _) HA0.out.2.2.1) i;have HX:=Lib.hid (And.intro (hcz.has Aa) (And.intro (hlz.has Aa) (show qsz (ab (cz l i / ld (cz l)))+qsz (En (cz l) i) < 274877906944 by omega)));clear hqx hql;have HR:=Lib.hid (And.intro hcz hlz);clear hcz hlz;obtain⟨cec0,cec1,cec2,cec3⟩:=ec.cells4;have fec:=ec.frozen;obtain⟨cel0,cel1,cel2,cel3⟩:=el.cells4
   have fel:=el.frozen
   go_wp2_with fail
   refine Calls.mono (XT _ _ _ _ _ HX.out.1 HX.out.2.1 HX.out.2.2) ?_;rintro e w13 ⟨r13,rfl,rfl,hx13⟩;clear HX cec0 cec1 cec2 cec3 fec cel0 cel1 cel2 cel3 fel;have hnext:En (cz l) (i+1)=if En (cz l) i < ab (cz l i / ld (cz l))then ab (cz l i / ld (cz l))else En (cz l) i:=rfl;replace HR:=Lib.hid (And.intro (HR.out.1.ext hx13) (HR.out.2.ext hx13));replace ez:=ez.ext hx13;replace hd:=hd.ext hx13;replace ec:=ec.ext hx13
   replace el:=el.ext hx13;replace hx:=hx.trans hx13;clear hx13;by_cases hgt:En (cz l) i < ab (cz l i / ld (cz l))
   ·have hdec:decide (KA (ab (cz l i / ld (cz l)) - En (cz l) i) > 0)=true:=by rw[EH,decide_eq_true hgt]
    rw[if_pos hgt]at hnext;obtain⟨cec0,cec1,cec2,cec3⟩:=ec.cells4;have fec:=ec.frozen;obtain⟨cel0,cel1,cel2,cel3⟩:=el.cells4;have fel:=el.frozen
    go_upto_region 5 with(fail)
    have hr13:=HR.out.1;obtain⟨W14,eW,el',U⟩:=el.put4 (.bool bx) (.slice Ax nx' cx) (.bool by') (.slice Ay ny cy) rfl rfl rfl rfl;rw[←eW];clear eW el;replace hr13:=hr13.kd U.kd;replace ez:=ez.upd U Ai;replace hd:=hd.upd U Ai;replace hx:=U.from_ hx Ai;have el:=el';clear U el';have hl:=CL.mk el hr13;rw[←hnext]at hl;clear hdec hnext HR hr13;go_wp2
    go_roundw
    case rel=>exact⟨i+1,Aa,by go_num,hl,hd,ez,hx⟩
    case measure=>simp[intOf];omega
   ·have hdec:decide (KA (ab (cz l i / ld (cz l)) - En (cz l) i) > 0)=false:=by rw[EH,decide_eq_false hgt]
    rw[if_neg hgt]at hnext;have hl:=CL.mk el HR.out.2;rw[←hnext]at hl;clear hnext HR;go_wp2
    go_roundw
    case rel=>exact⟨i+1,Aa,by go_num,hl,hd,ez,hx⟩
    case measure=>simp[intOf];omega
  ·obtain rfl:i=N:=by omega
   have ez11:=ez.lt;have hgl8:=hl.lt;obtain⟨bl,Al,nl,cl,bl',Al',nl',cl',el,hlz⟩:=hl;have hqm:qsz (En (cz l) i)≤2*s:=IM HA0.out.2.2.2.1 (Nat.le_trans (CO _) HA0.out.2.2.1) i;have hql:qsz (En (cz l) i+1)≤2*s+8:=by
    have h1:=EA (En (cz l) i) 1;have h2:qsz (1:Rat)=1:=by decide
    omega
   obtain⟨J,hJ,hJ9⟩:∃ J,P2 (En (cz l) i+1) J∧J≤32*(2*s+8)+1:=P2.qsz (by have:=GJ (cz l) i;grind) hql;have HJ:=Lib.hid (And.intro hJ (show qsz (En (cz l) i+1)≤3000000 by omega));clear hJ hql;have hJ8:J≤100000000:=by omega
   have hq1:qsz ((1:Int):Rat)=1:=by decide
   have HZ:=Lib.hid (And.intro (hlz.has Aa) (show qsz (En (cz l) i)+qsz ((1:Int):Rat) < 549755813888 by omega));clear hlz hqm hJ9 hq1;clear hd;obtain⟨cel0,cel1,cel2,cel3⟩:=el.cells4;have fel:=el.frozen
   go_upto_region 9 with(fail)
   refine Ae 2 [29,30] [[],[],[0,1],[0,1,2]] [4] [_] [(kv ?_),(fun γ=>γ 1)] (fun γ w'=>[True,Bw w' (γ 1) ((1:Int):Rat)]) Bd Ah Ah Bb Ah Bc Bg ?hstep2 ?_
   case hstep2 =>
    iterate 2 refine⟨?_,?_⟩
    trivial
    iterate 1 focus
     intro γ w' he hf;clear hf;refine⟨by trivial,?_⟩;intro R hR;have hc:=he.cells;have cq0:=he.cell cel0;have cq1:=he.cell cel1;have cq2:=he.cell cel2;have cq3:=he.cell cel3;go_simp;refine hR _ _ (Ext.refl _) ?_ trivial;rfl
    ·intro γ w' he hf;clear hf;refine⟨trivial,?_⟩;intro R hR
     go_simp;exact AX (NC 1 w' Aa Aa) hR
   intro γ w10 hx10 hF;have p1:Bw w10 (γ 1) ((1:Int):Rat):=Au.get hF 1 Ab;clear hF;simp only[AZ,Nat.reduceAdd];generalize γ 1=g1 at *;clear γ
   go_wp2_with fail
   refine Calls.mono (XI _ _ (En (cz l) i) ((1:Int):Rat) _ (HZ.out.1.ext hx10) (p1.has Ab) HZ.out.2) ?_;rintro e w11 ⟨r11,rfl,hr11,hx11⟩;obtain⟨bz,Az,nz,cz',bw,Aw,nw,cw,rfl⟩:=hr11.cells;have x1011:=hx10.trans hx11;clear p1 cel0 cel1 cel2 cel3 fel;replace ez:=ez.ext x1011;replace el:=el.ext x1011;replace hx:=hx.trans x1011;clear x1011;clear hx10 hx11 HZ;obtain⟨cel0,cel1,cel2,cel3⟩:=el.cells4;have fel:=el.frozen
   go_upto_region 10 with(fail)
   obtain⟨W12,eW,el',U⟩:=el.put4 (.bool bz) (.slice Az nz cz') (.bool bw) (.slice Aw nw cw) rfl rfl rfl rfl;rw[←eW];clear eW el;replace hr11:=hr11.kd U.kd;replace ez:=ez.upd U Ai;replace hx:=U.from_ hx Ai;have el:=el';clear U el';have hl:=CL.mk el hr11;rw[show En (cz l) i+((1:Int):Rat)=En (cz l) i+1 from rfl]at hl;obtain⟨rr,hrr⟩:∃ r,r=En (cz l) i+1:=⟨_,rfl⟩
   rw[←hrr]at HJ hl;have Hrr:=Lib.hid hrr;clear hrr hi hiN hs9 hr11 el cel0 cel1 cel2 cel3 fel HD
   go_wp2_with fail
   refine Calls.mono (Ls 1 _ Aa Aa) ?_;rintro e w14 ⟨r14,rfl,hr14,hx14⟩;obtain⟨b11,A11,n11,c11,rfl⟩:=hr14.cells;replace ez:=ez.ext hx14;replace hl:=hl.ext hx14;replace hx:=hx.trans hx14;clear hx14;obtain⟨W15,eW15,eo,y15⟩:=Be.made w14 26 #[.bool b11,.slice A11 n11 c11] (by simp[Ag]);have ho:=Bh.mk eo (hr14.kd y15.kd);have hgo:=hl.lt;replace ez:=ez.ext y15;replace hl:=hl.ext y15;replace hx:=hx.trans y15
   clear y15;clear eo hr14;go_wp2;rw[←eW15];clear eW15;generalize w14.heap.size=go at *
   go_loopw [33] (fun _ wr=>∃ j:Nat,j≤J∧Bh wr go 26 (2^j)∧CL wr gl 28 rr∧Be wr w.heap.size 26 #[.bool false,.slice none 0 0]∧Ext w wr) (fun _ wr=>2^(J+1) - dG wr go 26)
   case atStart=>exact⟨0,Aa,ho,hl,ez,hx⟩
   case round =>
    clear ho hl ez hx;obtain⟨j,hj,⟨b7,A7,n7,c7,eo,hoz⟩,⟨bl,Al,nl,cl,bl',Al',nl',cl',el,hlz⟩,ez,hx⟩:=hrel;have Hoz:=Lib.hid (And.intro hoz (And.intro eo hlz));clear hoz hlz;have hgl3:=el.lt;have hgo3:=eo.lt;have hjz:sz ((2:Int)^j).natAbs≤1+j:=GG j;have hjq:qsz (((2:Int)^j:Int):Rat)≤1+j:=by rw[Ba];omega
    have HS:=Lib.hid (And.intro (show sz ((2:Int)^j).natAbs≤549755813888 by omega) (And.intro (show qsz (((2:Int)^j:Int):Rat)≤274877906944 by omega) (show qsz (((2:Int)^j:Int):Rat)+qsz rr < 274877906944 by have:=HJ.out.2;omega)));clear hjz hjq;obtain⟨ceo0,ceo1⟩:=eo.cells2;have feo:=eo.frozen;obtain⟨cel0,cel1,cel2,cel3⟩:=el.cells4;have fel:=el.frozen
    go_upto_region 11 with(fail)
    refine Ae 3 [33,34,35] [[],[0],[],[0,1,2],[0,1,2,3]] [7,4] [_,_] [(kv ?_),(fun γ=>γ 1),(kv ?_)] (fun γ w'=>[True,Bw w' (γ 1) (((2:Int)^j:Int):Rat),True]) Bd Ah Ah Bb Ah Bc Bg ?hstep3 ?_
    case hstep3 =>
     iterate 3 refine⟨?_,?_⟩
     trivial
     iterate 1 focus
      intro γ w' he hf;clear hf;refine⟨by trivial,?_⟩;intro R hR;have hc:=he.cells;have cq0:=he.cell ceo0;have cq1:=he.cell ceo1;have cq2:=he.cell cel0;have cq3:=he.cell cel1;have cq4:=he.cell cel2;have cq5:=he.cell cel3;go_simp;refine hR _ _ (Ext.refl _) ?_ trivial;rfl
     ·intro γ w' he hf;clear hf;refine⟨trivial,?_⟩;intro R hR
      go_simp;exact AX (MV _ _ w' ((Hoz.out.1.has (by have:=HS.out.1;omega)).ext he)) hR
     iterate 1 focus
      intro γ w' he hf;clear hf;refine⟨by trivial,?_⟩;intro R hR;have hc:=he.cells;have cq0:=he.cell ceo0;have cq1:=he.cell ceo1;have cq2:=he.cell cel0;have cq3:=he.cell cel1;have cq4:=he.cell cel2;have cq5:=he.cell cel3;go_simp;refine hR _ _ (Ext.refl _) ?_ trivial;rfl
    intro γ w16 hx16 hF;have p1:Bw w16 (γ 1) (((2:Int)^j:Int):Rat):=Au.get hF 1 Ab;clear hF;simp only[AZ,Nat.reduceAdd];generalize γ 1=g1 at *;clear γ
    go_wp2_with fail
    refine Calls.mono (XT _ _ _ rr _ (p1.has HS.out.2.1) ((Hoz.out.2.2.has (by have:=HJ.out.2;omega)).ext hx16) HS.out.2.2) ?_;rintro e w17 ⟨r17,rfl,rfl,hx17⟩;generalize hm:KA ((((2:Int)^j:Int):Rat) - rr)=m;have hm1:=Mh (p:=(((2:Int)^j:Int):Rat)) (q:=rr);rw[hm]at hm1;clear hm;have x1617:=hx16.trans hx17;have HO:=Lib.hid (And.intro (Hoz.out.1.ext_ x1617) (Hoz.out.2.2.ext x1617));clear p1 ceo0 ceo1 feo cel0 cel1 cel2 cel3 fel
    replace ez:=ez.ext x1617;replace eo:=eo.ext x1617;replace el:=el.ext x1617;replace hx:=hx.trans x1617;clear x1617;clear hx16 hx17;have hl:=CL.mk el HO.out.2;by_cases hjJ:j < J
    ·rw[decide_eq_true (show(((2:Int)^j:Int):Rat)≤rr by have:=HJ.out.1.2 j hjJ;rw[Gl];exact this)]at hm1
     obtain⟨ceo0,ceo1⟩:=eo.cells2;have feo:=eo.frozen
     go_wp2_with fail
     refine Calls.mono (Vz _ _ _ _ _ (HO.out.1.has (by have:=HS.out.1;omega)) (HO.out.1.has (by have:=HS.out.1;omega)) HS.out.1 HS.out.1) ?_;rintro e w18 ⟨r18,rfl,hr18,hx18⟩;obtain⟨b8,A8,n8,c8,rfl⟩:=hr18.cells;clear ceo0 ceo1 feo el;replace ez:=ez.ext hx18;replace eo:=eo.ext hx18;replace hl:=hl.ext hx18;replace hx:=hx.trans hx18;clear hx18;obtain⟨ceo0,ceo1⟩:=eo.cells2;have feo:=eo.frozen;go_wp2;obtain⟨W19,eW,eo',U⟩:=eo.put2 (.bool b8) (.slice A8 n8 c8) rfl rfl
     rw[←eW];clear eW eo;replace hr18:=hr18.kd U.kd;replace ez:=ez.upd U Ai;replace hl:=hl.upd U Ai;replace hx:=U.from_ hx Ai;have eo:=eo';clear U eo';rw[show(2:Int)^j+2^j=2^(j+1) by rw[Int.pow_succ];omega]at hr18;have ho:=Bh.mk eo hr18;have hb1:=KG ho;have hb2:=KG (Bh.mk Hoz.out.2.1 Hoz.out.1);have hpw:2^(j+1)≤2^J:=Nat.pow_le_pow_right Ab hjJ
     go_roundw
     case rel=>exact⟨j+1,hjJ,ho,hl,ez,hx⟩
     case measure =>
      rw[hb1,hb2];rw[Int.natAbs_pow,Int.natAbs_pow];show 2^(J+1) - 2^(j+1) < 2^(J+1) - 2^j;have h1:2^(J+1)=2*2^J:=Nat.pow_succ';have h2:2^(j+1)=2*2^j:=Nat.pow_succ';have h3:=Nat.two_pow_pos j;omega
    ·obtain rfl:j=J:=by omega
     rw[decide_eq_false (show ¬ (((2:Int)^j:Int):Rat)≤rr by have:=HJ.out.1.1;rw[Gl];grind)]at hm1;obtain⟨ceo0,ceo1⟩:=eo.cells2;have feo:=eo.frozen;obtain⟨cez0,cez1⟩:=ez.cells2;have fez:=ez.frozen
     go_upto_region 13 with(fail)
     have hr:=HO.out.1;go_wp2;obtain⟨W3,eW,ez',U⟩:=ez.put2 (.bool b7) (.slice A7 n7 c7) rfl rfl;rw[←eW];clear eW ez;replace hr:=hr.kd U.kd;replace hx:=U.from_ hx Ai;have ez:=ez';clear U ez';clear ceo0 ceo1 feo cez0 cez1 fez;obtain⟨cez0,cez1⟩:=ez.cells2;have fez:=ez.frozen;refine bodyPost_ret (v := .agg #[.bool b7,.slice A7 n7 c7]) (by simp[results,Tryz.results30,go_sem,cez0,cez1]) rfl ?_;have hfin:=HJ.out.1
     rw[Hrr.out]at hfin;exact Ad.mk ⟨j,by rw[HN.out];exact hfin,hr⟩ hx
end Go.Proofs.YtmhgnigpmompmaaGreat
