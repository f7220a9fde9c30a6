/- The statement RealrootsDescartes holds for arguments of bulk at most 1048576 (its '..Upto' form): for every such polynomial the law returns true, and the argument reads afterwards as before. -/
import Derived.Test.YtmhgnigpmompmaaGreatMl1
import Derived.Test.YtmhgnigpmompmaaGreatMl2
import Derived.Test.YtmhgnigpmompmaaGreatMl3
import Derived.Test.YtmhgnigpmompmaaGreatMl4
set_option linter.unusedVariables false
set_option linter.unusedSimpArgs false
set_option maxHeartbeats 16000000
namespace Go.Hp
theorem ZV(a b:Rat){z:Rat}(h1:a<=z)(h2:z<=b):ab z<=ab a+ab b:=
 Em (DV (Std.le_refl (ab a)) (Aj b)) (Da (Std.le_refl _) (Aj a)) h1 h2
theorem bR(a b:Rat):0<=ab a+ab b:=by have:=Aj a;have:=Aj b;grind
theorem TW{f:Nat->Rat}(hf:Ae f){a b:Rat}(hab:a<=b)(hd:∀ z,a<=z->z<=b->0<=ev (pd f) z):ev f a<=ev f b:=by
 rcases Std.lt_trichotomy a b with c | c | c
 ·refine Classical.byContradiction fun hn=>?_
  obtain⟨R,hR0,hR⟩:=WM hf (bR a b);obtain⟨η,hη⟩:∃ η,η=ev f a - ev f b:=⟨_,rfl⟩
  have hη0:0 < η:=by grind
  have hT:0 < (R+1)*(b - a):=Rat.mul_pos Ad Ad;obtain⟨hi,ei⟩:=F7 hT;obtain⟨δ,hδ⟩:∃ δ,δ=η*(1 / ((R+1)*(b - a))):=⟨_,rfl⟩
  have hδ0:0 < δ:=by rw[hδ];exact Rat.mul_pos hη0 hi
  have e1:δ*((R+1)*(b - a))=η:=by rw[hδ,Rat.mul_assoc,ei,Rat.mul_one]
  have key:=Ie (P:=fun x y=>ev f x - ev f y<=R*δ*(y - x)) hδ0 c (fun x y h1 h2 h3 h4=>?_) (fun x y z _ _ _ _ h1 h2=>by
   have:R*δ*(z - x)=R*δ*(y - x)+R*δ*(z - y):=by grind
   rw[this];grind)
  ·have e2:δ*((R+1)*(b - a))=R*δ*(b - a)+δ*(b - a):=by grind
   have:=Rat.mul_pos hδ0 (show 0 < b - a by grind);rw[<-hη]at key;rw[e1]at e2;clear hn hR hd hη hδ ei e1 hi hT;grind
  ·obtain⟨r,hr,e⟩:=hR x y (ZV a b h1 Ad) (ZV a b Ad h3)
   have hg:=hd x h1 Ad;obtain⟨g,hgg⟩:∃ g,g=ev (pd f) x:=⟨_,rfl⟩
   rw[<-hgg]at hg e;obtain⟨d,hdd⟩:∃ d,d=y - x:=⟨_,rfl⟩
   rw[<-hdd]at e h4;rw[<-hdd];have d0:0<=d:=by rw[hdd];grind
   have r1:=(EH.1 hr).1;have m1:=Rat.mul_nonneg d0 hg;have m2:0<=d*(d*(r+R)):=Rat.mul_nonneg d0 (Rat.mul_nonneg d0 Ad);have m3:0<=R*(d*(δ - d)):=Rat.mul_nonneg hR0 (Rat.mul_nonneg d0 Ad);have e3:ev f x - ev f y = -(d*(g+d*r)):=by rw[<-e];grind
   rw[e3];clear e e3 hr hR hd hη hδ ei e1 hi hT hn hgg hdd;grind
 ·rw[c];exact Std.le_refl _
 ·exfalso;grind
theorem ZQ{f:Nat->Rat}(hf:Ae f){a b:Rat}(hab:a<=b)(hd:∀ z,a<=z->z<=b->ev (pd f) z<=0):ev f b<=ev f a:=by
 have e:pd (psc (-1) f)=psc (-1) (pd f):=by
  funext i
  show _*(-1*_) = -1*(_*_);grind
 have:=TW (hf.psc (-1)) hab (fun z h1 h2=>by
  rw[e,DX _ (Bd hf)];have:=hd z h1 h2;grind)
 rw[DX _ hf,DX _ hf]at this;grind
theorem SF.first{F:Nat->Rat}(h:SF F){p q:Rat}(hpq:p < q){δ:Rat}(hδ:0 < δ)(h1:1<=rc F p q):∃ u w,p<=u/\u < w/\w<=q/\w - u<=δ/\rc F p u=0/\rc F u w=1/\ev F u≠0/\AX (ev F w)≠AX (ev F u):=by
 obtain⟨d0,g0,l0⟩:=h.st.loc p q;obtain⟨d,hd,q1,q2⟩:∃ w:Rat,0 < w/\w<=δ/\w<=d0:=by
  rcases Std.lt_trichotomy δ d0 with c | c | c
  ·exact⟨δ,hδ,Std.le_refl _,Std.le_of_lt c⟩
  ·exact⟨δ,hδ,Std.le_refl _,Ad⟩
  ·exact⟨d0,g0,Std.le_of_lt c,Std.le_refl _⟩
 have key:=Ie (P:=fun x y=>rc F x y=0\/∃ u w,x<=u/\u < w/\w<=y/\w - u<=δ/\rc F x u=0/\rc F u w=1/\ev F u≠0/\AX (ev F w)≠AX (ev F u)) hd hpq (fun x y h1 h2 h3 h4=>?_) (fun x y z h1 h2 h3 h4 a b=>?_)
 ·rcases key with a | ⟨u,w,a⟩
  ·omega
  ·exact⟨u,w,a⟩
 ·have e:rc F x y=Gv F x y:=l0 x y h1 h2 h3 (Std.le_trans h4 q2)
  by_cases c:ev F x≠0/\AX (ev F y)≠AX (ev F x)
  ·refine .inr ⟨x,y,Std.le_refl _,h2,Std.le_refl _,Std.le_trans h4 q1,GZ F x,?_,c.1,c.2⟩
   rw[e];exact Ty c.1 c.2
  ·refine .inl ?_
   rw[e];unfold Gv;rw[if_neg c];rfl
 ·have e:=Bb F x y
  rcases a with a | ⟨u,w,a1,a2,a3,a4,a5⟩
  ·rcases b with b | ⟨u,w,b1,b2,b3,b4,b5,b6⟩
   ·refine .inl ?_
    have:=e z;omega
   ·refine .inr ⟨u,w,Std.le_trans (Std.le_of_lt h2) b1,b2,b3,b4,?_,b6⟩
    have:=e u;omega
  ·exact .inr ⟨u,w,a1,a2,Std.le_trans a3 (Std.le_of_lt h3),a4,a5⟩
structure Nt(F S G V:Nat->Rat):Prop where
 s:SF S
 g:Ae G
 v:Ae V
 e:F=cv S G
 d:pd F=cv V G
 n:∀ z,ev S z≠0->ev G z≠0
section
variable{F S G V:Nat->Rat}
theorem Nt.f(h:Nt F S G V):Ae F:=by rw[h.e];exact h.s.p.f.cv h.g
theorem Nt.sq(h:Nt F S G V)(z:Rat):ev (cv F F) z=ev F z*ev F z:=Cy h.f h.f z
theorem Nt.dsq(h:Nt F S G V)(z:Rat):ev (pd (cv F F)) z=2*(ev S z*ev V z)*(ev G z*ev G z):=by
 rw[Ji,GI ((Bd h.f).cv h.f) (h.f.cv (Bd h.f)),Cy (Bd h.f) h.f,Cy h.f (Bd h.f),h.d,Cy h.v h.g];rw[h.e,Cy h.s.p.f h.g];grind
theorem XL(q:Rat):0<=q*q:=by
 rcases Rat.le_total (a:=0) (b:=q)with a | a
 ·exact Rat.mul_nonneg a a
 ·have:=Rat.mul_nonneg (show 0 <= -q by grind) (show 0 <= -q by grind)
  grind
theorem iT{q:Rat}(h:q≠0):0 < q*q:=by
 rcases Std.lt_trichotomy q 0 with a | a | a
 ·exact MZ a a
 ·exact absurd a h
 ·exact Rat.mul_pos a a
theorem Nt.ne(h:Nt F S G V){z:Rat}(hz:ev S z≠0):ev F z≠0:=by
 rw[h.e,Cy h.s.p.f h.g];intro q;rcases Rat.mul_eq_zero.1 q with a | a
 ·exact hz a
 ·exact h.n z hz a
theorem Nt.small(h:Nt F S G V)(a b:Rat){η:Rat}(hη:0 < η):∃ δ:Rat,0 < δ/\∀ x y,a<=x->x < y->y<=b->y - x<=δ->AX (ev S y)≠AX (ev S x)->ev F x*ev F x < η/\ev F y*ev F y < η:=by
 obtain⟨L,hL0,hL⟩:=Mf h.s.p.f (bR a b);obtain⟨M,hM0,hM⟩:=FE h.g (bR a b);have hLM:=Rat.mul_nonneg hL0 hM0;obtain⟨T,hT⟩:∃ T,T=L*M+1:=⟨_,rfl⟩
 obtain⟨hi,ei⟩:=F7 (show 0 < T by grind);obtain⟨κ,k0,k1,k2⟩:∃ κ : Rat,0 < κ /\ κ <= 1/\κ < η:=by
  rcases Std.lt_trichotomy 1 η with c | c | c
  ·exact⟨1,Ab,Std.le_refl _,c⟩
  ·exact⟨1 / 2,Ad,Ad,by rw[<-c];grind⟩
  ·exact⟨η / 2,Ad,Ad,Ad⟩
 refine⟨1 / T*κ,Rat.mul_pos hi k0,fun x y h1 h2 h3 h4 h5=>?_⟩;have bx:=ZV a b h1 (show x<=b by grind);have by_:=ZV a b (show a<=y by grind) h3;have l1:=hL x y bx by_;rw[show x - y = -(y - x) by grind,Kw,CX (show 0<=y - x by grind)]at l1;have s:=ER l1 (fun q=>h5 q.1.symm);have h6:=Rat.mul_le_mul_of_nonneg_left h4 (show 0<=T by grind);rw[show T*(1 / T*κ)=1 / T*T*κ by grind,ei,Rat.one_mul]at h6;have fin:∀ z,ab z<=ab a+ab b->ab (ev S z)<=L*(y - x)->ev F z*ev F z < η:=fun z bz sz=>by
  have m1:ab (ev F z)<=L*(y - x)*M:=by
   rw[h.e,Cy h.s.p.f h.g,BU];exact DT sz (hM z bz) (Aj _) (Rat.mul_nonneg hL0 Ad)
  have m2:L*(y - x)*M=L*M*(y - x):=by grind
  have m3:T*(y - x)=L*M*(y - x)+(y - x):=by rw[hT];grind
  have m4:ab (ev F z)<=κ := by rw[m2]at m1;rw[m3]at h6;clear m2 m3 hT ei;grind
  have m5:=DT m4 m4 (Aj _) (Std.le_of_lt k0);have m6:ab (ev F z)*ab (ev F z)=ev F z*ev F z:=by rw[<-BU,CX (XL _)]
  rw[m6]at m5;have m7:=Rat.mul_le_mul_of_nonneg_left k1 (Std.le_of_lt k0);rw[Rat.mul_one]at m7;clear m6 m1 m2 m3 m4 h6 s l1;grind
 exact⟨fin x bx s.1,fin y by_ s.2⟩
theorem SF.still{F:Nat->Rat}(h:SF F){t a z:Rat}(h1:t<=z)(h2:z<=a)(h0:rc F t a=0)(ht:ev F t≠0):AX (ev F z)=AX (ev F t):=by
 have a1:=h.nonneg h1;have a2:=h.nonneg h2;have a3:=Bb F t z a;exact h.st.sg_const h1 (by show rc F t z=0;omega) ht
theorem Pz{q:Rat}:0<=q↔AX q ≠ -1:=by unfold AX;split<;>(try split)<;>grind
theorem Pv{q:Rat}:q<=0↔AX q≠1:=by unfold AX;split<;>(try split)<;>grind
theorem Nt.ahead(h:Nt F S G V){t w:Rat}(htw:t < w)(h1:1<=rc S t w)(ht:ev S t≠0)(hs:∀ z,t<=z->z<=w->0<=ev S t*ev V z):False:=by
 have hη:=iT (h.ne ht);obtain⟨δ,hδ,hd⟩:=h.small t w hη;obtain⟨a,b,a1,a2,a3,a4,a5,a6,a7,a8⟩:=h.s.first htw hδ h1;have h2:=(hd a b a1 a2 a3 a4 a8).1;have h3:=TW (h.f.cv h.f) a1 fun z z1 z2=>by
  rw[h.dsq];have e:=h.s.still z1 z2 a5 ht;have e2:=Pz.1 (hs z z1 Ad);rw[Cs,<-e,<-Cs]at e2;exact Rat.mul_nonneg (Rat.mul_nonneg Ab (Pz.2 e2)) (XL _)
 rw[h.sq,h.sq]at h3;grind
theorem Nt.behind(h:Nt F S G V){u w t:Rat}(huw:u < w)(hwt:w<=t)(h1:rc S u w=1)(h0:rc S w t=0)(ht:ev S t≠0)(hs:∀ z,u < z->z<=t->ev S t*ev V z<=0):False:=by
 have hη:=iT (h.ne ht);obtain⟨δ,hδ,hd⟩:=h.small u w hη;obtain⟨a,b,a1,a2,a3,a4,a5,a6,a7,a8⟩:=h.s.first huw hδ Aa;have h2:=(hd a b a1 a2 a3 a4 a8).2;have e1:=Bb S u a b;have e2:=Bb S u b w;have e3:=Bb S b w t;have h3:=ZQ (h.f.cv h.f) (show b<=t by grind) fun z z1 z2=>by
  rw[h.dsq];by_cases c:ev S z=0
  ·rw[c];grind
  ·have a1':=h.s.nonneg z1
   have a2':=h.s.nonneg z2;have a3':=Bb S b z t;have e:=h.s.still z2 (Std.le_refl t) Aa c;have e2:=Pv.1 (hs z Ad z2);rw[Cs,e,<-Cs]at e2;have h5:=Pv.2 e2;have h6:=Rat.mul_nonneg (show 0 <= -(ev S z*ev V z) by grind) (XL (ev G z));grind
 rw[h.sq,h.sq]at h3;grind
theorem Nt.one(h:Nt F S G V){p q:Rat}(hpq:p < q)(hV:∀ x y,p < x->x<=y->y<=q->ev V x≠0/\AX (ev V y)=AX (ev V x)):rc S p q<=1:=by
 rcases Int.lt_or_le 1 (rc S p q)with c | c
 ·exfalso
  obtain⟨u,w,a1,a2,a3,-,a5,a6,-,-⟩:=h.s.first hpq (δ:=1) Ab Aa;have e1:=Bb S p u w;have e2:=Bb S p w q;have hwq:w < q:=by
   rcases Std.lt_trichotomy w q with z | z | z
   ·exact z
   ·rw[z]at a6 e1;omega
   ·exfalso;grind
  obtain⟨t,v,b1,b2,b3,-,b5,b6,b7,-⟩:=h.s.first hwq (δ:=1) Ab Aa;by_cases k:0<=ev S t*ev V t
  ·refine h.ahead b2 Aa b7 fun z z1 z2=>?_
   have:=(hV t z Ad z1 Ad).2;rw[Pz,Cs,this,<-Cs];exact Pz.1 k
  ·refine h.behind a2 b1 a6 b5 b7 fun z z1 z2=>?_
   have:=(hV z t Ad z2 Ad).2;rw[Pv,Cs,<-this,<-Cs];exact Pv.1 Ad
 ·exact c
theorem Nt.none(h:Nt F S G V)(zV:ZI V)(nV:V≠pz){p q:Rat}(hpq:p<=q)(h0:rc (sqf V) p q=0):rc S p q<=1:=by
 rcases Std.lt_trichotomy p q with c | c | c
 ·exact h.one c fun x y h1 h2 h3=>by
   have:=QA zV h.v nV c h0 h1 h2 h3;rw[En,En]at this;exact this
 ·rw[c,GZ];decide
 ·exfalso;grind
theorem Nt.all(h:Nt F S G V)(zV:ZI V)(nV:V≠pz)(cV:Cr S V):∀(n:Nat) {p q:Rat},p<=q->rc (sqf V) p q=n->rc S p q<=n+1:=by
 have sX:=Bl zV h.v nV;have cX:Cr S (sqf V):=(cV.symm.dv (Ea zV h.v nV)).symm;intro n;induction n with
 | zero =>
  intro p q hpq h0;exact h.none zV nV hpq h0
 | succ n ih =>
  intro p q hpq h0;have hlt:p < q:=by
   rcases Std.lt_trichotomy p q with c | c | c
   ·exact c
   ·rw[c,GZ]at h0;omega
   ·exfalso;grind
  obtain⟨d1,g1,l1⟩:=h.s.st.loc p q;obtain⟨d2,g2,l2⟩:=cX.cell h.s.p.f sX.p.f p q;obtain⟨d,hd,q1,q2⟩:∃ w:Rat,0 < w/\w<=d1/\w<=d2:=by
   rcases Std.lt_trichotomy d1 d2 with c | c | c
   ·exact⟨d1,g1,Std.le_refl _,Std.le_of_lt c⟩
   ·exact⟨d1,g1,Std.le_refl _,Ad⟩
   ·exact⟨d2,g2,Std.le_of_lt c,Std.le_refl _⟩
  obtain⟨u,w,a1,a2,a3,a4,a5,a6,a7,a8⟩:=sX.first hlt hd Aa;have e0:rc S u w=0:=by
   have e:rc S u w=Gv S u w:=l1 u w a1 a2 a3 (Std.le_trans a4 q1);rcases l2 u w a1 a2 a3 (Std.le_trans a4 q2)with k | k
   ·rw[e];unfold Gv;rw[if_neg fun q=>q.2 k.1];rfl
   ·exact absurd k.1 a8
  have i0:=h.none zV nV a1 a5;have x1:=Bb (sqf V) p u w;have x2:=Bb (sqf V) p w q;have s1:=Bb S p u w;have s2:=Bb S p w q;have i1:=ih a3 Aa;omega
end
theorem Ml{F G:Nat->Rat}(zF:ZI F)(fF:Ae F)(nF:F≠pz)(zG:ZI G)(fG:Ae G)(nG:G≠pz):sqf (BC F G)=sqf (BC G F):=by
 have key:∀ {F G:Nat->Rat},ZI F->Ae F->F≠pz->ZI G->Ae G->G≠pz->Dv (sqf (BC F G)) (sqf (BC G F)):=fun {F G} zF fF nF zG fG nG=>by
  have k1:=Dn fF fG zF zG;have k2:=Dn fG fF zG zF;have n1:=G6 zF fF zG fG nF;have n2:=G6 zG fG zF fF nG;have s1:=Bl k1.2.1 k1.1 n1;have d0:=Ea k1.2.1 k1.1 n1;have d1:=d0.trans (Lm zF fF zG fG);have d2:=d0.trans ((FQ _).trans k1.2.2.2.2.2.2.2.1);exact ED k2.2.1 k2.1 n2 s1 ((k2.2.2.2.2.2.2.2.2 _ s1.p.f d2 d1).trans (FV k2.1))
 have k1:=Dn fF fG zF zG;have k2:=Dn fG fF zG zF;exact(Bl k1.2.1 k1.1 (G6 zF fF zG fG nF)).p.eq_dv (Bl k2.2.1 k2.1 (G6 zG fG zF fF nG)).p (key zF fF nF zG fG nG) (key zG fG nG zF fF nF)
def I6(a:Rat×Rat)(x:Rat):Rat:=if x < a.1 then a.1 else if a.2 < x then a.2 else x
theorem Xw{a:Rat×Rat}(h:a.1<=a.2)(x:Rat):a.1<=I6 a x/\I6 a x<=a.2:=by unfold I6;split<;>(try split)<;>grind
theorem Y6{a:Rat×Rat}(h:a.1<=a.2){x y:Rat}(hxy:x<=y):I6 a x<=I6 a y:=by unfold I6;split<;>split<;>(try split)<;>grind
noncomputable def Oy(C:Nat->Rat)(a b:Rat×Rat):Int:=rc (sqf C) (I6 a b.1) (I6 a b.2)
theorem IB{C:Nat->Rat}{a b:Rat×Rat}(ha:a.1 < a.2)(hb:b.1 < b.2)(h:a.2<=b.1):Oy C a b=0:=by
 have e1:I6 a b.1=a.2:=by unfold I6;split<;>(try split)<;>grind
 have e2:I6 a b.2=a.2:=by unfold I6;split<;>(try split)<;>grind
 unfold Oy;rw[e1,e2,GZ]
theorem Gg{C:Nat->Rat}{a b:Rat×Rat}(ha:a.1 < a.2)(hb:b.1 < b.2)(h:b.2<=a.1):Oy C a b=0:=by
 have e1:I6 a b.1=a.1:=by unfold I6;split<;>(try split)<;>grind
 have e2:I6 a b.2=a.1:=by unfold I6;split<;>(try split)<;>grind
 unfold Oy;rw[e1,e2,GZ]
theorem J2{C:Nat->Rat}{a b:Rat×Rat}(ha:a.1 < a.2)(hb:b.1 < b.2)(h1:¬ a.2<=b.1)(h2:¬ b.2<=a.1):Oy C a b=rc (sqf C) (VH a.1 b.1) (Vr a.2 b.2):=by
 have e1:I6 a b.1=VH a.1 b.1:=by unfold I6 VH;split<;>(try split)<;>(try split)<;>grind
 have e2:I6 a b.2=Vr a.2 b.2:=by unfold I6 Vr;split<;>(try split)<;>(try split)<;>grind
 unfold Oy;rw[e1,e2]
theorem Ll{C:Nat->Rat}{a b:Rat×Rat}(ha:a.1 < a.2)(hb:b.1 < b.2)(s:Int):Stp C a b s↔(a.2<=b.1/\s = -1)\/(b.2<=a.1/\s=1)\/(Oy C a b=1/\s=0):=by
 constructor
 ·rintro(⟨h,e⟩ | ⟨-,h,e⟩ | ⟨h1,h2,h,e⟩)
  ·exact .inl ⟨h,e⟩
  ·exact .inr (.inl ⟨h,e⟩)
  ·exact .inr (.inr ⟨by rw[J2 ha hb h1 h2];exact h,e⟩)
 ·rintro(⟨h,e⟩ | ⟨h,e⟩ | ⟨h,e⟩)
  ·exact .inl ⟨h,e⟩
  ·exact .inr (.inl ⟨Ad,h,e⟩)
  ·have h1:¬ a.2<=b.1:=fun q=>by rw[IB ha hb q]at h;omega
   have h2:¬ b.2<=a.1:=fun q=>by rw[Gg ha hb q]at h;omega
   exact .inr (.inr ⟨h1,h2,by rw[<-J2 ha hb h1 h2];exact h,e⟩)
structure Pr(F G:Nat->Rat)(a b:Rat×Rat):Prop where
 hF:Mid F
 hG:Mid G
 a1:a.1 < a.2
 b1:b.1 < b.2
 ra:rc (sqf F) a.1 a.2=1
 rb:rc (sqf G) b.1 b.2=1
section
variable{F G:Nat->Rat}{a b:Rat×Rat}
theorem Mid.both(hF:Mid F)(hG:Mid G){u v:Rat}(h:u<=v):0<=rc (sqf (BC F G)) u v/\rc (sqf (BC F G)) u v<=rc (sqf F) u v/\rc (sqf (BC F G)) u v<=rc (sqf G) u v:=by
 have h1:=Ku hF hG.z hG.f h;have h2:=Ku hG hF.z hF.f h;rw[Ml hG.z hG.f hG.n0 hF.z hF.f hF.n0]at h2;exact⟨h1.1,h1.2,h2.2⟩
theorem Pr.swap(h:Pr F G a b):Pr G F b a:=⟨h.hG,h.hF,h.b1,h.a1,h.rb,h.ra⟩
theorem Pr.both(h:Pr F G a b){u v:Rat}(huv:u<=v):0<=rc (sqf (BC F G)) u v/\rc (sqf (BC F G)) u v<=rc (sqf F) u v/\rc (sqf (BC F G)) u v<=rc (sqf G) u v:=h.hF.both h.hG huv
noncomputable def Dh(F:Nat->Rat)(a:Rat×Rat)(k:Nat):Rat×Rat:=EW (rc (sqf F)) a.1 a.2 k
theorem Pr.pin(h:Pr F G a b){k n:Nat}(hk:k<=n):(Dh F a k).1<=(Dh F a n).1/\(Dh F a n).1 < (Dh F a n).2/\(Dh F a n).2<=(Dh F a k).2:=OT h.a1 hk
theorem Pr.prc(h:Pr F G a b)(k:Nat):rc (sqf F) (Dh F a k).1 (Dh F a k).2=1:=LA (Bl h.hF.z h.hF.f h.hF.n0) h.a1 h.ra k
theorem Pr.at_(h:Pr F G a b)(k:Nat):Pr F G (Dh F a k) (Dh G b k):=⟨h.hF,h.hG,(h.pin (Nat.le_refl k)).2.1,(h.swap.pin (Nat.le_refl k)).2.1,h.prc k,h.swap.prc k⟩
theorem Pr.ceq_le(h:Pr F G a b):0<=Oy (BC F G) a b/\Oy (BC F G) a b<=rc (sqf (BC F G)) a.1 a.2/\rc (sqf (BC F G)) a.1 a.2<=1:=by
 have hl:=Std.le_of_lt h.a1;have i1:=Xw hl b.1;have i2:=Xw hl b.2;have i3:=Y6 hl (Std.le_of_lt h.b1);have c1:=(h.both i1.1).1;have c2:=(h.both i2.2).1;have c3:=(h.both i3).1;have c4:=(h.both hl).2.1;have e1:=Bb (sqf (BC F G)) a.1 (I6 a b.1) a.2;have e2:=Bb (sqf (BC F G)) (I6 a b.1) (I6 a b.2) a.2;rw[h.ra]at c4;unfold Oy;omega
theorem Pr.ceq_swap(h:Pr F G a b):Oy (BC G F) b a=Oy (BC F G) a b:=by
 by_cases h1:a.2<=b.1
 ·rw[IB h.a1 h.b1 h1,Gg h.b1 h.a1 h1]
 by_cases h2:b.2<=a.1
 ·rw[Gg h.a1 h.b1 h2,IB h.b1 h.a1 h2]
 rw[J2 h.a1 h.b1 h1 h2,J2 h.b1 h.a1 h2 h1,Ml h.hG.z h.hG.f h.hG.n0 h.hF.z h.hF.f h.hF.n0];have e1:VH b.1 a.1=VH a.1 b.1:=by unfold VH;split<;>split<;>grind
 have e2:Vr b.2 a.2=Vr a.2 b.2:=by unfold Vr;split<;>split<;>grind
 rw[e1,e2]
theorem Pr.hull(h:Pr F G a b)(h1:Oy (BC F G) a b=1){x y u v:Rat}(hx:a.1<=x\/b.1<=x)(hxy:x<=y)(hyu:y<=u)(huv:u<=v)(hv:v<=a.2\/v<=b.2):rc (sqf (BC F G)) x y+rc (sqf (BC F G)) u v<=1:=by
 have n1:¬ a.2<=b.1:=fun q=>by rw[IB h.a1 h.b1 q]at h1;omega
 have n2:¬ b.2<=a.1:=fun q=>by rw[Gg h.a1 h.b1 q]at h1;omega
 rw[J2 h.a1 h.b1 n1 n2]at h1;obtain⟨m,hm⟩:∃ m,m=VH a.1 b.1:=⟨_,rfl⟩
 obtain⟨M,hM⟩:∃ M,M=Vr a.2 b.2:=⟨_,rfl⟩
 rw[<-hm,<-hM]at h1;have m1:a.1<=m/\b.1<=m/\(m=a.1\/m=b.1):=by rw[hm];unfold VH;split<;>grind
 have m2:M<=a.2/\M<=b.2/\(M=a.2\/M=b.2):=by rw[hM];unfold Vr;split<;>grind
 have ha1:=h.a1;have hb1:=h.b1;have hmM:m < M:=by grind
 have ra:=(h.both (Std.le_of_lt h.a1)).2.1;have rb:=(h.both (Std.le_of_lt h.b1)).2.2;rw[h.ra]at ra;rw[h.rb]at rb
 -- outside of the common part there is no root
 have oa:=Bb (sqf (BC F G)) a.1 m a.2;have oa2:=Bb (sqf (BC F G)) m M a.2;have ob:=Bb (sqf (BC F G)) b.1 m b.2;have ob2:=Bb (sqf (BC F G)) m M b.2;have q1:=(h.both m1.1).1;have q2:=(h.both m1.2.1).1;have q3:=(h.both m2.1).1;have q4:=(h.both m2.2.1).1;have lo:∀ t,(a.1<=t\/b.1<=t)->t<=m->rc (sqf (BC F G)) t m=0:=fun t ht htm=>by
  have p0:=(h.both htm).1;rcases ht with z | z
  ·have:=Bb (sqf (BC F G)) a.1 t m;have:=(h.both z).1;omega
  ·have:=Bb (sqf (BC F G)) b.1 t m;have:=(h.both z).1;omega
 have hi:∀ t,(t<=a.2\/t<=b.2)->M<=t->rc (sqf (BC F G)) M t=0:=fun t ht htm=>by
  have p0:=(h.both htm).1;rcases ht with z | z
  ·have:=Bb (sqf (BC F G)) M t a.2;have:=(h.both z).1;omega
  ·have:=Bb (sqf (BC F G)) M t b.2;have:=(h.both z).1;omega
 have all:rc (sqf (BC F G)) x v<=1:=by
  have g1:rc (sqf (BC F G)) x M<=1:=by
   rcases Rat.le_total (a:=x) (b:=m)with z | z
   ·have:=Bb (sqf (BC F G)) x m M;have:=lo x hx z;omega
   ·rcases Rat.le_total (a:=x) (b:=M)with y' | y'
    ·have:=Bb (sqf (BC F G)) m x M;have:=(h.both z).1;omega
    ·have:=Bb (sqf (BC F G)) x M x
     have:=(h.both y').1;have e:=GZ (sqf (BC F G)) x;omega
  have g2:rc (sqf (BC F G)) M v<=0:=by
   rcases Rat.le_total (a:=M) (b:=v)with z | z
   ·have:=hi v hv z;omega
   ·have:=Bb (sqf (BC F G)) M v M
    have:=(h.both z).1;have e:=GZ (sqf (BC F G)) M;omega
  have:=Bb (sqf (BC F G)) x M v;omega
 have e1:=Bb (sqf (BC F G)) x y v;have e2:=Bb (sqf (BC F G)) y u v;have e3:=(h.both hyu).1;omega
end
section
variable{F G:Nat->Rat}{a b c:Rat×Rat}
theorem Qu{a b A B:Rat×Rat}(h1:a.1<=A.1)(h2:A.1 < A.2)(h3:A.2<=a.2)(k1:b.1<=B.1)(k2:B.1 < B.2)(k3:B.2<=b.2)(n1:¬ A.2<=B.1)(n2:¬ B.2<=A.1) :
  I6 a b.1<=I6 A B.1/\I6 A B.1<=I6 A B.2/\I6 A B.2<=I6 a b.2:=by
 refine⟨?_,Y6 (Std.le_of_lt h2) (Std.le_of_lt k2),?_⟩
 ·unfold I6;split<;>split<;>(try split)<;>(try split)<;>grind
 ·unfold I6;split<;>split<;>(try split)<;>(try split)<;>grind
theorem Pr.ceq_up(h:Pr F G a b){A B:Rat×Rat}(h1:a.1<=A.1)(h2:A.1 < A.2)(h3:A.2<=a.2)(k1:b.1<=B.1)(k2:B.1 < B.2)(k3:B.2<=b.2)(he:Oy (BC F G) A B=1):Oy (BC F G) a b=1:=by
 have n1:¬ A.2<=B.1:=fun q=>by rw[IB h2 k2 q]at he;omega
 have n2:¬ B.2<=A.1:=fun q=>by rw[Gg h2 k2 q]at he;omega
 obtain⟨e1,e2,e3⟩:=Qu h1 h2 h3 k1 k2 k3 n1 n2;have hc:=h.ceq_le;have p1:=(h.both e1).1;have p3:=(h.both e3).1;have q1:=Bb (sqf (BC F G)) (I6 a b.1) (I6 A B.1) (I6 a b.2);have q2:=Bb (sqf (BC F G)) (I6 A B.1) (I6 A B.2) (I6 a b.2);unfold Oy at he hc ⊢;omega
theorem Pr.never(h:Pr F G a b)(he:Oy (BC F G) a b=1)(k n:Nat):¬ (Dh F a k).2<=(Dh G b n).1:=by
 intro hd;have hc:=h.ceq_le;have hs:=h.swap.ceq_le;rw[h.ceq_swap,he]at hs;rw[he]at hc;have sF:=Bl h.hF.z h.hF.f h.hF.n0;have sG:=Bl h.hG.z h.hG.f h.hG.n0;have eC:=Ml h.hF.z h.hF.f h.hF.n0 h.hG.z h.hG.f h.hG.n0;have ra:=OM sF (C:=sqf (BC F G)) (fun x y hxy=>⟨(h.both hxy).1,(h.both hxy).2.1⟩) h.a1 h.ra Aa k;have rb:=OM sG (C:=sqf (BC F G)) (fun x y hxy=>⟨(h.both hxy).1,(h.both hxy).2.2⟩) h.b1 h.rb (by rw[eC];omega) n
 obtain⟨a1,a2,a3⟩:=h.pin (Nat.zero_le k);obtain⟨b1,b2,b3⟩:=h.swap.pin (Nat.zero_le n);have:=h.hull he (x:=(Dh F a k).1) (y:=(Dh F a k).2) (u:=(Dh G b n).1) (v:=(Dh G b n).2) (.inl a1) (Std.le_of_lt a2) hd (Std.le_of_lt b2) (.inr b3);have ra':rc (sqf (BC F G)) (Dh F a k).1 (Dh F a k).2=1:=ra;have rb':rc (sqf (BC F G)) (Dh G b n).1 (Dh G b n).2=1:=rb;omega
theorem Pr.cmp(h:Pr F G a b){s:Int}(hs:aO F G a.1 a.2 b.1 b.2 s) :
  (s = -1/\∃ k,(Dh F a k).2<=(Dh G b k).1)\/(s=1/\∃ k,(Dh G b k).2<=(Dh F a k).1)\/(s=0/\Oy (BC F G) a b=1):=by
 obtain⟨K,h1,-⟩:=hs;have hk:=h.at_ K;rcases(Ll hk.a1 hk.b1 s).1 h1 with⟨x,e⟩ | ⟨x,e⟩ | ⟨x,e⟩
 ·exact .inl ⟨e,K,x⟩
 ·exact .inr (.inl ⟨e,K,x⟩)
 ·obtain⟨a1,a2,a3⟩:=h.pin (Nat.zero_le K)
  obtain⟨b1,b2,b3⟩:=h.swap.pin (Nat.zero_le K);exact .inr (.inr ⟨e,h.ceq_up a1 a2 a3 b1 b2 b3 x⟩)
theorem Pr.cmp_eq(h:Pr F G a b){s:Int}(hs:aO F G a.1 a.2 b.1 b.2 s):s=0↔Oy (BC F G) a b=1:=by
 rcases h.cmp hs with⟨e,k,x⟩ | ⟨e,k,x⟩ | ⟨e,x⟩
 ·exact⟨fun h=>Aa,fun q=>absurd x (h.never q k k)⟩
 ·refine⟨fun h=>Aa,fun q=>absurd x (h.swap.never (by rw[h.ceq_swap];exact q) k k)⟩
 ·exact⟨fun _=>x,fun _=>e⟩
end
theorem bM{F:Nat->Rat}(z:ZI F)(f:Ae F)(n0:F≠pz){u v:Rat}(huv:u<=v)(h:(2:Rat)^bx F<=u):rc (sqf F) u v=0:=by
 have hpos:=BS (bx F);have h1:=rc_all z f n0 (p:=-(2:Rat)^bx F) (q:=v) Ad;have sF:=Bl z f n0;have h2:=sF.nonneg huv;have h3:=sF.nonneg h;have e1:=Bb (sqf F) (-(2:Rat)^bx F) u v;have e2:=Bb (sqf F) (-(2:Rat)^bx F) ((2:Rat)^bx F) u;omega
theorem Pr.stop{F G:Nat->Rat}{a b:Rat×Rat}(h:Pr F G a b)(lF:Dy F)(lG:Dy G)(hD:pl F+pl G<=13)(b1:ab a.1<=2^400 - 1)(b2:ab a.2<=2^400 - 1)(b3:ab b.1<=2^400 - 1)(b4:ab b.2<=2^400 - 1) :
  ∃ K,K<=1000001000/\(∃ s,Stp (BC F G) (Dh F a K) (Dh G b K) s)/\∀ j,j < K->∀ s,¬ Stp (BC F G) (Dh F a j) (Dh G b j) s:=by
 have hx:∃ K,K<=1000001000/\∃ s,Stp (BC F G) (Dh F a K) (Dh G b K) s:=by
  obtain⟨M,hM⟩:∃ M,M=1000001000:=⟨_,rfl⟩
  refine⟨M,Aa,?_⟩;obtain⟨E,hE⟩:∃ E,E=1000000001:=⟨_,rfl⟩
  have hk:=h.at_ M;obtain⟨t1,t2,t3,t4⟩:=KE (E:=E) h.a1 b1 b2 (Ex (rc (sqf F)) a.1 a.2 M) Aa;obtain⟨u1,u2,u3,u4⟩:=KE (E:=E) h.b1 b3 b4 (Ex (rc (sqf G)) b.1 b.2 M) Aa;have ea:EW (rc (sqf F)) a.1 a.2 M=Dh F a M:=rfl;have eb:EW (rc (sqf G)) b.1 b.2 M=Dh G b M:=rfl;rw[ea]at t1 t2 t3 t4;rw[eb]at u1 u2 u3 u4;obtain⟨A,hA⟩:∃ A,A=Dh F a M:=⟨_,rfl⟩
  obtain⟨B,hB⟩:∃ B,B=Dh G b M:=⟨_,rfl⟩
  rw[<-hA]at hk t1 t2 t3 t4;rw[<-hB]at hk u1 u2 u3 u4;rw[<-hA,<-hB];by_cases n1:A.2<=B.1
  ·exact⟨-1,(Ll hk.a1 hk.b1 _).2 (.inl ⟨n1,rfl⟩)⟩
  by_cases n2:B.2<=A.1
  ·exact⟨1,(Ll hk.a1 hk.b1 _).2 (.inr (.inl ⟨n2,rfl⟩))⟩
  refine⟨0,(Ll hk.a1 hk.b1 _).2 (.inr (.inr ⟨?_,rfl⟩))⟩;rw[J2 hk.a1 hk.b1 n1 n2];obtain⟨x,hx⟩:∃ x,x=Vr A.1 B.1:=⟨_,rfl⟩
  obtain⟨y,hy⟩:∃ y,y=VH A.2 B.2:=⟨_,rfl⟩
  have x1:x<=A.1/\x<=B.1/\(x=A.1\/x=B.1):=by rw[hx];unfold Vr;split<;>grind
  have y1:A.2<=y/\B.2<=y/\(y=A.2\/y=B.2):=by rw[hy];unfold VH;split<;>grind
  have ax:ab x<=2^400 - 1:=by rcases x1.2.2 with e | e<;>rw[e]<;>assumption
  have ay:ab y<=2^400 - 1:=by rcases y1.2.2 with e | e<;>rw[e]<;>assumption
  have hxy:x < y:=by grind
  have wid:∀ e:Nat,e+1=E->(y - x)*2^e<=1:=fun e he=>by
   have h2:=BS e;rw[<-he,Rat.pow_succ]at t4 u4;have h3:y - x<=(A.2 - A.1)+(B.2 - B.1):=by grind
   have h4:=CQ h3 (Std.le_of_lt h2);grind
  obtain⟨e9,he9⟩:∃ e,e=1000000000:=⟨_,rfl⟩
  have sep:=wid e9 Aa;have rF:=lF.sep (E:=e9) Aa ax ay hxy sep;have rG:=lG.sep (E:=e9) Aa ax ay hxy sep;have sF:=Bl lF.z lF.f lF.n0;have sG:=Bl lG.z lG.f lG.n0;have gF:=sF.sub x1.1 (Std.le_of_lt hk.a1) y1.1;have gG:=sG.sub x1.2.1 (Std.le_of_lt hk.b1) y1.2.1;have cb:=h.both (Std.le_of_lt hxy);rw[hk.ra]at gF;rw[hk.rb]at gG;clear wid hE t4 u4;have hC:rc (sqf (BC F G)) x y≠0:=fun e=>by
   have:=lF.nice.apart lG.nice hD ax ay hxy (by rw[<-he9];exact sep) Aa e;omega
  obtain⟨m,hm⟩:∃ m,m=VH A.1 B.1:=⟨_,rfl⟩
  obtain⟨n,hn⟩:∃ n,n=Vr A.2 B.2:=⟨_,rfl⟩
  rw[<-hm,<-hn];have m1:A.1<=m/\B.1<=m/\(m=A.1\/m=B.1):=by rw[hm];unfold VH;split<;>grind
  have m2:n<=A.2/\n<=B.2/\(n=A.2\/n=B.2):=by rw[hn];unfold Vr;split<;>grind
  have ha1:=hk.a1;have hb1:=hk.b1;have hmn:m < n:=by grind
  have fra:=hk.ra;have frb:=hk.rb
  -- left and right of the common part
  have l1:rc (sqf (BC F G)) x m=0:=by
   have q:=h.both (show x<=m by grind);rcases m1.2.2 with e | e
   ·have a1:=Bb (sqf F) x m y
    have a2:=Bb (sqf F) m A.2 y;have a3:=sF.nonneg y1.1;have a4:=sF.nonneg (show x<=m by grind);rw[e]at a1 a2 a4 q ⊢;omega
   ·have a1:=Bb (sqf G) x m y
    have a2:=Bb (sqf G) m B.2 y;have a3:=sG.nonneg y1.2.1;have a4:=sG.nonneg (show x<=m by grind);rw[e]at a1 a2 a4 q ⊢;omega
  have l2:rc (sqf (BC F G)) n y=0:=by
   have q:=h.both (show n<=y by grind);rcases m2.2.2 with e | e
   ·have a1:=Bb (sqf F) x A.1 y
    have a2:=Bb (sqf F) A.1 n y;have a3:=sF.nonneg x1.1;have a4:=sF.nonneg (show n<=y by grind);rw[e]at a2 a4 q ⊢;omega
   ·have a1:=Bb (sqf G) x B.1 y
    have a2:=Bb (sqf G) B.1 n y;have a3:=sG.nonneg x1.2.1;have a4:=sG.nonneg (show n<=y by grind);rw[e]at a2 a4 q ⊢;omega
  have e1:=Bb (sqf (BC F G)) x m y;have e2:=Bb (sqf (BC F G)) m n y;omega
 obtain⟨K,hK,e⟩:=hx;induction K using Nat.strongRecOn with
 | _ K ih =>
  by_cases hj:∃ j,j < K/\∃ s,Stp (BC F G) (Dh F a j) (Dh G b j) s
  ·obtain⟨j,h1,h2⟩:=hj
   exact ih j h1 Aa h2
  ·exact⟨K,hK,e,fun j hj' s he=>hj ⟨j,hj',s,he⟩⟩
theorem Ww{F:Nat->Rat}(h:Ae F):Ae (tl F):=by
 obtain⟨n,h⟩:=h;exact⟨n,fun i hi=>h (i+1) Aa⟩
theorem aI{F:Nat->Rat}(h:Ae F)(x:Rat):ev F x=F 0+x*ev (tl F) x:=by
 have e:=MI (F 0) (Ww h) x;rw[Ra]at e;exact e
theorem jL{F:Nat->Rat}(h:Ae F):ev F 0=F 0:=by rw[aI h];grind
theorem far:∀(n:Nat) {F:Nat->Rat},Be (n+1) F->0 < F n->∃ B c:Rat,1<=B/\0 < c/\∀ z,B<=z->c<=ev F z:=by
 intro n;induction n with
 | zero =>
  intro F h h0;refine⟨1,F 0,Std.le_refl _,h0,fun z _=>?_⟩;rw[Ee h];show F 0<=F 0+z*0;grind
 | succ n ih =>
  intro F h h0;obtain⟨B,c,hB,hc,hz⟩:=ih (F:=tl F) (fun i hi=>h (i+1) Aa) h0;obtain⟨hi,ei⟩:=F7 hc;have ha:=Aj (F 0);have hm:=Rat.mul_nonneg (Std.le_of_lt hi) (show 0<=ab (F 0)+c by grind);refine⟨B+1 / c*(ab (F 0)+c),c,Ad,hc,fun z h1=>?_⟩;have h2:=hz z Ad;rw[aI ⟨n+1+1,h⟩];have h3:z*c<=z*ev (tl F) z:=Rat.mul_le_mul_of_nonneg_left h2 Ad;have h4:(B+1 / c*(ab (F 0)+c))*c<=z*c:=Rat.mul_le_mul_of_nonneg_right h1 (Std.le_of_lt hc)
  have h5:(B+1 / c*(ab (F 0)+c))*c=B*c+(ab (F 0)+c):=by
   rw[Rat.add_mul,Rat.mul_assoc,Rat.mul_comm (ab (F 0)+c) c,<-Rat.mul_assoc,ei,Rat.one_mul]
  rw[h5]at h4;have h6:=Rat.mul_nonneg (show 0<=B by grind) (Std.le_of_lt hc);have h7:=(EH.1 (Std.le_refl (ab (F 0)))).1;clear hz ih h h0 ei hm;grind
theorem aW{F:Nat->Rat}(h:Ae F){z:Rat}(hz:ev F z≠0):∀ n,ev (pw F n) z≠0
 | 0=>by show ev pone z≠0;rw[FR];decide
 | n+1=>by
  show ev (cv (pw F n) F) z≠0;rw[Cy (GN h n) h];intro q;rcases Rat.mul_eq_zero.1 q with a | a
  ·exact aW h hz n a
  ·exact hz a
theorem Yq{F:Nat->Rat}(hF:AU F)(h2:2<=pl F):∃ V,Nt F (y0 F) (yc F) V/\ZI V/\V≠pz/\Cr (y0 F) V/\pp (pd F)=cv (pp V) (yc F)/\0 < pcn (pd F):=by
 obtain⟨hC,hW,e,z1,z2⟩:=Ch hF;obtain⟨V,fV,eV,cV⟩:=XQ hF;have lpd:=Ht hF.f;have zd:=Dt hF.z;have fd:=Bd hF.f;have nd:pd F≠pz:=fun q=>by rw[q,BR]at lpd;omega
 obtain⟨zQ,-,-⟩:=Nf hC.f hC.n z2;have eQ:pq (pd F) (yc F)=V:=by rw[eV];exact(JG fV hC.f hC.n).1
 rw[eQ]at zQ;have nV:V≠pz:=fun q=>nd (by rw[eV,q,Cn]);refine⟨V,⟨L6 hF,hC.f,fV,e,eV,fun z hz=>?_⟩,zQ,nV,cV,?_,?_⟩
 ·obtain⟨N,Q,fQ,eQ⟩:=MW hF
  have:=aW hW.f hz N;rw[eQ,Cy fQ hC.f]at this;exact fun q=>this (by rw[q,Rat.mul_zero])
 ·have hP:AU (cv (pp V) (yc F)):=(AU.pp zQ fV nV).mul hC
  have h1:=Dl zQ fV nV;have h3:pd F=psc (pcn V:Rat) (cv (pp V) (yc F)):=by
   rw[<-Cv,<-MR zQ fV nV];exact eV
  rw[O7 zd hP.z hP.f hP.n (fun q=>h1 (by exact_mod_cast q)) h3,hP.self]
 ·have h1:=Im zd fd nd
  have hl:0 < ld (pd F):=by
   have h3:=hF.l;unfold ld at h3 ⊢;rw[lpd];show 0 < ((pl F - 1 - 1+1:Nat):Rat)*F (pl F - 1 - 1+1);rw[show pl F - 1 - 1+1=pl F - 1 by omega];exact Rat.mul_pos (by exact_mod_cast(show 0 < pl F - 1 by omega)) h3
  unfold pcn;rw[if_neg Ad];omega
theorem Ye{F:Nat->Rat}(hF:AU F)(h2:2<=pl F){p q:Rat}(hpq:p<=q){m m':Int}(h:Mt p q F m)(h':Mt p q (pp (pd F)) m'):m<=m'+1:=by
 obtain⟨V,hR,zV,nV,cV,e,-⟩:=Yq hF h2;obtain⟨hC,hW,eF,-,-⟩:=Ch hF;obtain⟨g,hg⟩:=Mt.ex p q _ hC (Nat.le_refl _);have hV:=AU.pp zV hR.v nV;obtain⟨vC,vW,eP,-,-⟩:=Ch hV;obtain⟨k,hk⟩:=Mt.ex p q _ vC (Nat.le_refl _);have h1:=((L6 hF).mt p q).mul hg;rw[<-eF]at h1;have h3:=(((L6 hV).mt p q).mul hk).mul hg;rw[<-eP,<-e]at h3;have e1:=h.uniq hpq h1;have e2:=h'.uniq hpq h3;have k0:=hk.nonneg hpq;have sX:=Bl zV hR.v nV
 have x0:=sX.nonneg hpq;obtain⟨n,hn⟩:=Int.eq_ofNat_of_zero_le x0;have h4:=hR.all zV nV cV n hpq hn;have h5:rc (y0 (pp V)) p q=n:=hn;omega
theorem XB{a b:Nat->Rat}{n:Nat}(h:∀ j,j < n->AX (a j)=AX (b j)):CR a n=CR b n:=by
 unfold CR;congr 1;refine List.map_congr_left fun j hj=>h j (List.mem_range.1 hj)
theorem j3:∀(n:Nat) {F:Nat->Rat},AU F->pl F<=n->∃ B0:Rat,0<=B0/\∀ B,B0<=B->∀ m,Mt 0 B F m->m<=CR F (pl F)/\((CR F (pl F):Int) - m) % 2=0:=by
 intro n;induction n with
 | zero=>intro F hF hn;have:=hF.pos;omega
 | succ n ih =>
  intro F hF hn;have hp:=hF.pos;by_cases c0:F 0=0
  ·-- a factor x
   have eL:cz (F5 0)=cs 0 pone:=by
    funext i
    match i with
    | 0=>rw[bI];rfl
    | 1=>rw[VP];rfl
    | i+2=>rw[jP];rfl
   have eF:F=cv (tl F) (cz (F5 0)):=by
    rw[eL,Ws,Ew]
    conv=>lhs;rw[<-Ra F,c0]
   have hL:=MO 0;have fT:=Ww hF.f;have hT:AU (tl F):=by
    have h1:=(hF.quot hL ⟨tl F,fun i=>hF.z (i+1),fT,eF⟩).1;have h2:=(JG fT hL.f hL.n).1;rw[<-eF]at h2;rw[h2]at h1;exact h1
   have h1:=Du hT.f hL.f hT.n hL.n;rw[<-eF,Mg]at h1;obtain⟨B0,hB0,h⟩:=ih hT Aa;refine⟨B0,hB0,fun B hB m hm=>?_⟩;have hpq:(0:Rat)<=B:=Std.le_trans hB0 hB;obtain⟨t,ht⟩:=Mt.ex 0 B _ hT (Nat.le_refl _);have h2:=ht.mul ((TB 0).mt 0 B);rw[<-eF,aL 0 hpq,if_neg (fun q=>absurd q.1 Ab)]at h2;have h3:=hm.uniq hpq h2;have h4:=h B hB t ht;have e:CR F (pl F)=CR (tl F) (pl (tl F)):=by
    rw[show pl F=pl (tl F)+1 by omega,Gy,c0,show AX 0=0 from CY.2 rfl,EY,if_pos rfl];rfl
   rw[e];omega
  ·by_cases c1:pl F<=1
   ·have e:=hF.one c1
    refine⟨0,Std.le_refl _,fun B hB m hm=>?_⟩;have h1:=hm.uniq hB (e▸Mt.one 0 B);have e2:CR F (pl F)=0:=by
     rw[show pl F=0+1 by omega,Gy,List.range_zero,List.map_nil,EY,if_neg (DC c0),if_neg (show ¬ (0:Int) = -AX (F 0) by have:=DC c0;omega)];rfl
    rw[e2];omega
   ·obtain⟨V,hR,zV,nV,cV,eH,hcn⟩:=Yq hF Aa
    have zd:=Dt hF.z;have fd:=Bd hF.f;have lpd:=Ht hF.f;have nd:pd F≠pz:=fun q=>by rw[q,BR]at lpd;omega
    have hH:=AU.pp zd fd nd;have lH:=DI zd fd;obtain⟨B1,hB1,h⟩:=ih hH Aa;obtain⟨L,hL⟩:∃ L,pl F=L+1:=⟨pl F - 1,Aa⟩
    have hld:=hF.l;unfold ld at hld;rw[hL,Nat.add_sub_cancel]at hld;obtain⟨B2,c,hB2,hc,hz⟩:=far L (by rw[<-hL];exact AA hF.f) hld;refine⟨B1+B2,Ad,fun B hB m hm=>?_⟩;have hpq:(0:Rat)<=B:=by grind
    obtain⟨t,ht⟩:=Mt.ex 0 B _ hH (Nat.le_refl _);have h1:=Ye hF Aa hpq hm ht;have h2:=h B Ad t ht;have e1:CR (pp (pd F)) L=EY 0 ((List.range L).map fun j=>AX (F (j+1))):=by
     unfold CR;congr 1;refine List.map_congr_left fun j _=>?_;show AX (1 / (pcn (pd F):Rat)*(((j+1:Nat):Rat)*F (j+1)))=_;rw[CO (F7 (by exact_mod_cast hcn)).1,CO (by exact_mod_cast Nat.succ_pos j)]
    have e2:CR (pp (pd F)) L<=CR F (pl F):=by
     rw[e1,hL,Gy];exact Qq _ _
    rw[lH,lpd,hL,Nat.add_sub_cancel]at h2;rw[hL]at e2 ⊢;have hv:=hz B Ad;have p0:ev F 0≠0:=by rw[jL hF.f];exact c0
    have pB:0 < ev F B:=by grind
    have h3:=hm.par p0 Ad;have h4:=QY (a:=F) (n:=L) c0 Ad;have s1:AX (ev F B)=1:=by unfold AX;rw[if_pos pB]
    have s2:AX (F L)=1:=by unfold AX;rw[if_pos hld]
    rw[s1,jL hF.f]at h3;rw[s2]at h4;omega
noncomputable def G9(B:Rat)(l:List ((Nat->Rat)×Nat)):Int:=(l.map fun p=>rc (sqf p.1) 0 B*(p.2:Int)).sum
theorem Kv(B:Rat)(l:List ((Nat->Rat)×Nat))(p:(Nat->Rat)×Nat):G9 B (l ++ [p])=G9 B l+rc (sqf p.1) 0 B*(p.2:Int):=by simp[G9]
theorem SY{F:Nat->Rat}(h:SF F):sqf F=F:=by
 have e:pp F=F:=h.p.self;have h2:=OE h h.p (Dv.refl F);have h3:=Ch h.p;unfold sqf;rw[e];refine h3.2.1.eq_dv h.p ⟨yc F,h3.1.f,?_⟩ h2;rw[Av];exact h3.2.2.1
theorem Mt.yp{B:Rat}(l:List ((Nat->Rat)×Nat)):(∀ p∈l,SF p.1)->Mt 0 B (yp pone l) (G9 B l):=by
 revert l;refine Fv (fun _=>Mt.one 0 B) fun l p ih h=>?_;have h1:=ih fun q hq=>h q (List.mem_append_left _ hq);have h2:=h p (List.mem_append_right _ (List.mem_singleton.2 rfl));rw[Od,Kv,SY h2,Int.mul_comm];exact h1.mul ((h2.mt 0 B).pw p.2)
theorem aY{g:Nat->Rat}(h:AU g)(K:Nat):∀ p∈yl (y0 g) (yc g) K,SF p.1/\Dv p.1 g:=fun p hp=>by
 obtain⟨hC,hW,e,-⟩:=Ch h;obtain⟨j,-,rfl,-⟩:=Y4 _ _ K p hp;obtain⟨q,e1,-⟩:=Ki hW hC j;have h2:Dv (ya (y0 g) (yc g) j) (yw (y0 g) (yc g) j).1:=⟨(yw (y0 g) (yc g) (j+1)).1,(EU hW hC (j+1)).1.f,by rw[Av];exact e1⟩
 have h3:=h2.trans (KA (Tg hW hC j).1);exact⟨((L6 h).factor q (hW.zdv q h3)).1,h3.trans ⟨yc g,hC.f,by rw[Av];exact e⟩⟩
theorem Zq(l:List Int):∀ σ,EY (-σ) (l.map fun s => -s)=EY σ l:=by
 induction l with
 | nil=>intro σ;rfl
 | cons s l ih =>
  intro σ;rw[List.map_cons,EY,EY,ih s];by_cases h:s=0
  ·rw[if_pos Aa,if_pos h];exact ih σ
  ·rw[if_neg Aa,if_neg h]
   by_cases k:σ = -s
   ·rw[if_pos k,if_pos Aa]
   ·rw[if_neg k,if_neg Aa]
theorem X9{c:Rat}(hc:c≠0)(F:Nat->Rat)(n:Nat):CR (psc c F) n=CR F n:=by
 rcases Std.lt_trichotomy 0 c with a | a | a
 ·exact XB fun j _=>CO a
 ·exact absurd a.symm hc
 ·have e:∀ j,AX (psc c F j) = -AX (F j):=fun j=>by
   have:psc c F j = -((-c)*F j):=by show c*F j=_;grind
   rw[this,YM,CO Ad]
  have h:=Zq ((List.range n).map fun j=>AX (F j)) 0;rw[List.map_map]at h;unfold CR;rw[<-h,show -(0:Int)=0 from rfl];congr 1;exact List.map_congr_left fun j _=>e j
theorem ZT{B C:Rat}(l:List ((Nat->Rat)×Nat)):(∀ p∈l,rc (sqf p.1) 0 B=rc (sqf p.1) 0 C)->G9 B l=G9 C l:=fun h=>by
 unfold G9;congr 1;exact List.map_congr_left fun p hp=>by rw[h p hp]
theorem Xe{F:Nat->Rat}(z:ZI F)(f:Ae F)(n0:F≠pz){K:Nat}(hK:pl (yw (y0 (pp F)) (yc (pp F)) K).1<=1) :
  G9 ((2:Rat)^bx F) (yl (y0 (pp F)) (yc (pp F)) K)<=CR F (pl F)/\((CR F (pl F):Int) - G9 ((2:Rat)^bx F) (yl (y0 (pp F)) (yc (pp F)) K)) % 2=0:=by
 have hP:=AU.pp z f n0;obtain⟨B0,hB0,h⟩:=j3 _ hP (Nat.le_refl _);have hpos:=BS (bx F);have hsf:=aY hP K;have e:=Xx hP hK pone;rw[Br]at e;have hM:=Mt.yp (B:=(2:Rat)^bx F+B0) (yl (y0 (pp F)) (yc (pp F)) K) fun p hp=>(hsf p hp).1;rw[e]at hM;have h1:=h _ Ad _ hM;have ev_:CR (pp F) (pl (pp F))=CR F (pl F):=by
  rw[DI z f];exact X9 (Jn (by have:=Dl z f n0;exact_mod_cast this)) F _
 rw[ev_]at h1;have e2:=ZT (B:=(2:Rat)^bx F) (C:=(2:Rat)^bx F+B0) (yl (y0 (pp F)) (yc (pp F)) K) fun p hp=>by
  obtain⟨s,d⟩:=hsf p hp;rw[SY s];have a1:=Bb p.1 0 ((2:Rat)^bx F) ((2:Rat)^bx F+B0);have a2:=bM z f n0 (u:=(2:Rat)^bx F) (v:=(2:Rat)^bx F+B0) Ad (Std.le_refl _);have a3:=(Bl z f n0).rc_le s.p (ED z f n0 s ((Db z f).1 d)) (show(2:Rat)^bx F<=(2:Rat)^bx F+B0 by grind);have a4:=s.nonneg (show(2:Rat)^bx F<=(2:Rat)^bx F+B0 by grind);omega
 rw[e2];exact h1
open Go.RowKit
section
variable{P:Program}{ops:Array Oper}{Q:Exit->Act->World->Prop}{a0:Act}{W0:World}
 {k:Nat} {Λ:List Nat} {D:List Nat} {T:List (List Nat)} {EK:List Nat} {EV:List Value} {V:(Nat->Value)->Nat->Value} {F:Nat->(Nat->Value)->World->Prop}
end
section
variable{P:Program}{ops:Array Oper}{Q:Exit->Act->World->Prop}{a0:Act}{W0:World}
end
def Tx(a:Nat->Rat)(n:Nat):Int:=lst 0 ((List.range n).map fun j=>AX (a j))
theorem KG(a:Nat->Rat)(n:Nat):CR a (n+1)=CR a n+if AX (a n)≠0/\Tx a n = -AX (a n)then 1 else 0:=by
 unfold CR Tx;rw[List.range_succ,List.map_append];exact VU _ _ _
theorem Re(a:Nat->Rat)(n:Nat):Tx a (n+1)=if AX (a n)=0 then Tx a n else AX (a n):=by
 unfold Tx;rw[List.range_succ,List.map_append];exact Rc _ _ _
theorem O5(a:Nat->Rat):∀ n,Tx a n=0\/Tx a n=1\/Tx a n = -1
 | 0 => .inl rfl
 | n+1=>by
  rw[Re]
  split
  ·exact O5 a n
  ·exact BK _
theorem Uj(a:Nat->Rat):∀ n,CR a n<=n
 | 0=>Nat.le_refl _
 | n+1=>by
  have:=Uj a n;rw[KG]
  split<;>omega
theorem QG{a:Nat->Rat}(h:Ae a):∀ d,CR a (pl a+d)=CR a (pl a)
 | 0=>rfl
 | d+1=>by
  have e:a (pl a+d)=0:=AA h _ Aa;rw[<-Nat.add_assoc,KG,QG h d,if_neg fun q=>q.1 (by rw[e];exact CY.2 rfl)];rfl
theorem Q8{B:Rat}(l:List ((Nat->Rat)×Nat))(h:∀ p∈l,0<=rc (sqf p.1) 0 B):0<=G9 B l:=by
 revert h;revert l;refine Fv (fun _=>Int.le_refl _) fun l p ih h=>?_;have h1:=ih fun q hq=>h q (List.mem_append_left _ hq);have h2:=Int.mul_nonneg (h p (List.mem_append_right _ (List.mem_singleton.2 rfl))) (Int.natCast_nonneg p.2);rw[Kv];omega
theorem O6{B:Rat}(l:List ((Nat->Rat)×Nat))(h:∀ p∈l,0<=rc (sqf p.1) 0 B)(i:Nat):0<=G9 B (l.take i)/\G9 B (l.take i)<=G9 B l:=by
 have e:G9 B l=G9 B (l.take i)+G9 B (l.drop i):=by
  unfold G9;rw[<-List.sum_append,<-List.map_append,List.take_append_drop]
 have h1:=Q8 (l.take i) fun p hp=>h p (List.mem_of_mem_take hp);have h2:=Q8 (l.drop i) fun p hp=>h p (List.mem_of_mem_drop hp);omega
theorem XY(l:List ((Nat->Rat)×Nat)):(∀ p∈l,1 < pl p.1/\1<=p.2)->l.length<=Tc l:=by
 revert l;refine Fv (fun _=>Nat.zero_le _) fun l p ih h=>?_;have h1:=ih fun q hq=>h q (List.mem_append_left _ hq);obtain⟨h2,h3⟩:=h p (List.mem_append_right _ (List.mem_singleton.2 rfl));have h4:1*1<=p.2*(pl p.1 - 1):=Nat.mul_le_mul h3 Aa;rw[NY,List.length_append];show _+1<=_;omega
theorem Mid.dvd{F E:Nat->Rat}(h:Mid F)(hE:AU E)(hd:Dv E F):Mid E:=
 ⟨hE.z,hE.f,hE.n,Nat.le_trans (Dv.le hE.f h.f h.n0 hd) h.p,by rw[hE.c];decide,fun C a b=>h.d C a (b.trans hd)⟩
end Go.Hp
namespace Go.Proofs.YtmhgnigpmompmaaGreat
open Go.RowKit Go.Hp
set_option maxRecDepth 20000 in
theorem Ni(v0:Value)(l0:List Jy)(w:World)(h0:DY w v0 l0)(hB:Rz l0) :
  Bg 7 #[v0] w (fun r _=>r = .bool true):=by
 have H0:=Af h0;have PB:=Af (h0.has hB.2).1;have hlB:(l0.map Zj).length<=1048576:=by simpa using hB.1
 obtain⟨A0,c0,rfl,k1,k2⟩:=h0.len;clear h0 hB;have hll0:(l0.map Zj).length=l0.length:=by simp
 obtain⟨m0,hm0⟩:∃ m0,m0=l0.map Zj:=⟨_,rfl⟩
 rw[<-hm0]at PB hlB hll0;rw[<-hll0]at k1 PB ⊢;clear hm0 hll0 H0;have hp0:=BD (Cx m0)
 go_enter Tryz.func7,Tryz.ntmps7
 go_wp2_with fail
 refine AQ (Xn _) ?_;rintro r w1 rfl hx
 go_wp2_with fail
 refine AQ (Zl w1.heap.size 1 [(.slice A0 m0.length c0,m0)] _ Ac Ac (Sb w1 _ (PB.out.ext hx) rfl)) ?_;rintro r2 w2 ⟨b,rfl,hb⟩ hx2;replace hx:=hx.trans hx2.a1;clear hx2;have Hb:=Af hb;clear hb;cases b with
 | false =>
  go_wp2
  go_ret
  exact Ai.mk rfl hx
 | true =>
 have HL:=Af (Hb.out rfl (.slice A0 m0.length c0,m0) Ac);clear Hb;have hdg:∀ X,Ext w X->Bg 15 #[.slice A0 m0.length c0] X (fun r _=>r = .int .i64 ((pl (cz m0):Int) - 1)):=fun X x=>NV _ m0 X (PB.out.ext x) Aa;have HD:=Af hdg;clear hdg
 go_wp2_with fail
 refine AQ (HD.out _ hx) ?_;rintro r3 w3 rfl hx3;replace hx:=hx.trans hx3;clear hx3;by_cases hz:pl (cz m0)=0
 ·rw[hz]
  go_wp2
  go_ret
  exact Ai.mk rfl hx
 have hlt:¬ ((pl (cz m0):Int) - 1 < 0):=by omega
 have hlite:=HL.out.lite (fun e=>hz (by rw[e,BR]));have hl12:=HL.out.1;have HT:=Af hlite;clear hlite HL HD;have hv9:CR (cz m0) m0.length=CR (cz m0) (pl (cz m0)):=by
  have:=QG (a:=cz m0) (Ae.cz m0) (m0.length - pl (cz m0));rw[show pl (cz m0)+(m0.length - pl (cz m0))=m0.length by omega]at this;exact this
 have HV9:=Af hv9;clear hv9;generalize (pl (cz m0):Int) - 1=dg at *;clear hz hp0;obtain⟨a,ha⟩:∃ a,a=cz m0:=⟨_,rfl⟩
 rw[<-ha]at HV9 HT;have HA:=Af ha;clear ha;go_wp2
 go_loopw [3,4,5] (fun sv lv iv wr=>∃ i:Nat,i<=m0.length/\iv = .int .i64 (i:Nat)/\sv = .int .i64 (CR a i:Nat)/\lv = .int .i64 (Tx a i)/\Ext w wr) (fun _ _ iv _=>m0.length - (intOf iv).toNat)
 case atStart=>exact⟨0,Aa,rfl,rfl,rfl,hx⟩
 case round =>
  clear hx;obtain⟨i,hi,rfl,rfl,rfl,hx⟩:=hrel;have hs1:=KG a i;have hs2:=Re a i;have hs3:=O5 a i;have hs4:=Uj a i;obtain⟨V,hV⟩:∃ V,V=CR a i:=⟨_,rfl⟩
  obtain⟨l,hl⟩:∃ l,l=Tx a i:=⟨_,rfl⟩
  rw[<-hV]at hs1 hs4 ⊢;rw[<-hl]at hs1 hs2 hs3 ⊢;by_cases hil:i < m0.length
  ·obtain⟨g,o,b3,A3,n3,c3,rfl,-,q0,q1,hq⟩:=PB.out.at_ hil
   replace q0:=hx.cell q0;replace q1:=hx.cell q1;have hsg:m0[i].sign=AX (a i):=by
    have e1:a i=((m0[i]:Int):Rat):=by rw[HA.out,Cq hil]
    rw[e1];exact En ((m0[i]:Int):Rat)
   obtain⟨s,hs⟩:∃ s,s=AX (a i):=⟨_,rfl⟩
   have hs5:=BK (a i);rw[<-hs]at hs1 hs2 hs5 hsg;have hc:=WE _ m0[i] _ (hq.ext hx);rw[hsg]at hc;have HC:=Af hc;have HS:=Af (Au hs1 hs2);clear hc hq hsg hs hs1 hs2 hV hl;have hil':(i:Int) < m0.length:=by omega
   go_wp2_with fail
   refine AQ HC.out ?_;rintro r4 w4 rfl hx4;replace hx:=hx.trans hx4;clear hx4 q0 q1 HC;rcases hs5 with h | h | h
   ·subst h
    have e1:=HS.out.1;have e2:=HS.out.2;simp only[ne_eq,not_true_eq_false,false_and,if_false,if_true,Nat.add_zero]at e1 e2;have HE:=Af (Au e1 e2);clear e1 e2 HS;go_wp2
    go_roundw
    case rel=>exact⟨i+1,Aa,by go_num,by rw[HE.out.1],by rw[HE.out.2],hx⟩
    case measure=>simp[intOf];omega
   ·subst h
    by_cases hl:l = -1
    ·subst hl
     have e1:CR a (i+1)=V+1:=by rw[HS.out.1,if_pos ⟨Ab,rfl⟩]
     have e2:Tx a (i+1)=1:=by rw[HS.out.2,if_neg Ab]
     have HE:=Af (Au e1 e2);clear e1 e2 HS;go_wp2
     go_roundw
     case rel=>exact⟨i+1,Aa,by go_num,by rw[HE.out.1];go_num,by rw[HE.out.2],hx⟩
     case measure=>simp[intOf];omega
    ·have e1:CR a (i+1)=V:=by rw[HS.out.1,if_neg (fun q=>hl q.2),Nat.add_zero]
     have e2:Tx a (i+1)=1:=by rw[HS.out.2,if_neg Ab]
     have HE:=Af (Au e1 e2);clear e1 e2 HS;go_wp2
     go_roundw
     case rel=>exact⟨i+1,Aa,by go_num,by rw[HE.out.1],by rw[HE.out.2],hx⟩
     case measure=>simp[intOf];omega
   ·subst h
    by_cases hl:l=1
    ·subst hl
     have e1:CR a (i+1)=V+1:=by rw[HS.out.1,if_pos ⟨Ab,rfl⟩]
     have e2:Tx a (i+1) = -1:=by rw[HS.out.2,if_neg Ab]
     have HE:=Af (Au e1 e2);clear e1 e2 HS;go_wp2
     go_roundw
     case rel=>exact⟨i+1,Aa,by go_num,by rw[HE.out.1];go_num,by rw[HE.out.2],hx⟩
     case measure=>simp[intOf];omega
    ·have e1:CR a (i+1)=V:=by rw[HS.out.1,if_neg (fun q=>hl (by have:=q.2;omega)),Nat.add_zero]
     have e2:Tx a (i+1) = -1:=by rw[HS.out.2,if_neg Ab]
     have HE:=Af (Au e1 e2);clear e1 e2 HS;go_wp2
     go_roundw
     case rel=>exact⟨i+1,Aa,by go_num,by rw[HE.out.1],by rw[HE.out.2],hx⟩
     case measure=>simp[intOf];omega
  ·obtain rfl:i=m0.length:=by omega
   have hVV:V=CR a (pl a):=by rw[hV];exact HV9.out
   have HVV:=Af (Au hVV hs4);clear hs1 hs2 hs3 hs4 hV hl hVV;have hL:Dy (cz m0):=by rw[<-HA.out];exact HT.out
   rw[HA.out]at HVV;clear HT HA HV9;have HT:=Af hL;have hP:=AU.pp hL.z hL.f hL.n0;have hsq:∀ X,Ext w X->Bg 37 #[.slice A0 m0.length c0] X ((aU X.heap.size (cz m0))):=fun X x =>
    fO _ m0 1 7 16384 X (PB.out.ext x) hL.sim.s hL.sim.d Ab Aa hL.sim.p Ab hL.n0 Ab Ab
   have HQ:=Af hsq;clear hsq
   go_wp2_with fail
   refine AQ (HQ.out _ hx) ?_;rintro r5 w5 ⟨z5,u5,us,K,rfl,hz5,hK,hF⟩ hx5;clear HQ;obtain⟨b5,B5,n5,c5,rfl⟩:=hz5.cells;obtain⟨L,hLL⟩:∃ L,L=yl (y0 (pp (cz m0))) (yc (pp (cz m0))) K:=⟨_,rfl⟩
   rw[<-hLL]at hF;obtain⟨FA,fc,rfl⟩:=hF.shape;have hd:=Xe hL.z hL.f hL.n0 hK.1;have hsf:=aY hP K;rw[<-hLL]at hd hsf;have hbx:=TL hL.q;have hb2:=Sc (bx (cz m0));have hpos:(0:Rat) < (2:Rat)^bx (cz m0):=Rat.pow_pos Ab;have hint:(((2:Int)^bx (cz m0):Int):Rat)=(2:Rat)^bx (cz m0):=Ig _;have hzz:=GM (bx (cz m0));obtain⟨Z,hZ⟩:∃ Z,Z=(2:Int)^bx (cz m0):=⟨_,rfl⟩
   obtain⟨B,hBe⟩:∃ B,B=(2:Rat)^bx (cz m0):=⟨_,rfl⟩
   have hbd:∀ X,Ext w X->Bg 27 #[.slice A0 m0.length c0] X (fun r w'=>∃ z,r = .tuple #[z,.int .i64 0]/\AO w' z Z):=fun X x =>
    Ai.imp (VS _ m0 _ 32768 X (PB.out.ext x) Aa (fun _=>hL.pg)) fun r w' ⟨z,h1,h2,_⟩=>by
     rw[hL.err]at h1;exact⟨z,h1,by rw[hZ];exact h2 hL.err⟩
   rw[<-hBe]at hd hb2 hpos hint;rw[<-hZ]at hint hzz;have hcn:∀ i (h:i < L.length) X,Ext w X->∀ v E d,AB 0 X (.slice E (pl L[i].1) d) L[i].1->Qv X v 0 B->Bg 16 #[.slice E (pl L[i].1) d,v] X (fun r _=>r = .tuple #[.int .i64 (rc (sqf L[i].1) 0 B),.int .i64 0]):=fun i h X x v E d hz hv=>by
    obtain⟨s,hdv⟩:=hsf L[i] (List.getElem_mem h);have hm:=hL.mid.dvd s.p ((Db hL.z hL.f).1 hdv);obtain⟨m,hm1,hm2,-,hm3⟩:=hz.hz (fun i=>Nat.le_trans (hm.q i) Ab);refine Ai.imp (Q0 _ v m 0 B _ 32768 100000 X hm1 hv (by have:=hm.p;omega) (fun _=>by rw[hm3];exact hm.pg) Ab Aa Aa) fun r _ h=>?_;unfold I9 at h;rw[hm3,hm.err,if_pos ⟨rfl,Std.le_of_lt hpos⟩,if_pos rfl,if_pos (Std.le_of_lt hpos)]at h;exact h
   have hnn:∀ p∈L,0<=rc (sqf p.1) 0 B:=fun p hp=>by
    rw[SY (hsf p hp).1];exact(hsf p hp).1.nonneg (Std.le_of_lt hpos)
   have hLn:L.length<=1000000:=by
    have h1:=gB hP hK.1;have h2:=Pf hP K;rw[<-hLL]at h1 h2;have h3:=XY L fun p hp=>⟨(h2 p hp).2.1,(h2 p hp).2.2.1⟩
    have h4:=DI hL.z hL.f;have h5:=hL.p;omega
   have hq0:qsz (0:Rat)<=274877906944:=by decide
   have hqB:qsz B<=274877906944:=by omega
   have HC:=Af (Au hbd (Au hcn (Au hint (Au hq0 hqB))));have HD:=Af (Au hd hnn);have hszZ:sz Z.natAbs<=1099511627776:=by omega
   have HSZ:=Af hszZ;clear hbd hcn hint hq0 hqB hd hnn hsf hP hL hbx hb2 hpos hzz hZ hBe hLL hK hz5 hszZ;obtain⟨W6,eW6,eb,y6⟩:=Ba.made w5 26 #[.bool b5,.slice B5 n5 c5] (by simp[Ah]);have HF:=Af ((hF.base_le (Nat.zero_le _)).ext y6);clear hF;replace hx:=(hx.trans hx5).trans y6;clear hx5 y6 eb
   go_upto_region 15 with(fail)
   rw[<-eW6];clear eW6;generalize w5.heap.size=gb at *
   go_wp2_with fail
   refine AQ (HC.out.1 _ hx) ?_;rintro r7 w7 ⟨z7,rfl,hz7⟩ hx7;obtain⟨b7,B7,n7,c7,rfl⟩:=hz7.cells;obtain⟨W8,eW8,eb,y8⟩:=Ba.made w7 26 #[.bool b7,.slice B7 n7 c7] (by simp[Ah]);have HB:=Af (hz7.kd y8.kd);clear hz7;have HF8:=Af ((HF.out.ext hx7).ext y8);clear HF;replace hx:=(hx.trans hx7).trans y8;clear hx7 y8
   go_upto_region 16 with(fail)
   rw[<-eW8];clear eW8;generalize w7.heap.size=gc at *;have HX:=Af hx;clear hx;go_wp2
   go_loopw [12,13] (fun mv iv wr=>∃ i:Nat,i<=L.length/\iv = .int .i64 (i:Nat)/\mv = .int .i64 (G9 B (L.take i))/\Ext W8 wr) (fun _ iv _=>L.length - (intOf iv).toNat)
   case atStart=>exact⟨0,Aa,rfl,by simp[G9],Ext.refl _⟩
   case round =>
    obtain⟨i,hi,rfl,rfl,hy⟩:=hrel;have hbd:=O6 L HD.out.2 i;obtain⟨M,hM⟩:∃ M,M=G9 B (L.take i):=⟨_,rfl⟩
    have hV9:=HVV.out;have hd:=HD.out.1;rw[<-hM]at hbd ⊢;by_cases hil:i < L.length
    ·obtain⟨g,o,E,d,rfl,q0,q1,hel⟩:=HF8.out.at_ hil
     have hcn:=HC.out.2.1 i hil;have hbd2:=O6 L HD.out.2 (i+1);have htk:G9 B (L.take (i+1))=M+rc (sqf L[i].1) 0 B*(L[i].2:Int):=by rw[List.take_succ_eq_append_getElem hil,Kv,<-hM]
     have hN0:=HD.out.2 L[i] (List.getElem_mem hil);have h9:=HD.out.1.1;rw[<-HVV.out.1]at h9;have h10:=HVV.out.2;obtain⟨G,hG⟩:∃ G,G=L[i].1:=⟨_,rfl⟩
     obtain⟨ex,hex⟩:∃ x,x=L[i].2:=⟨_,rfl⟩
     rw[<-hG]at hcn htk q0 hel hN0;rw[<-hex]at htk q1;obtain⟨pn,hpn⟩:∃ n,n=pl G:=⟨_,rfl⟩
     rw[<-hpn]at hcn q0 hel;obtain⟨N,hN⟩:∃ N,N=rc (sqf G) 0 B:=⟨_,rfl⟩
     rw[<-hN]at hcn htk hN0;obtain⟨P,hP⟩:∃ P,N*(ex:Int)=P:=⟨_,rfl⟩
     rw[hP]at htk;rw[htk]at hbd2;have hP0:0<=P:=by rw[<-hP];exact Int.mul_nonneg hN0 (Int.natCast_nonneg _)
     have hM9:M<=1000:=by omega
     have hP9:P<=1000:=by omega
     replace q0:=hy.cell q0;replace q1:=hy.cell q1;have HE:=Af (Au (hel.ext hy) hcn);have HT2:=Af htk;have HM0:=Af hbd.1;replace eb:=eb.ext hy;clear hel hcn hbd2 htk hG hex hpn hN h9 h10 hbd hd hV9 hM;have hil':(i:Int) < L.length:=by omega
     have ceb:=eb.cells2;have feb:=eb.frozen
     go_wp2_with fail
     refine EE 15 [71,72,73,74,75,76,77,78,79,80,70,81,82,14,15] [8,13,10] [_,_,_] [(kv ?_),(kv ?_),(kv ?_),(kv ?_),(kv ?_),(fun γ=>γ 5),(kv ?_),(fun γ=>γ 7),(fun γ=>γ 8),(kv (.tuple #[.int .i64 N,.int .i64 0])),(kv ?_),(kv ?_),(kv ?_),(kv ?_),(kv ?_)] (fun γ w'=>[True,True,True,True,True,BX w' (γ 5) (0:Rat),True,BX w' (γ 7) B,Qv w' (γ 8) 0 B,True,True,True,True,True,True]) ?s1 ?_
     case s1 =>
      iterate 15 refine⟨?_,?_⟩
      trivial
      iterate 5 focus
       refine Bi fun _ w' he R hR=>?_;have hc:=he.cells;have cq0:=he.cell q0;have cq1:=(eb.ext he).cells2;go_simp;(try go_ints);(try(rw[if_neg Aa]));(try(rw[if_pos Aa]));(try go_simp);(try go_ints)
       exact C8 hR
      ·refine Bi fun _ w' he R hR=>?_
       go_simp;exact BF (jZ 0 w' Ab Ab) hR
      iterate 1 focus
       refine Bi fun _ w' he R hR=>?_;have hc:=he.cells;have cq0:=he.cell q0;have cq1:=(eb.ext he).cells2;go_simp;exact C8 hR
      ·refine Bi fun _ w' he R hR=>?_
       go_simp;exact BF (F:=fun r w''=>BX w'' (r) B) (Ai.imp (Yn _ Z w' ((HB.out.has HSZ.out).ext (hy.trans he))) fun _ _ h=>by rw[HC.out.2.2.1]at h;exact h) hR
      ·refine Gj fun γ w' he hf R hR=>?_;have f5:BX w' (γ 5) (0:Rat):=hf 5 Ab;have f7:BX w' (γ 7) B:=hf 7 Ab;clear hf
       obtain⟨d1,D1,e1,g1,d2,D2,e2,g2,h2⟩:=f5.cells;obtain⟨d3,D3,e3,g3,d4,D4,e4,g4,h5⟩:=f7.cells;go_simp;exact hR _ _ (Ext.refl _) rfl ⟨_,_,_,_,_,_,_,_,_,_,_,_,_,_,_,_,rfl,h2▸f5.has HC.out.2.2.2.1,h5▸f7.has HC.out.2.2.2.2⟩
      ·refine Gj fun γ w' he hf R hR=>?_;have f8:Qv w' (γ 8) 0 B:=hf 8 Ab;clear hf
       go_simp;exact OA (HE.out.2 w' (HX.out.trans (hy.trans he)) _ _ _ (HE.out.1.ext he) f8) hR
      iterate 5 focus
       refine Bi fun _ w' he R hR=>?_;have hc:=he.cells;go_simp;(try go_ints);(try(rw[if_neg Aa]));(try(rw[if_pos Aa]));(try go_simp);(try go_ints)
       exact C8 hR
     intro γ w10 hx10 hF;have p5:BX w10 (γ 5) (0:Rat):=AC.get hF 5 Ab;have p7:BX w10 (γ 7) B:=AC.get hF 7 Ab;have p8:Qv w10 (γ 8) 0 B:=AC.get hF 8 Ab;clear hF;simp only[Bw,Nat.reduceAdd];generalize γ 5=g5 at *;generalize γ 7=g7 at *;generalize γ 8=g8 at *;clear γ;clear p5 p7 p8 ceb feb q0;replace q1:=hx10.cell q1;have hy11:=hy.trans hx10;clear HE hx10;have hm0:=HM0.out;go_wp2
     go_roundw
     case rel=>exact⟨i+1,Aa,by go_num,by rw[HT2.out],hy11⟩
     case measure=>simp[intOf];omega
    ·obtain rfl:i=L.length:=by omega
     rw[List.take_length]at hM;have h1:=HD.out.1;rw[<-hM,<-HVV.out.1]at h1;have h10:=HVV.out.2;obtain⟨k,hk⟩:∃ k:Nat,(V:Int)=M+2*k:=⟨(((V:Int) - M) / 2).toNat,Aa⟩
     have hk2:((V:Int) - M).tmod 2=0:=by
      rw[show(V:Int) - M=2*(k:Int) by omega,Int.tmod_eq_emod_of_nonneg Aa];omega
     have hle:M<=(V:Int):=h1.1;have HK2:=Af hk;clear hk h1 hM hd hV9;go_wp2
     go_ret
     exact Ai.mk rfl (HX.out.trans hy)
open Go.ChangeShapes Go.WideShapes Go.ChangeAt
open Go.ChangeMaps (open_string shut_string)
theorem own_:ownKnob Tryz.prog.godebug=none:=by kernel_rfl
theorem laidOut_:laidOutB Tryz.prog=true:=by kernel_rfl
set_option maxRecDepth 100000 in
theorem realrootsDescartes_lifted(os:Os)(started:os.Started)(H:Type)(enc:TypeId×Value->H)(F:Stop.Interp) :
  ReturnsInHanded {} Tryz.checked os 7 .any ((Rows.OpenSpec.upto Rows.realrootsDescartesSpec).pre6 enc Tryz.prog Tryz.f7 Rows.realrootsDescartesUptoRow.domain false) (((Rows.OpenSpec.upto Rows.realrootsDescartesSpec).at F).post enc Tryz.prog Tryz.f7 false true false false):=by
 refine returnsInHanded_of_cond (C:=Tryz.checked) (s:=Rows.OpenSpec.upto Rows.realrootsDescartesSpec) (k:=Rows.uptoSmall) rfl own_ started Fy Tryz.func7
  (OpenSpec.witness (enc:=enc) (C:=Tryz.checked) (s:=Rows.OpenSpec.upto Rows.realrootsDescartesSpec) (k:=Rows.uptoSmall) rfl false ⟨#[],#[.slice none 0 0],[]⟩ 8 Fy Fy Fy
   (x:=([.nil],[],[])) Fy rfl Fy) ?_
 intro W base args ds gs before hval hW _ hk _;have hW':=hW;obtain⟨p,q,hA0,hV,rfl,hfz,hnd⟩:=hW;have hA:DataW.TrodAll enc Tryz.prog W 0 (fun _=>true) true Tryz.f7.params.toList args.toList ds p:=hA0;rw[Tryz.params7]at hA hval;obtain⟨v0,d0,hargs,rfl,h0⟩:=trodAll_one hA;obtain rfl:args=#[v0]:=by cases args;simp_all
 obtain⟨rfl,rfl⟩:=trodVars_none hV;have lt0:∀ x∈p,x.block < W.heap.size:=by obtain⟨m,hm⟩:=h0;exact DataW.trod_lt m _ _ _ hm
 have hkk:=of_decide_eq_true hk;have hb0:Rows.uptoBulk d0<=1048576:=Nat.le_trans (Kt (d:=d0) (l:=[d0] ++ []) Ac) hkk;obtain⟨l0,w0,b0⟩:∃ l,DY W v0 l/\Rz l:=by
  obtain⟨m,hm⟩:=h0;have hs:=okWide_slice Tryz.underlying23 (hval 0 23 v0 rfl rfl);obtain⟨l,hl⟩:=Sz Tryz.underlying23 hm hs;exact⟨l,hl,UY Tryz.underlying23 hm hs hl hb0⟩
 clear hA0 hkk hk;refine(Ni v0 l0 W w0 b0).mono fun e W' ⟨v,he,hv,bel⟩=>?_;subst he hv;exact⟨_,rfl,_,_,_,[],_,[],hW',trodAll_mk1 (shut_bool Tryz.underlying4 _),(trodAll_cons_mk (Below.trod laidOut_ Fy (of_decide_eq_true Fy) h0 bel lt0) trodAll_mk0),rfl,bel.frame _,fun h=>by cases h⟩
theorem realrootsDescartes_over:Rows.realrootsDescartesUptoRow.holds Tryz.pinned (Rows.OpenSpec.upto Rows.realrootsDescartesSpec):=
 OpenClaim.holds_of_cond 7 Tryz.f7 rfl rfl rfl rfl rfl rfl rfl ⟨rfl,rfl,rfl,rfl,rfl⟩ rfl rfl rfl rfl rfl Fy Tryz.func7 Fy
  (of_decide_eq_true Fy) (by unfold Func.isWrapper;first | (rw[if_pos (by decide +kernel)];kernel_rfl) | (rw[if_neg (by decide +kernel)];exact⟨rfl,rfl⟩))
  (fun os started H enc _ F=>realrootsDescartes_lifted os started H enc F)
theorem realrootsDescartes_proved:Rows.RealrootsDescartesUptoSaid:=realrootsDescartes_over
end Go.Proofs.YtmhgnigpmompmaaGreat
