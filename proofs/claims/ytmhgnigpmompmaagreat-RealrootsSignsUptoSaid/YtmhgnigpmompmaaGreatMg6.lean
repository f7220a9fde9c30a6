/- The statement RealrootsSigns holds for arguments of bulk at most 1048576 (its '..Upto' form): for all such polynomials the law returns true, and the arguments read afterwards as before. -/
import Derived.Test.YtmhgnigpmompmaaGreatMg1
import Derived.Test.YtmhgnigpmompmaaGreatMg2
import Derived.Test.YtmhgnigpmompmaaGreatMg3
import Derived.Test.YtmhgnigpmompmaaGreatMg4
import Derived.Test.YtmhgnigpmompmaaGreatMg5
set_option linter.unusedVariables false
set_option linter.unusedSimpArgs false
set_option maxHeartbeats 16000000
namespace Go.Hp
open Go.RowKit
theorem Py(R:Rat->Rat->Int)(p q:Rat)(k:Nat):Cc R (Cc R p q k).1 (Cc R p q k).2 1=Cc R p q (k+1):=rfl
theorem Jq{F G:Nat->Rat}(hF:Mid F)(zG:ZI G)(fG:Ae G){p q:Rat}(hpq:p<=q):0<=rc (Ba (D7 F G)) p q/\rc (Ba (D7 F G)) p q<=rc (Ba F) p q:=by
 have hC:=hF.gcd zG fG;have sC:=BQ hC.z hC.f hC.n0;have sF:=BQ hF.z hF.f hF.n0;exact⟨sC.nonneg hpq,sF.rc_le sC.p (IA hF.z hF.f hF.n0 sC ((FC hC.z hC.f hC.n0).trans (Qv hF.z hF.f zG fG))) hpq⟩
theorem XM{F G:Nat->Rat}(hF:Mid F)(hG:Mid G)(hD:pl F+pl G<=13){p q:Rat}(hpq:p < q)(hp:ab p<=2^400 - 1)(hq:ab q<=2^400 - 1)(h1:rc (Ba F) p q=1) :
  ∃ K,K<=1000001000/\(rc (Ba (D7 F G)) p q≠1->rc (Ba G) (Cc (rc (Ba F)) p q K).1 (Cc (rc (Ba F)) p q K).2=0/\∀ j,j < K->rc (Ba G) (Cc (rc (Ba F)) p q j).1 (Cc (rc (Ba F)) p q j).2≠0):=by
 by_cases hc:rc (Ba (D7 F G)) p q=1
 ·exact⟨0,Aa,fun h=>absurd hc h⟩
 ·have hg:=Jq hF hG.z hG.f (Std.le_of_lt hpq)
  obtain⟨K,a,b,c⟩:=hF.nice.stop hG.nice hD hpq hp hq h1 Aa;exact⟨K,a,fun _=>⟨b,c⟩⟩
section
variable{P:Program}
end
theorem CG.iso{F:Nat->Rat}(h:CG F){N:Nat}(hN:700000000<=N)(hN9:N<=700000001):(iso (rc (Ba F)) N (-(2:Rat)^bx F) ((2:Rat)^bx F)).length<=1000 /\
  ∀ x∈iso (rc (Ba F)) N (-(2:Rat)^bx F) ((2:Rat)^bx F),rc (Ba F) x.1 x.2=1/\x.1 < x.2/\qsz x.1<=700400000/\qsz x.2<=700400000/\ab x.1<=2^400 - 1/\ab x.2<=2^400 - 1:=by
 have hbx:=Uz h.q;have hqj:=TR (bx F);have hpos:=Ce (bx F);have hPQ : -(2:Rat)^bx F < (2:Rat)^bx F:=by grind
 have hsf:=BQ h.z h.f h.n0;have hn:=Po hsf hPQ (fun d p q hn hd=>h.deep d p q hn Aa) N 0 _ _ (Hp.Node.root _ _) Aa;have hb:=h.rc_bd (-(2:Rat)^bx F) (2^bx F);refine⟨by have:=hn.2.1;omega,fun x hx=>?_⟩;obtain⟨a,⟨d,_,hd,hn'⟩,b1,b2⟩:=hn.1 x hx;obtain⟨s1,s2⟩:=hn'.qsz (a:=100000) Aa Aa;have hlt:=(hn'.within hPQ).2.1;obtain⟨E,hE⟩:∃ E,E=400:=⟨_,rfl⟩
 have hB:=Xr (b:=E) (bx F) Aa;rw[hE]at hB;exact⟨a,hlt,Aa,Aa,Fy.2 ⟨Ah,Ah⟩,Fy.2 ⟨Ah,Ah⟩⟩
theorem Y6{p q:Rat}(hpq:p < q):∀(n:Nat) {P:Nat->Rat},BB P->pl P<=n->rc (y0 P) p q=0->∀ x y,p < x->x<=y->y<=q->ev P x≠0/\BK (ev P y)=BK (ev P x):=by
 intro n;induction n with
 | zero=>intro P hP hn;have:=hP.pos;omega
 | succ n ih =>
  intro P hP hn h0 x y hx hxy hy;obtain⟨hC,hW,e,-,-⟩:=DW hP;obtain⟨N,hN⟩:=Sv hP;have sW:=Zm hP;obtain⟨a1,a2⟩:=sW.free h0 hx hxy hy;by_cases h1:pl (yc P)<=1
  ·have e1:=hC.one h1
   have e2:P=y0 P:=by
    conv=>lhs;rw[e,e1,Bn,D8]
   rw[e2];exact⟨a1,a2⟩
  ·have hl:pl (yc P)<=n:=by
    have h2:=EW hW.f hC.f hW.n hC.n;rw[<-e]at h2;have h3:1 < pl (y0 P):=by
     rcases Nat.lt_or_ge 1 (pl (y0 P))with z | z
     ·exact z
     ·exfalso
      rw[hW.one z,aC]at hN;have h4:=Dv.le hC.f DC (fun e=>by have:=Jk.pos;rw[e,BH]at this;omega) hN;have h5:pl pone<=1:=Bj Ev;omega
    omega
   have sE:=Zm hC;obtain⟨gC,gW,eC,-,-⟩:=DW hC;have d1:Dv (y0 (yc P)) P:=by
    refine Dv.trans (E:=yc P) ⟨yc (yc P),gC.f,?_⟩ ⟨y0 P,hW.f,e⟩
    conv=>lhs;rw[eC,Bn]
   have d2:=Uf sE hP d1;have r1:=sW.rc_le sE.p d2 (Std.le_of_lt hpq);have r2:=sE.nonneg (Std.le_of_lt hpq);obtain⟨b1,b2⟩:=ih hC hl Aa x y hx hxy hy;have ee:∀ z,ev P z=ev (y0 P) z*ev (yc P) z:=fun z=>by
    conv=>lhs;rw[e]
    exact EN hW.f hC.f z
   rw[ee,ee];refine⟨fun h=>?_,?_⟩
   ·rcases Rat.mul_eq_zero.1 h with z | z
    ·exact a1 z
    ·exact b1 z
   ·rw[FN,FN,a2,b2]
theorem Xi{F:Nat->Rat}(z:ZI F)(f:Ae F)(n0:F≠pz){p q:Rat}(hpq:p < q)(h0:rc (Ba F) p q=0){x y:Rat}(hx:p < x)(hxy:x<=y)(hy:y<=q):ev F x≠0/\GJ (ev F y)=GJ (ev F x):=by
 have hP:=BB.pp z f n0;obtain⟨a1,a2⟩:=Y6 hpq _ hP (Nat.le_refl _) h0 x y hx hxy hy;have hn:(1:Rat) / (pcn F:Rat)≠0:=LX (by have:=ED z f n0;exact_mod_cast this);have e:∀ t,ev (pp F) t=(1:Rat) / (pcn F:Rat)*ev F t:=fun t=>FX _ f t;rw[e]at a1;rw[e,e,FN,FN]at a2;rw[Eg,Eg];exact⟨fun h=>a1 (by rw[h,Rat.mul_zero]),Int.eq_of_mul_eq_mul_left (NJ hn) a2⟩
theorem eT{F G:Nat->Rat}(f:Ae F)(g:Ae G)(n:F≠pz)(m:G≠pz):cv F G≠pz:=fun e=>by
 have h:=EW f g n m;have h1:=AZ f n;have h2:=AZ g m;rw[e,BH]at h;omega
theorem bC{G H:Nat->Rat}(zG:ZI G)(fG:Ae G)(nG:G≠pz)(zH:ZI H)(fH:Ae H)(nH:H≠pz){p q:Rat}(hpq:p<=q)(h1:rc (Ba G) p q=0)(h2:rc (Ba H) p q=0):rc (Ba (cv G H)) p q=0:=by
 have zP:=zG.cv zH;have fP:=fG.cv fH;have nP:=eT fG fH nG nH;have sW:=BQ zP fP nP;have sX:=BQ zG fG nG;have sH:=BQ zH fH nH;obtain⟨U,V,sC,sU,sV,eW,eX,cCU,-,-,cUX,-⟩:=sW.meet sX;have hP:=BB.pp zG fG nG;obtain⟨hC,hW,e,-,-⟩:=DW hP;obtain⟨N,Q,fQ,eQ⟩:=Sv hP;have dG:Dv G (pw (Ba G) (N+1)):=by
  refine Dv.trans ((Dk zG fG).2 (Dv.refl G)) ⟨Q,fQ,?_⟩;show cv (pw (y0 (pp G)) N) (y0 (pp G))=cv Q (pp G);rw[eQ,AA];congr 1;rw[Bn,<-e]
 have dU:Dv U (cv G H):=Dv.trans ⟨D7 (Ba (cv G H)) (Ba G),sC.p.f,eW⟩ (FC zP fP nP);have dU2:Dv U (cv (pw (Ba G) (N+1)) H):=by
  obtain⟨R,fR,eR⟩:=dG;refine dU.trans ⟨R,fR,?_⟩;rw[eR,AA]
 have fpw:=O1 sX.p.f (N+1);have cU:=DR.pw sU.p.f sX.p.f cUX (N+1);have dUH:=cU.euclid fH dU2;have hr:=SF.mul sC sU (by rw[<-eW];exact sW) cCU hpq;rw[<-eW]at hr;have r1:=sX.rc_le sC.p ⟨V,sV.p.f,by rw[Bn];exact eX⟩ hpq;have r2:=sH.rc_le sU.p (IA zH fH nH sU dUH) hpq;have r3:=sC.nonneg hpq;have r4:=sU.nonneg hpq;omega
theorem UM(R:Rat->Rat->Int)(p q:Rat)(k:Nat):∀ d,Cc R p q (k+d)=Cc R (Cc R p q k).1 (Cc R p q k).2 d
 | 0=>rfl
 | d+1=>by
  show hfp R (Cc R p q (k+d))=hfp R (Cc R (Cc R p q k).1 (Cc R p q k).2 d);rw[UM R p q k d]
theorem TI{R:Rat->Rat->Int}{p q:Rat}(hpq:p < q){k n:Nat}(h:k<=n):(Cc R p q k).1<=(Cc R p q n).1/\(Cc R p q n).1 < (Cc R p q n).2/\(Cc R p q n).2<=(Cc R p q k).2:=by
 obtain⟨d,rfl⟩:∃ d,n=k+d:=⟨n - k,Aa⟩
 rw[UM];exact(CF R _ _ d).within ((CF R p q k).within hpq).2.1
theorem Zg{W C:Nat->Rat}(sW:SF W)(hc:∀ x y,x<=y->0<=rc C x y/\rc C x y<=rc W x y){p q:Rat}(hpq:p < q)(h1:rc W p q=1)(hC:rc C p q=1):∀ k,rc C (Cc (rc W) p q k).1 (Cc (rc W) p q k).2=1
 | 0=>hC
 | k+1=>by
  have ih:=Zg sW hc hpq h1 hC k;have ho:=KG sW hpq h1 k;have hw:=((CF (rc W) p q k).within hpq).2.1;show rc C (hfp (rc W) (Cc (rc W) p q k)).1 (hfp (rc W) (Cc (rc W) p q k)).2=1;obtain⟨c,hce⟩:∃ c,c=Cc (rc W) p q k:=⟨_,rfl⟩
  rw[<-hce]at ih ho hw ⊢;have a1:=LK C c.1 ((c.1+c.2) / 2) c.2;have a2:=LK W c.1 ((c.1+c.2) / 2) c.2;have b1:=hc c.1 ((c.1+c.2) / 2) Ah;have b2:=hc ((c.1+c.2) / 2) c.2 Ah;unfold hfp
  split
  ·show rc C c.1 ((c.1+c.2) / 2)=1
   omega
  ·show rc C ((c.1+c.2) / 2) c.2=1
   omega
theorem Vg{F G H:Nat->Rat}(zF:ZI F)(fF:Ae F)(nF:F≠pz)(zG:ZI G)(fG:Ae G)(zH:ZI H)(fH:Ae H)(hd:Dv G H){p q:Rat}(hpq:p<=q):rc (Ba (D7 F G)) p q<=rc (Ba (D7 F H)) p q:=by
 have k1:=FH fF fG zF zG;have k2:=FH fF fH zF zH;have n1:=Ma zF fF zG fG nF;have n2:=Ma zF fF zH fH nF;have s1:=BQ k1.2.1 k1.1 n1;have s2:=BQ k2.2.1 k2.1 n2;refine s2.rc_le s1.p (IA k2.2.1 k2.1 n2 s1 ?_) hpq;have d0:=FC k1.2.1 k1.1 n1;have d1:=d0.trans (Qv zF fF zG fG);have d2:=d0.trans ((GU _).trans k1.2.2.2.2.2.2.2.1) |>.trans hd
 exact(k2.2.2.2.2.2.2.2.2 _ s1.p.f d1 d2).trans (IU k2.1)
theorem Em.mul{F G H:Nat->Rat}(hF:Mid F)(zG:ZI G)(fG:Ae G)(zH:ZI H)(fH:Ae H){p q:Rat}(hpq:p < q)(h1:rc (Ba F) p q=1){s t u:Int}(hs:Em F G p q s)(ht:Em F H p q t)(hu:Em F (cv G H) p q u):u=s*t:=by
 have sF:=BQ hF.z hF.f hF.n0;have z0:∀ {u:Int},Em F pz p q u->u=0:=fun {u} h=>by
  rcases h with⟨_,b⟩ | ⟨a,_,_⟩ | ⟨a,_⟩
  ·exact b
  ·exact absurd rfl a
  ·exact absurd rfl a
 by_cases nG:G=pz
 ·subst nG
  rw[Cx]at hu;rw[z0 hs,z0 hu,Int.zero_mul]
 by_cases nH:H=pz
 ·subst nH
  rw[IR]at hu;rw[z0 ht,z0 hu,Int.mul_zero]
 have zP:=zG.cv zH;have fP:=fG.cv fH;have nP:=eT fG fH nG nH;have dG:Dv G (cv G H):=⟨H,fH,Bn G H⟩
 have dH:Dv H (cv G H):=⟨G,fG,rfl⟩
 have le:=Std.le_of_lt hpq;have gG:=Jq hF zG fG le;have gH:=Jq hF zH fH le;have gP:=Jq hF zP fP le;rw[h1]at gG gH gP;have cG:=Vg hF.z hF.f hF.n0 zG fG zP fP dG le;have cH:=Vg hF.z hF.f hF.n0 zH fH zP fP dH le;rcases hu with⟨a,-⟩ | ⟨-,b,rfl⟩ | ⟨-,b,K,k1,-,rfl⟩
 ·exact absurd a nP
 ·rcases hs with⟨a,-⟩ | ⟨-,-,rfl⟩ | ⟨-,bG,K1,r1,-,rfl⟩
  ·exact absurd a nG
  ·rw[Int.zero_mul]
  rcases ht with⟨a,-⟩ | ⟨-,-,rfl⟩ | ⟨-,bH,K2,r2,-,rfl⟩
  ·exact absurd a nH
  ·rw[Int.mul_zero]
  exfalso;obtain⟨K,hK⟩:∃ K,K=max K1 K2:=⟨_,rfl⟩
  obtain⟨w1,w2,w3⟩:=TI (R:=rc (Ba F)) hpq (show K1<=K by omega);obtain⟨v1,v2,v3⟩:=TI (R:=rc (Ba F)) hpq (show K2<=K by omega);have sG:=BQ zG fG nG;have sH:=BQ zH fH nH;have e1:=sG.sub w1 (Std.le_of_lt w2) w3;have e2:=sH.sub v1 (Std.le_of_lt v2) v3;have e3:=sG.nonneg (Std.le_of_lt w2);have e4:=sH.nonneg (Std.le_of_lt w2);have e5:=bC zG fG nG zH fH nH (Std.le_of_lt w2) Aa Aa;have kC:=FH hF.f fP hF.z zP
  have nC:=Ma hF.z hF.f zP fP hF.n0;have sC:=BQ kC.2.1 kC.1 nC;have sP:=BQ zP fP nP;have e6:=Zg sF (fun x y hxy=>Jq hF zP fP hxy) hpq h1 b K;have e7:=sP.rc_le sC.p (IA zP fP nP sC ((FC kC.2.1 kC.1 nC).trans ((GU _).trans kC.2.2.2.2.2.2.2.1))) (Std.le_of_lt w2);omega
 ·rcases hs with⟨a,-⟩ | ⟨-,bG,-⟩ | ⟨-,bG,K1,r1,-,rfl⟩
  ·exact absurd a nG
  ·omega
  rcases ht with⟨a,-⟩ | ⟨-,bH,-⟩ | ⟨-,bH,K2,r2,-,rfl⟩
  ·exact absurd a nH
  ·omega
  obtain⟨n,hn⟩:∃ n,n=max K (max K1 K2):=⟨_,rfl⟩
  have key:∀(E:Nat->Rat) (k:Nat),ZI E->Ae E->E≠pz->k<=n->rc (Ba E) (Cc (rc (Ba F)) p q k).1 (Cc (rc (Ba F)) p q k).2=0->GJ (ev E (Cc (rc (Ba F)) p q k).2)=GJ (ev E (Cc (rc (Ba F)) p q n).2):=fun E k zE fE nE hk h0=>by
   obtain⟨w1,w2,w3⟩:=TI (R:=rc (Ba F)) hpq hk;have w0:=((CF (rc (Ba F)) p q k).within hpq).2.1;exact(Xi zE fE nE w0 h0 (x:=(Cc (rc (Ba F)) p q n).2) Ah w3 (Std.le_refl _)).2
  rw[key _ K zP fP nP Aa k1,key G K1 zG fG nG Aa r1,key H K2 zH fH nH Aa r2,EN fG fH,Eg,Eg,Eg,FN]
def J4:Nat->Nat
 | 0=>1
 | 1=>1
 | n+2=>J4 n+2*J4 (n+1)
theorem Q4(n:Nat):J4 (n+2)=J4 n+2*J4 (n+1):=rfl
theorem QX:∀ n,J4 n<=J4 (n+1)
 | 0=>Nat.le_refl _
 | n+1=>by rw[Q4];omega
theorem Nw{a:Nat}:∀ {b:Nat},a<=b->J4 a<=J4 b:=by
  intro b h;induction b with
  | zero => obtain rfl : a = 0 := by omega
            exact Nat.le_refl _
  | succ b ih =>
    rcases Nat.lt_or_ge b a with q | q
    · obtain rfl:a=b+1:=by omega
      exact Nat.le_refl _
    · exact Nat.le_trans (ih q) (QX b)
theorem MS:∀ n,1<=J4 n
 | 0=>Nat.le_refl _
 | n+1=>Nat.le_trans (MS n) (QX n)
theorem Ur(x:Nat):∀ d,J4 x+(d+2)*J4 (x+1)<=J4 (x+d+2)
 | 0=>by rw[Q4,Nat.add_zero];omega
 | d+1=>by
  have ih:=Ur x d;have h1:J4 (x+(d+1)+2)=J4 (x+d+1)+2*J4 (x+d+2):=Q4 (x+d+1);have h2:=Nw (show x+1<=x+d+2 by omega);rw[h1];have e:(d+1+2)*J4 (x+1)=(d+2)*J4 (x+1)+J4 (x+1):=by rw[show d+1+2=(d+2)+1 by omega,Nat.succ_mul]
  omega
theorem Fx.next_qsz{F0 G0 A B:Nat->Rat}{D S s t:Nat}(h:Fx F0 G0 D S A B)(h0:B≠pz)(hs:∀ i,qsz (A i)<=s)(ht:∀ i,qsz (B i)<=t)(i:Nat) :
  qsz (nx A B i)<=s+(pl A+1 - pl B)*(t+1)/\pl (nx A B) < pl B:=by
 obtain⟨A',B',e,d,h,rfl,rfl,he,hd⟩:=h;have hB':B'≠pz:=fun q=>h0 (by rw[q,Fa]);have hl:=QI (Dh h.fB hB') (pl A'+1 - pl B');have hpr:=Yx h.fA h.fB hB' e (F3 hd);have hend:=(Jv h.fA h.fB hB').2;have plB:pl (psc d B')=pl B':=CV (F3 hd) h.fB;have plA:pl (psc e A')=pl A':=CV (F3 he) h.fA;by_cases hR:pr A' B'=pz
 ·have e1:nx (psc e A') (psc d B')=pz:=I9 (by rw[hpr,hR,Fa])
  rw[e1,plB,BH];have h1:=AZ h.fB hB';have h2:qsz (pz i)<=t:=by have:=ht (pl B'+i);rw[show psc d B' (pl B'+i)=pz i from(congrArg (d*·) (AJ h.fB _ Aa)).trans (Rat.mul_zero d)]at this;exact this
  have h3:(pl (psc e A')+1 - pl B')*(t+1)=(pl (psc e A')+1 - pl B')*(t+1):=rfl;have h4:qsz (pz i)<=s:=by have:=hs (pl A'+i);rw[show psc e A' (pl A'+i)=pz i from(congrArg (e*·) (AJ h.fA _ Aa)).trans (Rat.mul_zero e)]at this;exact this
  exact⟨Nat.le_trans h4 (Nat.le_add_right _ _),h1⟩
 ·have fR:=ES h.fA h.fB
  have hR2:pr (psc e A') (psc d B')≠pz:=fun q=>hR (by
   rw[hpr]at q;exact(Bt fR).1 (by rw[<-CV (F3 he) fR,q,BH]))
  have fR2:Ae (pr (psc e A') (psc d B')):=by rw[hpr];exact fR.psc e
  have hz:=Fe h.zA h.zB (pl A'+1 - pl B');have hf:=QK h.fA h.fB hB';have hpp:pp (CQ (pl (pr (psc e A') (psc d B'))) (pr (psc e A') (psc d B')))=pp (Dj A' B' (pl A'+1 - pl B')):=by
   refine Q7 (q:=((dl (pl (pr (psc e A') (psc d B'))) (pr (psc e A') (psc d B')):Nat):Rat)*e*(1 / ld B'^(pl A'+1 - pl B'))) (Ep (AJ fR2)) hz hf (fun q=>hR ?_) ?_ ?_
   ·rw[q]at hend
    exact(Bt fR).1 (by rw[<-CV hl fR,<-hend,BH])
   ·have h1:=RQ (pl (pr (psc e A') (psc d B'))) (pr (psc e A') (psc d B'))
    have h2:=F3 he;grind
   ·rw[hend,Ci]
    unfold CQ
    conv=>lhs;arg 2;rw[hpr]
    rw[Ci];congr 1;grind
  have hs':∀ i,qsz (A' i)<=s:=fun i=>by have:=hs i;rwa[Kk he]at this
  have ht':∀ i,qsz (B' i)<=t:=fun i=>by have:=ht i;rwa[Kk hd]at this
  rw[Rt hR2,hpp,plA,plB];have hpm:=FD (0 < ld (pr (psc e A') (psc d B')));refine⟨?_,?_⟩
  ·rw[Kk hpm]
   exact Ey hz hf (fun j=>Gz h.zA h.zB hs' ht' _ j) i
  ·rw[CV (F3 hpm) (Dl hf),Dq hz hf]
   exact Mx h.fA h.fB hB'
theorem UB{W:Nat->Rat}{S:Nat}(fW:Ae W)(zW:ZI W)(n0:W≠pz)(qW:∀ i,qsz (W i)<=S)(qD:∀ i,qsz (pd W i)<=S):∀ k,(∀ j,1<=j->j<=k->Ca W (pd W) j≠pz) ->
  (∀ i,qsz (Ca W (pd W) k i)+1<=(S+1)*J4 (pl W - pl (Ca W (pd W) k)))/\(∀ i,qsz (Ca W (pd W) (k+1) i)+1<=(S+1)*J4 (pl W - pl (Ca W (pd W) k)+1)) /\
   pl (Ca W (pd W) (k+1)) < pl (Ca W (pd W) k)/\pl (Ca W (pd W) k)<=pl W
 | 0,_=>by
  have h1:=AZ fW n0;have e1:pl (rd W)=pl W:=by rw[L9,CV (F3 (FD _)) (Dl fW),Dq zW fW]
  have e2:pl (rd (pd W))=pl W - 1:=by
   by_cases h0:pd W=pz
   ·rw[h0,Vs,BH]
    have:=IX fW;rw[h0,BH]at this;omega
   ·rw[L9,CV (F3 (FD _)) (Dl (BR fW)),Dq (Dn zW) (BR fW),IX fW]
  have q1:∀ i,qsz (rd W i)<=S:=fun i=>by rw[L9,Kk (FD _)];exact Ey zW fW qW i
  have q2:∀ i,qsz (rd (pd W) i)<=S:=fun i=>by rw[L9,Kk (FD _)];exact Ey (Dn zW) (BR fW) qD i
  refine⟨fun i=>?_,fun i=>?_,?_,?_⟩
  ·show qsz (rd W i)+1<=(S+1)*J4 (pl W - pl (rd W))
   rw[e1,Nat.sub_self];have:=q1 i;show _<=(S+1)*1;omega
  ·show qsz (rd (pd W) i)+1<=(S+1)*J4 (pl W - pl (rd W)+1)
   rw[e1,Nat.sub_self];have:=q2 i;show _<=(S+1)*1;omega
  ·show pl (rd (pd W)) < pl (rd W)
   omega
  ·show pl (rd W)<=pl W
   omega
 | k+1,h=>by
  obtain⟨a1,a2,a3,a4⟩:=UB fW zW n0 qW qD k fun j b c=>h j b Aa;have hst:=IG fW (BR fW) zW (Dn zW) qW qD k fun j b c=>h j b Aa;have hB:=h (k+1) Aa Aa;obtain⟨A,hA⟩:∃ A,A=Ca W (pd W) k:=⟨_,rfl⟩
  obtain⟨B,hBe⟩:∃ B,B=Ca W (pd W) (k+1):=⟨_,rfl⟩
  rw[Ji W (pd W) k];simp only[<-hA,<-hBe]at a1 a2 a3 a4 hst;rw[<-hA,<-hBe];rw[<-hBe]at hB;have fB:=hst.facts.2.1;have hpB:=AZ fB hB;have hn:=fun i=>hst.next_qsz hB (s:=(S+1)*J4 (pl W - pl A) - 1) (t:=(S+1)*J4 (pl W - pl A+1) - 1) (fun i=>by have:=a1 i;omega) (fun i=>by have:=a2 i;omega) i;have p1:1<=(S+1)*J4 (pl W - pl A):=Nat.mul_pos Aa (MS _);have p2:1<=(S+1)*J4 (pl W - pl A+1):=Nat.mul_pos Aa (MS _);refine⟨fun i=>Nat.le_trans (a2 i) (Nat.mul_le_mul_left _ (Nw Aa)),fun i=>?_,(hn 0).2,Aa⟩
  have h1:=(hn i).1;rw[show(S+1)*J4 (pl W - pl A+1) - 1+1=(S+1)*J4 (pl W - pl A+1) by omega]at h1;obtain⟨d,hd⟩:∃ d,pl A+1 - pl B=d+2:=⟨pl A - pl B - 1,Aa⟩
  rw[hd]at h1;have h2:=Nat.mul_le_mul_left (S+1) (Ur (pl W - pl A) d);have e1:(S+1)*(J4 (pl W - pl A)+(d+2)*J4 (pl W - pl A+1))=(S+1)*J4 (pl W - pl A)+(d+2)*((S+1)*J4 (pl W - pl A+1)):=by
   rw[Nat.mul_add,Nat.mul_left_comm]
  have e2:pl W - pl A+d+2=pl W - pl B+1:=by omega
  rw[e1,e2]at h2;omega
theorem Rq{W:Nat->Rat}{S:Nat}(fW:Ae W)(zW:ZI W)(n0:W≠pz)(qW:∀ i,qsz (W i)<=S)(qD:∀ i,qsz (pd W i)<=S)(k:Nat)(h:∀ j,1<=j->j<=k->Ca W (pd W) j≠pz) :
  ∀ i,qsz (Ca W (pd W) k i)<=(S+1)*J4 (pl W)/\qsz (Ca W (pd W) (k+1) i)<=(S+1)*J4 (pl W):=fun i=>by
 obtain⟨a1,a2,a3,a4⟩:=UB fW zW n0 qW qD k h;have h1:=Nat.le_trans (a1 i) (Nat.mul_le_mul_left (S+1) (Nw (show pl W - pl (Ca W (pd W) k)<=pl W by omega)));have h2:=Nat.le_trans (a2 i) (Nat.mul_le_mul_left (S+1) (Nw (show pl W - pl (Ca W (pd W) k)+1<=pl W by omega)));omega
def lY:Nat:=7*(4095*4095)
def B10:Nat:=10*(lY*10*21^10*21^10)
structure LU(F:Nat->Rat):Prop where
 z:ZI F
 f:Ae F
 n0:F≠pz
 p:pl F<=10
 b:∀ i,(F i).num.natAbs<=lY
theorem CG.wid{F:Nat->Rat}(h:CG F):LU F:=⟨h.z,h.f,h.n0,by have:=h.p;omega,fun i=>Nat.le_trans (h.b i) Ab⟩
theorem CG.mul{F G:Nat->Rat}(h:CG F)(k:CG G)(hp:pl F+pl G<=11):LU (cv F G):=by
 have cb:∀ {F:Nat->Rat},CG F->CB 1 4095 F:=fun {F} h=>⟨Aa,fun i=>⟨(F i).num,by
  have e:((1:Nat):Rat)=1:=rfl;rw[e,<-h.z.num i];grind,h.b i⟩⟩
 have nP:cv F G≠pz:=fun e=>by
  have h0:=EW h.f k.f h.n0 k.n0;have h1:=AZ h.f h.n0;have h2:=AZ k.f k.n0;rw[e,BH]at h0;omega
 refine⟨h.z.cv k.z,h.f.cv k.f,nP,by rw[EW h.f k.f h.n0 k.n0];omega,fun i=>?_⟩;obtain⟨-,hc⟩:=(cb h).cv (n:=7) ((AJ h.f).mono h.p) (cb k);obtain⟨x,h1,h2⟩:=hc i;have e:((1*1:Nat):Rat)=1:=rfl;rw[e]at h1;have h3:cv F G i=(x:Rat):=by rw[h1];grind
 rw[h3];exact h2
theorem LU.div{F E:Nat->Rat}(h:LU F)(hE:BB E)(hd:Dv E F)(i:Nat):(E i).num.natAbs<=B10:=by
 have hP:=BB.pp h.z h.f h.n0;have hpl:=Dq h.z h.f;have h1:=MN hP.z hP.f hP.n hE.z hE.f (hP.zdv hE ((Dk h.z h.f).2 hd)) (n:=10) (by rw[hpl];exact h.p) (MF hP.z (NQ h.z h.f h.n0 h.b));refine MC hE.z (fun i=>?_) i;refine Std.le_trans (h1 i) ?_;have e:(1:Rat)+2*((10:Nat):Rat)=((21:Nat):Rat):=by exact_mod_cast(rfl:1+2*10=21)
 rw[e,FP];have:((10:Nat):Rat)*(((lY:Nat):Rat)*((10:Nat):Rat)*((21^10:Nat):Rat)*((21^10:Nat):Rat))=((10*(lY*10*21^10*21^10):Nat):Rat):=Ls 10 lY 10 _;rw[this];exact Std.le_refl _
theorem LU.ppn{F:Nat->Rat}(h:LU F)(i:Nat):(pp F i).num.natAbs<=B10:=h.div (BB.pp h.z h.f h.n0) ((Dk h.z h.f).1 (Dv.refl _)) i
theorem LU.q{F:Nat->Rat}(h:LU F)(i:Nat):qsz (F i)<=4:=Cf h.z Ab (Nat.lt_of_le_of_lt (h.b i) (by decide +kernel))
theorem LU.sqn{F:Nat->Rat}(h:LU F)(i:Nat):(Ba F i).num.natAbs<=B10:=h.div (BQ h.z h.f h.n0).p (FC h.z h.f h.n0) i
theorem Gf.ofp{W:Nat->Rat}{S D M:Nat}(z:ZI W)(f:Ae W)(n0:W≠pz)(s:∀ i,qsz (W i)<=S)(d:∀ i,qsz (pd W i)<=S)(e:pl W+pl (pd W)=D)(m:(S+1)*J4 (pl W)<=M)(b:M+(D+1)*(M+1)<=1000000)(D9:D<=900):Gf W S D M:=
 ⟨z,f,s,d,e,⟨Nat.le_trans (by have:=Nat.mul_le_mul_left (S+1) (MS (pl W));omega) m,fun k hk=>⟨fun i=>Nat.le_trans (Rq f z n0 s d k hk i).1 m,fun i=>Nat.le_trans (Rq f z n0 s d k hk i).2 m⟩⟩,b,D9⟩
theorem LU.chn{F:Nat->Rat}(h:LU F):Gf (Ba F) 4 (pl (Ba F)+pl (pd (Ba F))) 20000/\pl (Ba F)+pl (pd (Ba F))<=19:=by
 have h1:=h.sqn;have h2:=Nat.le_trans (TY h.z h.f h.n0) h.p;have hS:=BQ h.z h.f h.n0;have h3:=IX hS.p.f;have h4:=AZ hS.p.f hS.p.n;have hD:pl (Ba F)+pl (pd (Ba F))<=19:=by omega
 have hp:J4 (pl (Ba F))<=3363:=Nat.le_trans (Nw h2) Ab;have hm:(pl (Ba F)+pl (pd (Ba F))+1)*(20000+1)<=20*20001:=Nat.mul_le_mul_right _ Aa;refine⟨Gf.ofp hS.p.z hS.p.f hS.p.n (fun i=>Cf hS.p.z Ab (Nat.lt_of_le_of_lt (h1 i) (by decide +kernel))) (fun i=>Cf (Dn hS.p.z) Ab (Nat.lt_of_le_of_lt (Kr hS.p.z hS.p.f (n:=9) Aa h1 i) (by decide +kernel))) rfl Aa Aa Aa,hD⟩
theorem LU.sim{F:Nat->Rat}(h:LU F):OQ F 4 10 2621440 36000:=by
 have hP:=BB.pp h.z h.f h.n0;have hpl:=Dq h.z h.f;have hpn:=h.ppn;exact⟨h.z,h.f,h.n0,h.q,fun i=>Cf (Dn hP.z) Ab (Nat.lt_of_le_of_lt (Kr hP.z hP.f (n:=9) (by rw[hpl];exact h.p) hpn i) (by decide +kernel)),
  fun i=>QF hP (n:=10) (s:=4) (by rw[hpl];exact h.p) Ab (fun i=>Cf hP.z Ab (Nat.lt_of_le_of_lt (hpn i) (by decide +kernel))) Ab i,h.p,Ab,Ab,Ab,Ab⟩
theorem LU.err{F:Nat->Rat}(h:LU F):Ct F=0:=by
 refine Li h.n0 (by have:=h.p;omega) fun⟨i,b,h1,h2⟩=>?_;have:=h1.le (m:=96) (Nat.lt_of_le_of_lt (h.b i) (by decide +kernel));omega
theorem LU.pg{F:Nat->Rat}(h:LU F):Pg F (pl (Ba F)+pl (pd (Ba F))) 20000:=
 ⟨h.z,h.f,h.n0,h.err,fun i=>Nat.le_trans (h.q i) Ab,by have:=h.p;omega,⟨4,10,2621440,36000,h.sim⟩,⟨4,h.chn.1⟩⟩
theorem LU.rm{F:Nat->Rat}(h:LU F):Rm F:=⟨_,_,h.pg,by have:=h.chn.2;omega⟩
theorem LU.nice{F:Nat->Rat}(h:LU F):OJ F:=⟨h.z,h.f,h.n0,fun E hE hd i=>Cf hE.p.z Ab (Nat.lt_of_le_of_lt (h.div hE.p hd i) (by decide +kernel))⟩
def Qe(w:World)(v:Value)(F:Nat->Rat):Prop:=∃ m,De 0 w v m/\m.length<=1000/\cz m=F
theorem Qe.ext{w w':World}{v:Value}{F:Nat->Rat}(h:Qe w v F)(e:Ext w w'):Qe w' v F:=by obtain⟨m,a,b⟩:=h;exact⟨m,a.ext e,b⟩
theorem Em.unit{F G:Nat->Rat}{p q:Rat}{s:Int}(h:Em F G p q s):s = -1\/s=0\/s=1:=by
 rcases h with⟨-,rfl⟩ | ⟨-,-,rfl⟩ | ⟨-,-,K,-,-,rfl⟩
 ·exact .inr (.inl rfl)
 ·exact .inr (.inl rfl)
 ·rw[Eg]
  unfold BK
  split
  ·exact .inr (.inr rfl)
  ·split
   ·exact .inl rfl
   ·exact .inr (.inl rfl)
theorem SQ{F G:Nat->Rat}(hF:Mid F)(zG:ZI G)(fG:Ae G)(hG:G≠pz->OJ G)(hD:pl F+pl G<=13){p q:Rat}(hpq:p < q)(hp:ab p<=2^400 - 1)(hq:ab q<=2^400 - 1)(h1:rc (Ba F) p q=1):∃ s,Em F G p q s:=by
 by_cases n0:G=pz
 ·exact⟨0,.inl ⟨n0,rfl⟩⟩
 by_cases hc:rc (Ba (D7 F G)) p q=1
 ·exact⟨0,.inr (.inl ⟨n0,hc,rfl⟩)⟩
 ·have hgl:=Jq hF zG fG (Std.le_of_lt hpq)
  obtain⟨K,-,a,b⟩:=hF.nice.stop (hG n0) hD hpq hp hq h1 Aa;exact⟨_,.inr (.inr ⟨n0,hc,K,a,b,rfl⟩)⟩
end Go.Hp
namespace Go.Proofs.YtmhgnigpmompmaaGreat
open Go.RowKit Go.Hp
set_option maxRecDepth 20000 in
theorem ZE(v u i0:Value)(m l:List Int)(p q:Rat)(t T K:Nat)(w:World)(hv:De 0 w v m)(hu:De 0 w u l)(hi:Jb w i0 p q)(hm:m.length<=1000000)(hS:SF (Ba (cz l)))(hpq:p < q)(h1:rc (Ba (cz l)) p q=1)(hp:qsz p<=t)(hq:qsz q<=t)(ht:3*t+K+6<=T)(hT:T<=13000000000)
  (hcf:∀ X,Ext w X->∀ z P Q,Jb X z P Q->qsz P<=T->qsz Q<=T->Bc 18 #[u,z] X (fun r _=>r = .int .i64 (if Q<=P then 0 else rc (Ba (cz l)) P Q)))
  (hcg:cz m≠pz->∀ X,Ext w X->∀ z P Q,Jb X z P Q->qsz P<=T->qsz Q<=T->Bc 18 #[v,z] X (fun r _=>r = .int .i64 (if Q<=P then 0 else rc (Ba (cz m)) P Q)))
  (hgcd:cz m≠pz->∀ X,Ext w X->Bc 91 #[u,v] X (fun r w'=>AC 0 w' r (D7 (cz l) (cz m))))
  (hM:cz m≠pz->Mid (D7 (cz l) (cz m))) (hc1:cz m≠pz->rc (Ba (D7 (cz l) (cz m))) p q<=1)
  (hev:cz m≠pz->∀ X,Ext w X->∀ z P,BC X z P->qsz P<=T->Bc 92 #[v,z] X (fun r w'=>Bz w' r (ev (cz m) P)/\qsz (ev (cz m) P)<=274877906944))
  (hK:cz m≠pz->rc (Ba (D7 (cz l) (cz m))) p q≠1->rc (Ba (cz m)) (Cc (rc (Ba (cz l))) p q K).1 (Cc (rc (Ba (cz l))) p q K).2=0/\∀ j,j < K->rc (Ba (cz m)) (Cc (rc (Ba (cz l))) p q j).1 (Cc (rc (Ba (cz l))) p q j).2≠0) :
  Bc 41 #[v,u,i0] w (fun r _=>∃ s,r = .int .i64 s/\Em (cz l) (cz m) p q s):=by
 have hdg:∀ X,Ext w X->Bc 15 #[v] X (fun r _=>r = .int .i64 ((pl (cz m):Int) - 1)):=fun X x=>Ee v m X (hv.ext x) Aa;have hrf:∀ k n,k+n<=K+1->∀ X,Ext w X->∀ z,Jb X z (Cc (rc (Ba (cz l))) p q k).1 (Cc (rc (Ba (cz l))) p q k).2->n<=1 ->
   Bc 35 #[u,z,.int .i64 (n:Nat)] X (fun r w'=>Ic w' r (Cc (rc (Ba (cz l))) p q (k+n)).1 (Cc (rc (Ba (cz l))) p q (k+n)).2):=fun k n hkn X x z hz hn=>by
  have hw:=((CF (rc (Ba (cz l))) p q k).within hpq).2.1;have ho:=KG hS hpq h1 k;have hsz:∀ j,j<=n->qsz (Cc (rc (Ba (cz l))) (Cc (rc (Ba (cz l))) p q k).1 (Cc (rc (Ba (cz l))) p q k).2 j).1<=T/\qsz (Cc (rc (Ba (cz l))) (Cc (rc (Ba (cz l))) p q k).1 (Cc (rc (Ba (cz l))) p q k).2 j).2<=T/\qsz (((Cc (rc (Ba (cz l))) (Cc (rc (Ba (cz l))) p q k).1 (Cc (rc (Ba (cz l))) p q k).2 j).1+(Cc (rc (Ba (cz l))) (Cc (rc (Ba (cz l))) p q k).1 (Cc (rc (Ba (cz l))) p q k).2 j).2) / 2)<=T:=fun j hj=>by
   rcases(show j=0\/j=1 by omega)with rfl | rfl
   ·have:=IB (R:=rc (Ba (cz l))) hp hq k
    exact⟨Nat.le_trans this.1 Aa,Nat.le_trans this.2.1 Aa,Nat.le_trans this.2.2 Aa⟩
   ·rw[Py]
    have:=IB (R:=rc (Ba (cz l))) hp hq (k+1);exact⟨Nat.le_trans this.1 Aa,Nat.le_trans this.2.1 Aa,Nat.le_trans this.2.2 Aa⟩
  have:=VS u z l _ _ n T X (hu.ext x) hz hS hw ho hsz Aa Aa (fun Y y z P Q a b c=>hcf Y (x.trans y) z P Q a b c);rcases(show n=0\/n=1 by omega)with rfl | rfl
  ·exact this
  ·rw[Py]at this;exact this
 have hcc:cz m≠pz->∀ X z,AC 0 X z (D7 (cz l) (cz m))->(Bc 15 #[z] X (fun r _=>r = .int .i64 ((pl (D7 (cz l) (cz m)):Int) - 1)))/\∀ Y,Ext X Y->∀ a,Jb Y a p q->Bc 18 #[z,a] Y (fun r _=>r = .int .i64 (rc (Ba (D7 (cz l) (cz m))) p q)):=fun h0 X z hz=>by
  have hMM:=hM h0;obtain⟨l',k1,k2,-,k4⟩:=hz.hz (fun i=>by have:=hMM.q i;omega);have hp7:=hMM.p;refine⟨by rw[<-k4];exact Ee z l' X k1 Aa,fun Y y a ha=>?_⟩;have:=K6 z a l' p q t Y (k1.ext y) ha (by rw[k4];exact hMM) Aa hp hq Aa;rw[if_neg (show ¬ q<=p by grind),k4]at this;exact this
 have HH:=Ad (Ai hdg (Ai hrf (Ai hcc (Ai hcg (Ai hgcd (Ai hM (Ai hc1 (Ai hev hK))))))));have HP:=Ad (Ai hpq (Ai hp (Ai hq (Ai hS h1))));obtain⟨A,c,rfl⟩:=hv.len;obtain⟨A',c',rfl⟩:=hu.len;obtain⟨b1,B1,m1,k1,b2,B2,m2,k2,b3,B3,m3,k3,b4,B4,m4,k4,rfl,hi1,hi2⟩:=hi;have HI:=Ad (Ai hi1 hi2);clear hv hu hcf hcg hgcd hM hc1 hev hK hi1 hi2 hdg hrf hcc hpq hp hq hS h1
 go_enter Tryz.func41,Tryz.ntmps41
 obtain⟨W1,eW1,eb,y1⟩:=Bh.made w 30 #[.bool b1,.slice B1 m1 k1,.bool b2,.slice B2 m2 k2,.bool b3,.slice B3 m3 k3,.bool b4,.slice B4 m4 k4] (by simp[Af]);have hx:=y1
 go_upto_region 1 with(fail)
 rw[<-eW1];clear y1 eW1
 go_wp2_with fail
 refine AB (HH.out.1 _ hx) ?_;rintro r2 w2 rfl hx2;replace eb:=eb.ext hx2;replace hx:=hx.trans hx2;clear hx2;by_cases hp0:pl (cz m)=0
 ·have HM:=Ad (show cz m=pz from(Bt (Ae.cz m)).1 hp0)
  rw[hp0];go_wp2
  go_ret
  exact Ag.mk ⟨0,rfl,.inl ⟨HM.out,rfl⟩⟩ hx
 have hlt:¬ ((pl (cz m):Int) - 1 < 0):=by omega
 have HM:=Ad (show cz m≠pz from fun e=>hp0 (by rw[e,BH]));generalize (pl (cz m):Int) - 1=dg at *;clear hp0
 go_wp2_with fail
 refine AB (HH.out.2.2.2.2.1 HM.out _ hx) ?_;rintro r3 w3 hr3 hx3;replace eb:=eb.ext hx3;replace hx:=hx.trans hx3;clear hx3;have hcc:=HH.out.2.2.1 HM.out _ _ hr3;obtain⟨C,hCe⟩:∃ C,C=D7 (cz l) (cz m):=⟨_,rfl⟩
 rw[<-hCe]at hcc hr3;have HCe:=Ad hCe;clear hCe;have HMid:=Ad (show Mid C by rw[HCe.out];exact HH.out.2.2.2.2.2.1 HM.out);obtain⟨A3,c3,rfl,-⟩:=hr3.shape;obtain⟨N3,hN3⟩:∃ N,N=pl C:=⟨_,rfl⟩
 rw[<-hN3]at hcc ⊢;have HN3:=Ad hN3;clear hN3;obtain⟨X,hX⟩:∃ X,X=rc (Ba C) p q:=⟨_,rfl⟩
 rw[<-hX]at hcc;have hX1:X<=1:=by rw[hX,HCe.out];exact HH.out.2.2.2.2.2.2.1 HM.out
 have hX0:0<=X:=by rw[hX];exact(BQ HMid.out.z HMid.out.f HMid.out.n0).nonneg (Std.le_of_lt HP.out.1)
 have HX:=Ad hX;clear hX;have HC:=Ad hcc;clear hcc hr3
 go_upto_region 4 with(fail)
 go_cut [22] (fun bv wx=>bv = .bool (decide (X=1))/\Ext w3 wx)
 case first =>
  go_wp2_with fail
  refine AB HC.out.1 ?_;rintro r4 w4 rfl hx4;by_cases hp1:N3<=1
  ·have hXz:X=0:=by
    rw[HX.out];exact Np HMid.out.z HMid.out.f HMid.out.n0 (by rw[<-HN3.out];exact hp1) (Std.le_of_lt HP.out.1)
   have HD:=Ad (show decide (X=1)=false from decide_eq_false Aa);have hle:¬ (N3:Int) - 1 > 0:=by omega
   clear hXz hp1;go_wp2
   go_meet
   case rel=>exact⟨by rw[HD.out],hx4⟩
  ·have hle:(N3:Int) - 1 > 0:=by omega
   have HI4:=Ad (Ai ((HI.out.1.ext hx).ext hx4) ((HI.out.2.ext hx).ext hx4));clear hp1;have eb4:=eb.ext hx4;obtain⟨ceb40,ceb41,ceb42,ceb43,ceb44,ceb45,ceb46,ceb47⟩:=eb4.cells8;have feb4:=eb4.frozen
   go_wp2_with fail
   refine AB (HC.out.2 _ hx4 _ ⟨_,_,_,_,_,_,_,_,_,_,_,_,_,_,_,_,rfl,HI4.out.1,HI4.out.2⟩) ?_;rintro r5 w5 rfl hx5;have hx45:=hx4.trans hx5;clear ceb40 ceb41 ceb42 ceb43 ceb44 ceb45 ceb46 ceb47 feb4 eb4 HI4;rcases(show X=0\/X=1 by omega)with rfl | rfl
   ·go_wp2
    go_meet
    case rel=>exact⟨rfl,hx45⟩
   ·go_wp2
    go_meet
    case rel=>exact⟨rfl,hx45⟩
 case rest =>
  obtain⟨rfl,hx4⟩:=hcut;replace eb:=eb.ext hx4;replace hx:=hx.trans hx4;clear hx4;by_cases hX2:X=1
  ·rw[decide_eq_true hX2]
   have HX1:=Ad hX2;clear hX2;go_wp2
   go_ret
   exact Ag.mk ⟨0,rfl,.inr (.inl ⟨HM.out,by rw[<-HCe.out,<-HX.out,HX1.out],rfl⟩)⟩ hx
  rw[decide_eq_false hX2];have HX1:=Ad (show rc (Ba (D7 (cz l) (cz m))) p q≠1 by rw[<-HCe.out,<-HX.out];exact hX2);clear hX2;have HKK:=Ad (HH.out.2.2.2.2.2.2.2.2 HM.out HX1.out);clear hX1 hX0 HC;have ceb:=eb.cells8;have feb:=eb.frozen
  go_wp2_with fail
  refine AB (HH.out.2.1 0 0 Aa _ hx _ ⟨_,_,_,_,_,_,_,_,_,_,_,_,_,_,_,_,rfl,HI.out.1.ext hx,HI.out.2.ext hx⟩ Aa) ?_;rintro r5 w5 ⟨g1,G1,e5,f5,g2,G2,e6,f6,g3,G3,e7,f7,g4,G4,e8,f8,rfl,j1,j2⟩ hx5;clear ceb feb HI;replace eb:=eb.ext hx5;replace hx:=hx.trans hx5;clear hx5;have z0:=IB (R:=rc (Ba (cz l))) HP.out.2.1 HP.out.2.2.1 0;have j1:=j1.has (Nat.le_trans z0.1 Aa);have j2:=j2.has (Nat.le_trans z0.2.1 Aa)
  clear z0;have ceb:=eb.cells8;have feb:=eb.frozen;go_wp2;obtain⟨W6,eW,eb',U⟩:=eb.put8 (.bool g1) (.slice G1 e5 f5) (.bool g2) (.slice G2 e6 f6) (.bool g3) (.slice G3 e7 f7) (.bool g4) (.slice G4 e8 f8);rw[<-eW];clear eW eb;replace j1:=j1.kd U.kd;replace j2:=j2.kd U.kd;replace hx:=U.from_ hx Aj;have eb:=eb';clear U eb';clear ceb feb;have hbx:Ms W6 w.heap.size 30 (Cc (rc (Ba (cz l))) p q 0).1 (Cc (rc (Ba (cz l))) p q 0).2:=⟨_,_,_,_,_,_,_,_,_,_,_,_,_,_,_,_,eb,j1,j2⟩
  clear eb j1 j2;go_wp2
  go_loopw [] (fun wr=>∃ k:Nat,k<=K/\Ms wr w.heap.size 30 (Cc (rc (Ba (cz l))) p q k).1 (Cc (rc (Ba (cz l))) p q k).2/\Ext w wr) (fun wr=>K - aH wr w.heap.size 30 (rc (Ba (cz l))) p q)
  case atStart=>exact⟨0,Aa,hbx,hx⟩
  case round =>
   clear hbx hx;obtain⟨k,hk,hbi,hx⟩:=hrel;have HPN:=Ad (MR HP.out.1 hbi);have z1:=IB (R:=rc (Ba (cz l))) HP.out.2.1 HP.out.2.2.1 k;have hw:=((CF (rc (Ba (cz l))) p q k).within HP.out.1).2.1;obtain⟨P,hPe⟩:∃ P,P=Cc (rc (Ba (cz l))) p q k:=⟨_,rfl⟩
   rw[<-hPe]at hbi z1 hw;obtain⟨b1,B1,m1,k1,b2,B2,m2,k2,b3,B3,m3,k3,b4,B4,m4,k4,eb,i1,i2⟩:=hbi;have HS:=Ad (Ai z1 (Ai hPe hw));clear z1 hPe hw;have HI:=Ad (Ai i1 i2);clear i1 i2;have hcg:=HH.out.2.2.2.1 HM.out wr hx (.agg #[.bool b1,.slice B1 m1 k1,.bool b2,.slice B2 m2 k2,.bool b3,.slice B3 m3 k3,.bool b4,.slice B4 m4 k4]) P.1 P.2 ⟨_,_,_,_,_,_,_,_,_,_,_,_,_,_,_,_,rfl,HI.out.1,HI.out.2⟩ (by have:=HS.out.1.1;omega) (by have:=HS.out.1.2.1;omega)
   rw[if_neg (show ¬ P.2<=P.1 by have:=HS.out.2.2;grind)]at hcg;obtain⟨Y,hY⟩:∃ Y,Y=rc (Ba (cz m)) P.1 P.2:=⟨_,rfl⟩
   rw[<-hY]at hcg;have hY0:0<=Y:=by rw[hY];exact(BQ (ZI.cz m) (Ae.cz m) HM.out).nonneg (Std.le_of_lt HS.out.2.2)
   have HY:=Ad hY;clear hY;have HCG:=Ad hcg;clear hcg;have ceb:=eb.cells8;have feb:=eb.frozen
   go_wp2_with fail
   refine AB HCG.out ?_;rintro r7 w7 rfl hx7;clear ceb feb HCG;have HI7:=Ad (Ai (HI.out.1.ext hx7) (HI.out.2.ext hx7));clear HI;replace eb:=eb.ext hx7;replace hx:=hx.trans hx7;clear hx7;by_cases hYp:0 < Y
   ·have hkK:k < K:=by
     rcases Nat.lt_or_ge k K with h | h
     ·exact h
     ·obtain rfl:k=K:=by omega
      have h1:=HKK.out.1;rw[<-HS.out.2.1,<-HY.out]at h1;omega
    have hI:=HI7.out;rw[HS.out.2.1]at hI;have HI2:=Ad hI;clear hI;have ceb:=eb.cells8;have feb:=eb.frozen
    go_wp2_with fail
    refine AB (HH.out.2.1 k 1 Aa _ hx _ ⟨_,_,_,_,_,_,_,_,_,_,_,_,_,_,_,_,rfl,HI2.out.1,HI2.out.2⟩ Aa) ?_;rintro r8 w8 ⟨g1,G1,e5,f5,g2,G2,e6,f6,g3,G3,e7,f7,g4,G4,e8,f8,rfl,j1,j2⟩ hx8;clear ceb feb HI7 HI2;replace eb:=eb.ext hx8;replace hx:=hx.trans hx8;clear hx8;have z1:=IB (R:=rc (Ba (cz l))) HP.out.2.1 HP.out.2.2.1 (k+1);have j1:=j1.has (Nat.le_trans z1.1 Aa);have j2:=j2.has (Nat.le_trans z1.2.1 Aa)
    clear z1;have ceb:=eb.cells8;have feb:=eb.frozen;go_wp2;obtain⟨W9,eW,eb',U⟩:=eb.put8 (.bool g1) (.slice G1 e5 f5) (.bool g2) (.slice G2 e6 f6) (.bool g3) (.slice G3 e7 f7) (.bool g4) (.slice G4 e8 f8);rw[<-eW];clear eW eb;replace j1:=j1.kd U.kd;replace j2:=j2.kd U.kd;replace hx:=U.from_ hx Aj;have eb:=eb';clear U eb';clear ceb feb;have hbx:Ms W9 w.heap.size 30 (Cc (rc (Ba (cz l))) p q (k+1)).1 (Cc (rc (Ba (cz l))) p q (k+1)).2:=⟨_,_,_,_,_,_,_,_,_,_,_,_,_,_,_,_,eb,j1,j2⟩
    have HPN2:=Ad (MR HP.out.1 hbx)
    go_roundw
    case rel=>exact⟨k+1,Aa,hbx,hx⟩
    case measure=>rw[HPN.out,HPN2.out];omega
   ·have hYz:Y=0:=by omega
    have hkK:k=K:=by
     rcases Nat.lt_or_ge k K with h | h
     ·have h1:=HKK.out.2 k h
      rw[<-HS.out.2.1,<-HY.out]at h1;exact absurd hYz h1
     ·omega
    subst hkK;have hne:ev (cz m) P.2≠0:=ZN (ZI.cz m) (Ae.cz m) HM.out HS.out.2.2 (by rw[<-HY.out];exact hYz);have hsg:GJ (ev (cz m) P.2)≠0:=fun e=>hne (N9.1 e);have hF:=Ad (show Em (cz l) (cz m) p q (GJ (ev (cz m) P.2))from .inr (.inr ⟨HM.out,HX1.out,k,HKK.out.1,HKK.out.2,by rw[<-HS.out.2.1]⟩));obtain⟨sg,hsge⟩:∃ sg,sg=GJ (ev (cz m) P.2):=⟨_,rfl⟩
    have hev:∀ X,Ext w X->∀ z,BC X z P.2->Bc 92 #[.slice A m.length c,z] X (fun r w'=>BC w' r (ev (cz m) P.2)):=fun X x z hz =>
     Ag.imp (HH.out.2.2.2.2.2.2.2.1 HM.out X x z P.2 hz (by have:=HS.out.1.2.1;omega)) fun _ _ h=>h.1.has h.2
    rw[<-hsge]at hsg hF;have HE:=Ad (Ai hev hsge);clear hev hne hsge;have hbs:(sg==0)=false:=beq_eq_false_iff_ne.2 hsg;clear hsg;have ceb:=eb.cells8;have feb:=eb.frozen
    go_wp2_with fail
    refine AB (HE.out.1 _ hx _ HI7.out.2) ?_;rintro r8 w8 hr8 hx8;have HR:=Ad hr8;clear hr8;clear ceb feb;have HI8:=Ad (HI7.out.2.ext hx8);clear HI7;replace eb:=eb.ext hx8;replace hx:=hx.trans hx8;clear hx8
    go_wp2_with fail
    refine AB (Jy _ _ _ HR.out) ?_;rintro r9 w9 rfl hx9;rw[<-HE.out.2];have HI9:=Ad (HI8.out.ext hx9);clear HI8 HR;replace eb:=eb.ext hx9;replace hx:=hx.trans hx9;clear hx9;have ceb:=eb.cells8;have feb:=eb.frozen
    go_wp2_with fail
    refine AB (HE.out.1 _ hx _ HI9.out) ?_;rintro r10 w10 hr10 hx10;have HR:=Ad hr10;clear hr10;clear ceb feb;replace eb:=eb.ext hx10;replace hx:=hx.trans hx10;clear hx10
    go_wp2_with fail
    refine AB (Jy _ _ _ HR.out) ?_;rintro r11 w11 rfl hx11;rw[<-HE.out.2];have hx12:=hx.trans hx11;clear hx11;go_wp2
    go_ret
    exact Ag.mk ⟨sg,rfl,hF.out⟩ hx12
theorem gZ{l m:List Int}(hF:CG (cz l))(hG:CG (cz m))(X:World)(a b:Value)(ha:De 0 X a l)(hb:De 0 X b m)(hl:l.length<=1000)(hm:m.length<=1000):Bc 91 #[a,b] X (fun r w'=>AC 0 w' r (D7 (cz l) (cz m))):=by
 have hp:=hF.p;have hq:=hG.p;have h1:2^(pl (cz l)+pl (cz m))<=2^14:=Nat.pow_le_pow_right Ab Aa;have h2:(pl (cz l)+pl (cz m)+2)*(32768+1)<=16*32769:=Nat.mul_le_mul_right _ Aa;have h3:(2*(pl (cz l)+pl (cz m))+4)*(2*600000+4)<=32*1200004:=Nat.mul_le_mul_right _ Aa;exact XI a b l m 1 32768 600000 X ha hb hF.q hG.q hl hm Aa Aa Aa
theorem ZB{m:List Int}(hG:CG (cz m))(hm:m.length<=12)(X:World)(v z:Value)(P:Rat)(T:Nat)(hv:De 0 X v m)(hz:BC X z P)(hT:T<=10000000000)(hP:qsz P<=T) :
  Bc 92 #[v,z] X (fun r w'=>Bz w' r (ev (cz m) P)/\qsz (ev (cz m) P)<=274877906944):=by
 have h1:m.length*(1+T+1)<=12*(1+T+1):=Nat.mul_le_mul_right _ hm;have:=V6 v z m P 1 T X hv hz hG.q hP Aa Aa;rw[<-F4 (BG m)]at this;have h2:=LH (BG m) hG.q hP;exact Ag.imp this fun _ _ h=>⟨h,Aa⟩
theorem Td(v u z:Value)(m l:List Int)(p q:Rat)(t:Nat)(X:World)(hv:De 0 X v m)(hu:De 0 X u l)(hz:Jb X z p q)(hm:m.length<=12)(hl:l.length<=12)(hF:CG (cz l))(hG:cz m≠pz->CG (cz m))(hD:pl (cz l)+pl (cz m)<=13)
  (hp:qsz p<=t) (hq:qsz q<=t) (ht:t<=1000000000) (ap:ab p<=2^400 - 1) (aq:ab q<=2^400 - 1) (hpq:p < q) (h1:rc (Ba (cz l)) p q=1) :
  Bc 41 #[v,u,z] X (fun r _=>∃ s,r = .int .i64 s/\Em (cz l) (cz m) p q s):=by
 have hS:=BQ hF.z hF.f hF.n0;obtain⟨K,hK9,hK⟩:∃ K,K<=1000001000/\(cz m≠pz->rc (Ba (D7 (cz l) (cz m))) p q≠1->rc (Ba (cz m)) (Cc (rc (Ba (cz l))) p q K).1 (Cc (rc (Ba (cz l))) p q K).2=0/\∀ j,j < K->rc (Ba (cz m)) (Cc (rc (Ba (cz l))) p q j).1 (Cc (rc (Ba (cz l))) p q j).2≠0):=by
  by_cases h0:cz m=pz
  ·exact⟨0,Aa,fun h=>absurd h0 h⟩
  ·obtain⟨K,a,b⟩:=XM hF.mid (hG h0).mid hD hpq ap aq h1
   exact⟨K,a,fun _=>b⟩
 exact ZE v u z m l p q t (3*t+K+6) K X hv hu hz Aa hS hpq h1 hp hq (Nat.le_refl _) Aa
  (fun Y y a P Q ha hP hQ=>K6 u a l P Q (3*t+K+6) Y (hu.ext y) ha hF.mid Aa hP hQ Aa)
  (fun h0 Y y a P Q ha hP hQ=>K6 v a m P Q (3*t+K+6) Y (hv.ext y) ha (hG h0).mid Aa hP hQ Aa)
  (fun h0 Y y=>gZ hF (hG h0) Y u v (hu.ext y) (hv.ext y) Aa Aa)
  (fun _=>hF.mid.gcd (ZI.cz m) (Ae.cz m)) (fun _=>by have:=(Jq hF.mid (ZI.cz m) (Ae.cz m) (Std.le_of_lt hpq)).2;omega)
  (fun h0 Y y a P ha hP=>ZB (hG h0) hm Y v a P (3*t+K+6) (hv.ext y) ha Aa hP) hK
theorem Z9(v:Value)(l:List Int)(N:Nat)(w:World)(hv:De 0 w v l)(hl:l.length<=12)(hL:CG (cz l))(hN:700000000<=N)(hN9:N<=700000001) :
  Bc 25 #[v] w (fun r w'=>∃ c,r = .tuple #[c,.int .i64 0]/\EY 0 30 w' c (iso (rc (Ba (cz l))) N (-(2:Rat)^bx (cz l)) ((2:Rat)^bx (cz l)))):=by
 refine Ag.imp (Ou v l _ 32768 N w hv Aa (fun _=>hL.pg) (fun _ d p q hn hd=>hL.deep d p q hn Aa) Aa (by have:=hL.chn.2;omega)) fun r w' ⟨c,e1,e2,_⟩=>?_;rw[hL.err]at e1;exact⟨c,e1,(e2 hL.err).lower (Nat.zero_le _)⟩
theorem T9(v u z:Value)(m l:List Int)(p q:Rat)(t:Nat)(X:World)(hv:De 0 X v m)(hu:De 0 X u l)(hz:Jb X z p q)(hm:m.length<=1000)(hl:l.length<=12)(hF:CG (cz l))(hG:cz m≠pz->LU (cz m))(hD:pl (cz l)+pl (cz m)<=13)
  (hp:qsz p<=t) (hq:qsz q<=t) (ht:t<=1000000000) (ap:ab p<=2^400 - 1) (aq:ab q<=2^400 - 1) (hpq:p < q) (h1:rc (Ba (cz l)) p q=1) :
  Bc 40 #[v,u,z] X (fun r _=>∃ s,r = .tuple #[.int .i64 s,.int .i64 0]/\Em (cz l) (cz m) p q s):=by
 have hg:Ct (cz m)=0->LU (cz m):=fun e=>hG (N8 e (ZI.cz m)).1;refine Ag.imp (Wh v u z m l p q t X hv hu hz Aa Aa (fun _=>hF.mid.rm) (fun e=>(hg e).rm) (fun _ _=>(hF.mid.gcd (ZI.cz m) (Ae.cz m)).rm) (fun _ e Y a b ha hb=>by
   have h1:2^(pl (cz l)+pl (cz m))<=2^13:=Nat.pow_le_pow_right Ab hD;have h2:(pl (cz l)+pl (cz m)+1)*(40960+1)<=14*40961:=Nat.mul_le_mul_right _ Aa;exact Yp a b (cz l) (cz m) 4 40960 Y ha hb (fun i=>Nat.le_trans (hF.q i) Ab) (hg e).q Aa Aa Aa Aa)
  (fun _ e hpq h1 hne=>by
   have hgl:=Jq hF.mid (ZI.cz m) (Ae.cz m) (Std.le_of_lt hpq);obtain⟨K,a,b,c⟩:=hF.mid.nice.stop (hg e).nice hD hpq ap aq h1 Aa;exact⟨K,a,b,c⟩) hp hq ht) fun r _ ⟨s,E,e1,e2,e3,e4⟩=>?_
 have h7:Ct (cz m)≠7:=by
  by_cases h0:cz m=pz
  ·rw[h0]
   rcases DV pz with⟨_,e⟩ | ⟨a,_⟩ | ⟨a,_⟩
   ·omega
   ·exact absurd rfl a
   ·exact absurd rfl a
  ·rw[(hG h0).err];decide
 rw[if_neg (fun h=>h hF.err),if_neg h7,if_pos ⟨hpq,h1⟩]at e4;subst e4;exact⟨s,e1,e3 rfl⟩
set_option maxRecDepth 20000 in
theorem WK(v0 v1 v2:Value)(l0 l1 l2:List Kj)(w:World)(h0:Dx w v0 l0)(h1:Dx w v1 l1)(h2:Dx w v2 l2)(hB0:K8 l0)(hB1:K8 l1)(hB2:K8 l2) :
  Bc 8 #[v0,v1,v2] w (fun r _=>r = .bool true):=by
 have H0:=Ad h0;have PB0:=Ad (h0.has hB0.2).1;have hlB0:(l0.map TV).length<=1048576:=by simpa using hB0.1
 obtain⟨A0,c0,rfl,k0a,k0b⟩:=h0.len;clear h0 hB0;have hll0:(l0.map TV).length=l0.length:=by simp
 obtain⟨m0,hm0⟩:∃ m,m=l0.map TV:=⟨_,rfl⟩
 rw[<-hm0]at PB0 hlB0 hll0;rw[<-hll0]at k0a PB0 ⊢;clear hm0 hll0 H0;have hp0:=Bj (BG m0);have H1:=Ad h1;have PB1:=Ad (h1.has hB1.2).1;have hlB1:(l1.map TV).length<=1048576:=by simpa using hB1.1
 obtain⟨A1,c1,rfl,k1a,k1b⟩:=h1.len;clear h1 hB1;have hll1:(l1.map TV).length=l1.length:=by simp
 obtain⟨m1,hm1⟩:∃ m,m=l1.map TV:=⟨_,rfl⟩
 rw[<-hm1]at PB1 hlB1 hll1;rw[<-hll1]at k1a PB1 ⊢;clear hm1 hll1 H1;have hp1:=Bj (BG m1);have H2:=Ad h2;have PB2:=Ad (h2.has hB2.2).1;have hlB2:(l2.map TV).length<=1048576:=by simpa using hB2.1
 obtain⟨A2,c2,rfl,k2a,k2b⟩:=h2.len;clear h2 hB2;have hll2:(l2.map TV).length=l2.length:=by simp
 obtain⟨m2,hm2⟩:∃ m,m=l2.map TV:=⟨_,rfl⟩
 rw[<-hm2]at PB2 hlB2 hll2;rw[<-hll2]at k2a PB2 ⊢;clear hm2 hll2 H2;have hp2:=Bj (BG m2)
 go_enter Tryz.func8,Tryz.ntmps8
 go_wp2_with fail
 refine AB (XA _) ?_;rintro r w3 rfl hx
 go_upto_region 3 with(fail)
 go_cut [39] (fun bv wx=>Ext w wx/\(bv = .bool true\/(bv = .bool false/\CG (cz m2)/\Ii m2/\Ii m0/\Ii m1/\pl (cz m2)+pl (cz m0)+pl (cz m1)<=13)))
 case first =>
  go_wp2_with fail
  refine AB (bN w3.heap.size 3 [(.slice A2 m2.length c2,m2),(.slice A0 m0.length c0,m0),(.slice A1 m1.length c1,m1)] _ Ac Ac (PQ w3 _ (PB2.out.ext hx) (PB0.out.ext hx) (PB1.out.ext hx) rfl)) ?_;rintro r4 w4 ⟨b,rfl,hb⟩ hx4;have hx4:=hx4.a1;replace hx:=hx.trans hx4;clear hx4;have Hb:=Ad hb;clear hb;cases b with
  | false =>
   go_wp2
   go_meet
   case rel=>exact⟨hx,.inl rfl⟩
  | true =>
  have HL:=Ad (Ai (Hb.out rfl (.slice A2 m2.length c2,m2) Ac) (Ai (Hb.out rfl (.slice A0 m0.length c0,m0) Ac) (Hb.out rfl (.slice A1 m1.length c1,m1) Ac)));clear Hb;obtain⟨d2,hd2⟩:∃ d,d=(pl (cz m2):Int) - 1:=⟨_,rfl⟩
  obtain⟨d0,hd0⟩:∃ d,d=(pl (cz m0):Int) - 1:=⟨_,rfl⟩
  obtain⟨d1,hd1⟩:∃ d,d=(pl (cz m1):Int) - 1:=⟨_,rfl⟩
  have b2 : -1<=d2/\d2<=6:=by have h:pl (cz m2)<=7:=HL.out.1.2.1;omega
  have b0 : -1<=d0/\d0<=6:=by have h:pl (cz m0)<=7:=HL.out.2.1.2.1;omega
  have b1 : -1<=d1/\d1<=6:=by have h:pl (cz m1)<=7:=HL.out.2.2.2.1;omega
  have hg2:∀ X,Ext w X->Bc 15 #[.slice A2 m2.length c2] X (fun r _=>r = .int .i64 d2):=fun X x=>by rw[hd2];exact Ee _ m2 X (PB2.out.ext x) Aa
  have hg0:∀ X,Ext w X->Bc 15 #[.slice A0 m0.length c0] X (fun r _=>r = .int .i64 d0):=fun X x=>by rw[hd0];exact Ee _ m0 X (PB0.out.ext x) Aa
  have hg1:∀ X,Ext w X->Bc 15 #[.slice A1 m1.length c1] X (fun r _=>r = .int .i64 d1):=fun X x=>by rw[hd1];exact Ee _ m1 X (PB1.out.ext x) Aa
  have HD:=Ad (Ai hg2 (Ai hg0 hg1));clear hg2 hg0 hg1;have HE:=Ad (Ai hd2 (Ai hd0 hd1));clear hd2 hd0 hd1;clear hp0 hp1 hp2
  go_wp2_with fail
  refine AB (HD.out.1 _ hx) ?_;rintro r5 w5 rfl hx5;replace hx:=hx.trans hx5;clear hx5;by_cases hneg:d2 < 0
  ·go_wp2
   go_meet
   case rel=>exact⟨hx,.inl rfl⟩
  go_wp2_with fail
  refine AB (HD.out.1 _ hx) ?_;rintro r6 w6 rfl hx6;replace hx:=hx.trans hx6;clear hx6
  go_wp2_with fail
  refine AB (HD.out.2.1 _ hx) ?_;rintro r7 w7 rfl hx7;replace hx:=hx.trans hx7;clear hx7
  go_wp2_with fail
  refine AB (HD.out.2.2 _ hx) ?_;rintro r8 w8 rfl hx8;replace hx:=hx.trans hx8;clear hx8;by_cases hsum:d2+d0+d1 > 10
  ·go_wp2
   go_meet
   case rel=>exact⟨hx,.inl rfl⟩
  ·have HS:=Ad (Ai hneg hsum)
   go_wp2
   go_meet
   case rel=>exact⟨hx,.inr ⟨by simp[hneg,hsum],HL.out.1.lite (fun e=>by have h:=HE.out.1;have h9:=HS.out.1;rw[e,BH]at h;omega),HL.out.1,HL.out.2.1,HL.out.2.2,by have h:=HE.out;have h9:=HS.out.2;omega⟩⟩
 case rest =>
 clear hx;obtain⟨hx,rfl | ⟨rfl,hL,hf,hg,hh,hsum⟩⟩:=hcut
 ·go_wp2
  go_ret
  exact Ag.mk rfl hx
 obtain⟨N,hN,hN9⟩:∃ N,700000000<=N/\N<=700000001:=⟨700000001,Aa,Aa⟩
 have hli:=(hL.iso hN hN9).2;have hlen:=(hL.iso hN hN9).1;have h1:∀ X,Ext w X->Bc 25 #[.slice A2 m2.length c2] X (fun r w'=>∃ c,r = .tuple #[c,.int .i64 0]/\EY 0 30 w' c (iso (rc (Ba (cz m2))) N (-(2:Rat)^bx (cz m2)) ((2:Rat)^bx (cz m2)))):=fun X x=>Z9 _ m2 N X (PB2.out.ext x) hf.1 hL hN hN9;obtain⟨L,hLL⟩:∃ L,L=iso (rc (Ba (cz m2))) N (-(2:Rat)^bx (cz m2)) ((2:Rat)^bx (cz m2)):=⟨_,rfl⟩
 rw[<-hLL]at h1 hli hlen;have hwid:∀ m:List Int,Ii m->cz m≠pz->LU (cz m):=fun m h h0=>(h.lite h0).wid;have hfew:∀ x∈L,2<=pl (cz m2):=fun x hx=>by
  rcases Nat.lt_or_ge (pl (cz m2)) 2 with z | z
  ·have a:=Np hL.z hL.f hL.n0 Aa (Std.le_of_lt (hli x hx).2.1)
   have b:=(hli x hx).1;omega
  ·exact z
 have hmul:∀ X,Ext w X->Bc 23 #[.slice A0 m0.length c0,.slice A1 m1.length c1] X (fun r w'=>Qe w' r (cv (cz m0) (cz m1))):=fun X x=>by
  have q0:∀(m:List Int),Ii m->∀ i,qsz (cz m i)<=1:=fun m h i=>Cf (ZI.cz m) Ab (Nat.lt_of_le_of_lt (h.2.2 i) Ab);have e1:(m0.length+m1.length)*(1+1+1)<=24*3:=Nat.mul_le_mul_right _ (by have:=hg.1;have:=hh.1;omega);have hgl:=hg.1;have hhl:=hh.1;refine Ag.imp (PK _ _ m0 m1 1 1 X (PB0.out.ext x) (PB1.out.ext x) (q0 m0 hg) (q0 m1 hh) Aa Aa Aa) fun r w' h=>?_;have hq:∀ i,qsz (cv (cz m0) (cz m1) i)<=3:=fun i=>aY (n:=7) (ZI.cz m0) (ZI.cz m1) ((AJ (Ae.cz m0)).mono hg.2.1) Ab (q0 m0 hg) (q0 m1 hh) i
  obtain⟨l,a1,a2,-,a4⟩:=(h.base_le (Nat.zero_le _)).hz fun i=>Nat.le_trans (hq i) Ab;refine⟨l,a1,?_,a4⟩;have h3:pl (cv (cz m0) (cz m1))<=20:=by
   by_cases n0:cz m0=pz
   ·rw[n0,Cx,BH];omega
   by_cases n1:cz m1=pz
   ·rw[n1,IR,BH];omega
   have:=EW (Ae.cz m0) (Ae.cz m1) n0 n1;have:=hg.2.1;have:=hh.2.1;omega
  omega
 have hprod:cv (cz m0) (cz m1)≠pz->2<=pl (cz m2)->LU (cv (cz m0) (cz m1))/\pl (cz m2)+pl (cv (cz m0) (cz m1))<=13:=fun hne h2=>by
  have n0:cz m0≠pz:=fun e=>hne (by rw[e,Cx]);have n1:cz m1≠pz:=fun e=>hne (by rw[e,IR]);have:=EW (Ae.cz m0) (Ae.cz m1) n0 n1;have:=AZ (Ae.cz m0) n0;have:=AZ (Ae.cz m1) n1;exact⟨(hg.lite n0).mul (hh.lite n1) Aa,Aa⟩
 have HC:=Ad (Ai h1 (Ai hmul (Ai hwid (Ai hfew (Ai hprod hli)))));have HT:=Ad (Ai hL (Ai hf (Ai hg (Ai hh hsum))));clear h1 hmul hwid hfew hprod hli hL hf hg hh hsum hLL hN hN9 hp0 hp1 hp2
 go_wp2_with fail
 refine AB (HC.out.1 _ hx) ?_;rintro r5 w5 ⟨c5,rfl,hown⟩ hx5;replace hx:=hx.trans hx5;clear hx5;obtain⟨AL,cL,rfl⟩:=hown.len;have HO:=Ad hown;clear hown;go_wp2
 go_loopw [9] (fun iv wr=>∃ k:Nat,k<=L.length/\iv = .int .i64 (k:Nat)/\Ext w5 wr) (fun iv _=>L.length - (intOf iv).toNat)
 case atStart=>exact⟨0,Aa,rfl,Ext.refl _⟩
 case round =>
  obtain⟨k,hk,rfl,hy⟩:=hrel;by_cases hkn:k < L.length
  ·obtain⟨g,o,b1,A3,n1,c3,b2,A4,n2,c4,b3,A5,n3,c5,b4,A6,n4,c6,rfl,q0,q1,q2,q3,q4,q5,q6,q7,hi0⟩:=(EY.ext HO.out hy).at_ (j:=k) hkn
   have hm:=HC.out.2.2.2.2.2 L[k] (List.getElem_mem hkn);have h2:=HC.out.2.2.2.1 L[k] (List.getElem_mem hkn);obtain⟨p,hp⟩:∃ p,p=L[k].1:=⟨_,rfl⟩
   obtain⟨q,hq⟩:∃ q,q=L[k].2:=⟨_,rfl⟩
   rw[<-hp,<-hq]at hi0 hm;have hxy:=hx.trans hy;have hiv:∀ X,Ext wr X->Jb X (.agg #[.bool b1,.slice A3 n1 c3,.bool b2,.slice A4 n2 c4,.bool b3,.slice A5 n3 c5,.bool b4,.slice A6 n4 c6]) p q:=fun X x=>(hi0.ext x).has (Nat.le_trans hm.2.2.1 Ab) (Nat.le_trans hm.2.2.2.1 Ab);have hsg:∀ X,Ext wr X->∀ v m,De 0 X v m->m.length<=1000->(cz m≠pz->LU (cz m))->pl (cz m2)+pl (cz m)<=13->Bc 40 #[v,.slice A2 m2.length c2,.agg #[.bool b1,.slice A3 n1 c3,.bool b2,.slice A4 n2 c4,.bool b3,.slice A5 n3 c5,.bool b4,.slice A6 n4 c6]] X (fun r _=>∃ s,r = .tuple #[.int .i64 s,.int .i64 0]/\Em (cz m2) (cz m) p q s):=fun X x v m hv hml hw hD =>
    T9 v _ _ m m2 p q 700400000 X hv (PB2.out.ext (hxy.trans x)) (hiv X x) hml HT.out.2.1.1 HT.out.1 hw hD hm.2.2.1 hm.2.2.2.1 Aa hm.2.2.2.2.1 hm.2.2.2.2.2 hm.2.1 hm.1
   have hD0:pl (cz m2)+pl (cz m0)<=13:=by have:=HT.out.2.2.2.2;omega
   have hD1:pl (cz m2)+pl (cz m1)<=13:=by have:=HT.out.2.2.2.2;omega
   have g12:m0.length<=12:=HT.out.2.2.1.1;have h12:m1.length<=12:=HT.out.2.2.2.1.1;have s0:∀ X,Ext wr X->Bc 40 #[.slice A0 m0.length c0,.slice A2 m2.length c2,.agg #[.bool b1,.slice A3 n1 c3,.bool b2,.slice A4 n2 c4,.bool b3,.slice A5 n3 c5,.bool b4,.slice A6 n4 c6]] X (fun r _=>∃ s,r = .tuple #[.int .i64 s,.int .i64 0]/\Em (cz m2) (cz m0) p q s):=fun X x=>hsg X x _ m0 (PB0.out.ext (hxy.trans x)) Aa (HC.out.2.2.1 m0 HT.out.2.2.1) hD0
   have s1:∀ X,Ext wr X->Bc 40 #[.slice A1 m1.length c1,.slice A2 m2.length c2,.agg #[.bool b1,.slice A3 n1 c3,.bool b2,.slice A4 n2 c4,.bool b3,.slice A5 n3 c5,.bool b4,.slice A6 n4 c6]] X (fun r _=>∃ s,r = .tuple #[.int .i64 s,.int .i64 0]/\Em (cz m2) (cz m1) p q s):=fun X x=>hsg X x _ m1 (PB1.out.ext (hxy.trans x)) Aa (HC.out.2.2.1 m1 HT.out.2.2.2.1) hD1;have hDP:pl (cz m2)+pl (cv (cz m0) (cz m1))<=13:=by
    by_cases hne:cv (cz m0) (cz m1)=pz
    ·rw[hne,BH];omega
    ·exact(HC.out.2.2.2.2.1 hne h2).2
   obtain⟨sc,hsc⟩:=SQ HT.out.1.mid ((ZI.cz m0).cv (ZI.cz m1)) ((Ae.cz m0).cv (Ae.cz m1)) (fun hne=>(HC.out.2.2.2.2.1 hne h2).1.nice) hDP hm.2.1 hm.2.2.2.2.1 hm.2.2.2.2.2 hm.1;have s2:∀ X,Ext wr X->∀ v,Qe X v (cv (cz m0) (cz m1))->Bc 40 #[v,.slice A2 m2.length c2,.agg #[.bool b1,.slice A3 n1 c3,.bool b2,.slice A4 n2 c4,.bool b3,.slice A5 n3 c5,.bool b4,.slice A6 n4 c6]] X (fun r _=>r = .tuple #[.int .i64 sc,.int .i64 0]):=fun X x v ⟨m,hv,hml,e⟩=>by
    have:=hsg X x v m hv hml (fun hne=>by rw[e]at hne ⊢;exact(HC.out.2.2.2.2.1 hne h2).1) (by rw[e];exact hDP);rw[e]at this;exact Ag.imp this fun r _ ⟨s,e1,e2⟩=>by rw[e1,e2.uniq hsc]
   have s3:∀ X,Ext wr X->Bc 41 #[.slice A0 m0.length c0,.slice A2 m2.length c2,.agg #[.bool b1,.slice A3 n1 c3,.bool b2,.slice A4 n2 c4,.bool b3,.slice A5 n3 c5,.bool b4,.slice A6 n4 c6]] X (fun r _=>∃ s,r = .int .i64 s/\Em (cz m2) (cz m0) p q s):=fun X x =>
    Td _ _ _ m0 m2 p q 700400000 X (PB0.out.ext (hxy.trans x)) (PB2.out.ext (hxy.trans x)) (hiv X x) g12 HT.out.2.1.1 HT.out.1 (HT.out.2.2.1.lite) hD0 hm.2.2.1 hm.2.2.2.1 Aa hm.2.2.2.2.1 hm.2.2.2.2.2 hm.2.1 hm.1
   have hmul:∀ X,Ext wr X->Bc 23 #[.slice A0 m0.length c0,.slice A1 m1.length c1] X (fun r w'=>Qe w' r (cv (cz m0) (cz m1))):=fun X x=>HC.out.2.1 X (hxy.trans x);have HS:=Ad (Ai s0 (Ai s1 (Ai s2 (Ai s3 (Ai hmul (Ai hm.1 (Ai hm.2.1 hsc)))))));clear s0 s1 s2 s3 hsg hmul hm hp hq hi0 hiv hD0 hD1 g12 h12 h2 hxy hDP hsc
   go_wp2_with fail
   refine AB (HS.out.1 _ (Ext.refl _)) ?_;rintro r6 w6 ⟨sa,rfl,ha⟩ hx6;replace q0:=hx6.cell q0;replace q1:=hx6.cell q1;replace q2:=hx6.cell q2;replace q3:=hx6.cell q3;replace q4:=hx6.cell q4;replace q5:=hx6.cell q5;replace q6:=hx6.cell q6;replace q7:=hx6.cell q7
   go_wp2_with fail
   refine AB (HS.out.2.1 _ hx6) ?_;rintro r7 w7 ⟨sb,rfl,hb⟩ hx7;replace q0:=hx7.cell q0;replace q1:=hx7.cell q1;replace q2:=hx7.cell q2;replace q3:=hx7.cell q3;replace q4:=hx7.cell q4;replace q5:=hx7.cell q5;replace q6:=hx7.cell q6;replace q7:=hx7.cell q7;have hz:=hx6.trans hx7;have Ha:=Ad ha;have Hb:=Ad hb;clear hx6 hx7 ha hb
   go_upto_region 13 with(fail)
   refine CP 13 [74,75,76,77,78,79,80,81,82,73,83,84,14] [0,1,2,7,9] [_,_,_,_,_] [(kv ?_),(kv ?_),(fun γ=>γ 2),(kv ?_),(kv ?_),(kv ?_),(kv ?_),(kv ?_),(kv (.tuple #[.int .i64 sc,.int .i64 0])),(kv ?_),(kv ?_),(kv ?_),(kv ?_)] (fun γ w'=>[True,True,Qe w' (γ 2) (cv (cz m0) (cz m1)),True,True,True,True,True,True,True,True,True,True]) ?s1 ?_
   case s1 =>
    iterate 13 refine⟨?_,?_⟩
    trivial
    iterate 2 focus
     refine AY fun _ w' he R hR=>?_;have hc:=he.cells;go_simp;exact Br hR
    ·refine AY fun _ w' he R hR=>?_
     have h9:=HS.out.2.2.2.2.1 w' (hz.trans he);go_simp;refine AB h9 ?_;rintro v w2 hv hx;exact⟨v,rfl,hR v w2 hx rfl hv⟩
    iterate 5 focus
     refine AY fun _ w' he R hR=>?_;have hc:=he.cells;have cq0:=he.cell q0;have cq1:=he.cell q1;have cq2:=he.cell q2;have cq3:=he.cell q3;have cq4:=he.cell q4;have cq5:=he.cell q5;have cq6:=he.cell q6;have cq7:=he.cell q7;go_simp;(try go_ints);(try(rw[if_neg Aa]));(try(rw[if_pos Aa]));(try go_simp);(try go_ints)
     exact Br hR
    ·refine EF fun γ w' he hf R hR=>?_;have f2:Qe w' (γ 2) (cv (cz m0) (cz m1)):=hf 2 Ab;clear hf
     go_simp;exact LW (HS.out.2.2.1 w' (hz.trans he) _ f2) hR
    iterate 4 focus
     refine AY fun _ w' he R hR=>?_;have hc:=he.cells;go_simp;(try go_ints);(try(rw[if_neg Aa]));(try(rw[if_pos Aa]));(try go_simp);(try go_ints)
     exact Br hR
   intro γ w8 hx8 hF;have p2:Qe w8 (γ 2) (cv (cz m0) (cz m1)):=Ak.get hF 2 Ab;clear hF;simp only[Bg,Nat.reduceAdd];generalize γ 2=g2 at *;clear γ;clear p2;replace q0:=hx8.cell q0;replace q1:=hx8.cell q1;replace q2:=hx8.cell q2;replace q3:=hx8.cell q3;replace q4:=hx8.cell q4;replace q5:=hx8.cell q5;replace q6:=hx8.cell q6;replace q7:=hx8.cell q7;have hz9:=hz.trans hx8;have hmul:=Em.mul HT.out.1.mid (ZI.cz m0) (Ae.cz m0) (ZI.cz m1) (Ae.cz m1) HS.out.2.2.2.2.2.2.1 HS.out.2.2.2.2.2.1 Ha.out Hb.out HS.out.2.2.2.2.2.2.2
   have hua:=Ha.out.unit;have hub:=Hb.out.unit;clear hx8 hz
   go_upto_region 14 with(fail)
   go_cut [112] (fun bv wx=>bv = .bool false/\Ext wr wx)
   case first =>
    go_wp2_with fail
    refine AB (HS.out.2.2.2.1 _ hz9) ?_;rintro r10 w10 ⟨sd,rfl,hd⟩ hx10;obtain rfl:sd=sa:=hd.uniq Ha.out;have hz10:=hz9.trans hx10;clear hd hx10 Ha Hb;subst hmul;clear hz9 q0 q1 q2 q3 q4 q5 q6 q7;rcases hua with rfl | rfl | rfl<;>rcases hub with rfl | rfl | rfl
    all_goals
     go_wp2
     go_meet
     case rel=>exact⟨rfl,hz10⟩
   case rest =>
   clear hz9 hmul hua hub Ha Hb q0 q1 q2 q3 q4 q5 q6 q7;obtain⟨rfl,hx13⟩:=hcut;have hx14:=hy.trans hx13;go_wp2
   go_roundw
   case rel=>exact⟨k+1,Aa,by go_num,hx14⟩
   case measure=>simp[intOf];omega
  ·obtain rfl:k=L.length:=by omega
   have hx8:=hx.trans hy;go_wp2
   go_ret
   exact Ag.mk rfl hx8
open Go.ChangeShapes Go.WideShapes Go.ChangeAt
open Go.ChangeMaps (open_string shut_string)
theorem own_:ownKnob Tryz.prog.godebug=none:=by kernel_rfl
theorem laidOut_:laidOutB Tryz.prog=true:=by kernel_rfl
set_option maxRecDepth 100000 in
theorem realrootsSigns_lifted(os:Os)(started:os.Started)(H:Type)(enc:TypeId×Value->H)(F:Stop.Interp) :
  ReturnsInHanded {} Tryz.checked os 8 .any ((Rows.OpenSpec.upto Rows.realrootsSignsSpec).pre6 enc Tryz.prog Tryz.f8 Rows.realrootsSignsUptoRow.domain false) (((Rows.OpenSpec.upto Rows.realrootsSignsSpec).at F).post enc Tryz.prog Tryz.f8 false true false false):=by
 refine returnsInHanded_of_cond (C:=Tryz.checked) (s:=Rows.OpenSpec.upto Rows.realrootsSignsSpec) (k:=Rows.uptoSmall) rfl own_ started EQ Tryz.func8
  (OpenSpec.witness (enc:=enc) (C:=Tryz.checked) (s:=Rows.OpenSpec.upto Rows.realrootsSignsSpec) (k:=Rows.uptoSmall) rfl false ⟨#[],#[.slice none 0 0,.slice none 0 0,.slice none 0 0],[]⟩ 8 EQ EQ EQ
   (x:=([.nil,.nil,.nil],[],[])) EQ rfl EQ) ?_
 intro W base args ds gs before hval hW _ hk _;have hW':=hW;obtain⟨p,q,hA0,hV,rfl,hfz,hnd⟩:=hW;have hA:DataW.TrodAll enc Tryz.prog W 0 (fun _=>true) true Tryz.f8.params.toList args.toList ds p:=hA0;rw[Tryz.params8]at hA hval;obtain⟨v0,v1,v2,d0,d1,d2,p0,p1,p2,hargs,rfl,rfl,h0,h1,h2⟩:=trodAll_three hA;obtain rfl:args=#[v0,v1,v2]:=by cases args;simp_all
 obtain⟨rfl,rfl⟩:=trodVars_none hV;have lt0:∀ x∈p0,x.block < W.heap.size:=by obtain⟨m,hm⟩:=h0;exact DataW.trod_lt m _ _ _ hm
 have lt1:∀ x∈p1,x.block < W.heap.size:=by obtain⟨m,hm⟩:=h1;exact DataW.trod_lt m _ _ _ hm
 have lt2:∀ x∈p2,x.block < W.heap.size:=by obtain⟨m,hm⟩:=h2;exact DataW.trod_lt m _ _ _ hm
 have hkk:=of_decide_eq_true hk;have hb0:Rows.uptoBulk d0<=1048576:=Nat.le_trans (I5 (d:=d0) (l:=[d0,d1,d2] ++ []) Ac) hkk;have hb1:Rows.uptoBulk d1<=1048576:=Nat.le_trans (I5 (d:=d1) (l:=[d0,d1,d2] ++ []) Ac) hkk;have hb2:Rows.uptoBulk d2<=1048576:=Nat.le_trans (I5 (d:=d2) (l:=[d0,d1,d2] ++ []) Ac) hkk;obtain⟨l0,w0,b0⟩:∃ l,Dx W v0 l/\K8 l:=by
  obtain⟨m,hm⟩:=h0;have hs:=okWide_slice Tryz.underlying23 (hval 0 23 v0 rfl rfl);obtain⟨l,hl⟩:=Ku Tryz.underlying23 hm hs;exact⟨l,hl,LA Tryz.underlying23 hm hs hl hb0⟩
 obtain⟨l1,w1,b1⟩:∃ l,Dx W v1 l/\K8 l:=by
  obtain⟨m,hm⟩:=h1;have hs:=okWide_slice Tryz.underlying23 (hval 1 23 v1 rfl rfl);obtain⟨l,hl⟩:=Ku Tryz.underlying23 hm hs;exact⟨l,hl,LA Tryz.underlying23 hm hs hl hb1⟩
 obtain⟨l2,w2,b2⟩:∃ l,Dx W v2 l/\K8 l:=by
  obtain⟨m,hm⟩:=h2;have hs:=okWide_slice Tryz.underlying23 (hval 2 23 v2 rfl rfl);obtain⟨l,hl⟩:=Ku Tryz.underlying23 hm hs;exact⟨l,hl,LA Tryz.underlying23 hm hs hl hb2⟩
 clear hA0 hkk hk;refine(WK v0 v1 v2 l0 l1 l2 W w0 w1 w2 b0 b1 b2).mono fun e W' ⟨v,he,hv,bel⟩=>?_;subst he hv;exact⟨_,rfl,_,_,_,[],_,[],hW',trodAll_mk1 (shut_bool Tryz.underlying4 _),(trodAll_cons_mk (Below.trod laidOut_ EQ (of_decide_eq_true EQ) h0 bel lt0) (trodAll_cons_mk (Below.trod laidOut_ EQ (of_decide_eq_true EQ) h1 bel lt1) (trodAll_cons_mk (Below.trod laidOut_ EQ (of_decide_eq_true EQ) h2 bel lt2) trodAll_mk0))),rfl,bel.frame _,fun h=>by cases h⟩
theorem realrootsSigns_over:Rows.realrootsSignsUptoRow.holds Tryz.pinned (Rows.OpenSpec.upto Rows.realrootsSignsSpec):=
 OpenClaim.holds_of_cond 8 Tryz.f8 rfl rfl rfl rfl rfl rfl rfl ⟨rfl,rfl,rfl,rfl,rfl⟩ rfl rfl rfl rfl rfl EQ Tryz.func8 EQ
  (of_decide_eq_true EQ) (by unfold Func.isWrapper;first | (rw[if_pos (by decide +kernel)];kernel_rfl) | (rw[if_neg (by decide +kernel)];exact⟨rfl,rfl⟩))
  (fun os started H enc _ F=>realrootsSigns_lifted os started H enc F)
theorem realrootsSigns_proved:Rows.RealrootsSignsUptoSaid:=realrootsSigns_over
end Go.Proofs.YtmhgnigpmompmaaGreat
