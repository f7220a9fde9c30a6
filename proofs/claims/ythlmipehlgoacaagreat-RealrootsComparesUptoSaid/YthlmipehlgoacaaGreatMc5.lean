/- The statement RealrootsCompares holds for arguments of bulk at most 1048576 (its '..Upto' form): for all such polynomials the law returns true, and the arguments read afterwards as before. -/
import Derived.Test.YthlmipehlgoacaaGreatMc1
import Derived.Test.YthlmipehlgoacaaGreatMc2
import Derived.Test.YthlmipehlgoacaaGreatMc3
import Derived.Test.YthlmipehlgoacaaGreatMc4
set_option linter.unusedVariables false
set_option linter.unusedSimpArgs false
set_option maxHeartbeats 16000000
namespace Go.Hp
section
variable{F G:Nat->Rat}{a b c:Rat×Rat}
theorem PL{a b A B:Rat×Rat}(h1:a.1<=A.1)(h2:A.1 < A.2)(h3:A.2<=a.2)(k1:b.1<=B.1)(k2:B.1 < B.2)(k3:B.2<=b.2)(n1:¬ A.2<=B.1)(n2:¬ B.2<=A.1) :
  Du a b.1<=Du A B.1/\Du A B.1<=Du A B.2/\Du A B.2<=Du a b.2:=by
 refine⟨?_,Ji (Std.le_of_lt h2) (Std.le_of_lt k2),?_⟩
 ·unfold Du;split<;>split<;>(try split)<;>(try split)<;>grind
 ·unfold Du;split<;>split<;>(try split)<;>(try split)<;>grind
theorem Pr.ceq_up(h:Pr F G a b){A B:Rat×Rat}(h1:a.1<=A.1)(h2:A.1 < A.2)(h3:A.2<=a.2)(k1:b.1<=B.1)(k2:B.1 < B.2)(k3:B.2<=b.2)(he:Le (Bl F G) A B=1):Le (Bl F G) a b=1:=by
 have n1:¬ A.2<=B.1:=fun q=>by rw[Fq h2 k2 q]at he;omega
 have n2:¬ B.2<=A.1:=fun q=>by rw[Eu h2 k2 q]at he;omega
 obtain⟨e1,e2,e3⟩:=PL h1 h2 h3 k1 k2 k3 n1 n2;have hc:=h.ceq_le;have p1:=(h.both e1).1;have p3:=(h.both e3).1;have q1:=AY (Av (Bl F G)) (Du a b.1) (Du A B.1) (Du a b.2);have q2:=AY (Av (Bl F G)) (Du A B.1) (Du A B.2) (Du a b.2);unfold Le at he hc ⊢;omega
theorem Pr.never(h:Pr F G a b)(he:Le (Bl F G) a b=1)(k n:Nat):¬ (Cr F a k).2<=(Cr G b n).1:=by
 intro hd;have hc:=h.ceq_le;have hs:=h.swap.ceq_le;rw[h.ceq_swap,he]at hs;rw[he]at hc;have sF:=Bd h.hF.z h.hF.f h.hF.n0;have sG:=Bd h.hG.z h.hG.f h.hG.n0;have eC:=Mc h.hF.z h.hF.f h.hF.n0 h.hG.z h.hG.f h.hG.n0;have ra:=LF sF (C:=Av (Bl F G)) (fun x y hxy=>⟨(h.both hxy).1,(h.both hxy).2.1⟩) h.a1 h.ra Aa k;have rb:=LF sG (C:=Av (Bl F G)) (fun x y hxy=>⟨(h.both hxy).1,(h.both hxy).2.2⟩) h.b1 h.rb (by rw[eC];omega) n
 obtain⟨a1,a2,a3⟩:=h.pin (Nat.zero_le k);obtain⟨b1,b2,b3⟩:=h.swap.pin (Nat.zero_le n);have:=h.hull he (x:=(Cr F a k).1) (y:=(Cr F a k).2) (u:=(Cr G b n).1) (v:=(Cr G b n).2) (.inl a1) (Std.le_of_lt a2) hd (Std.le_of_lt b2) (.inr b3);have ra':rc (Av (Bl F G)) (Cr F a k).1 (Cr F a k).2=1:=ra;have rb':rc (Av (Bl F G)) (Cr G b n).1 (Cr G b n).2=1:=rb;omega
theorem Pr.cmp(h:Pr F G a b){s:Int}(hs:DF F G a.1 a.2 b.1 b.2 s) :
  (s = -1/\∃ k,(Cr F a k).2<=(Cr G b k).1)\/(s=1/\∃ k,(Cr G b k).2<=(Cr F a k).1)\/(s=0/\Le (Bl F G) a b=1):=by
 obtain⟨K,h1,-⟩:=hs;have hk:=h.at_ K;rcases(IC hk.a1 hk.b1 s).1 h1 with⟨x,e⟩ | ⟨x,e⟩ | ⟨x,e⟩
 ·exact .inl ⟨e,K,x⟩
 ·exact .inr (.inl ⟨e,K,x⟩)
 ·obtain⟨a1,a2,a3⟩:=h.pin (Nat.zero_le K)
  obtain⟨b1,b2,b3⟩:=h.swap.pin (Nat.zero_le K);exact .inr (.inr ⟨e,h.ceq_up a1 a2 a3 b1 b2 b3 x⟩)
theorem Pr.cmp_eq(h:Pr F G a b){s:Int}(hs:DF F G a.1 a.2 b.1 b.2 s):s=0↔Le (Bl F G) a b=1:=by
 rcases h.cmp hs with⟨e,k,x⟩ | ⟨e,k,x⟩ | ⟨e,x⟩
 ·exact⟨fun h=>Aa,fun q=>absurd x (h.never q k k)⟩
 ·refine⟨fun h=>Aa,fun q=>absurd x (h.swap.never (by rw[h.ceq_swap];exact q) k k)⟩
 ·exact⟨fun _=>x,fun _=>e⟩
theorem Pr.cmp_swap(h:Pr F G a b){s t:Int}(hs:DF F G a.1 a.2 b.1 b.2 s)(ht:DF G F b.1 b.2 a.1 a.2 t):s = -t:=by
 have e1:=h.cmp_eq hs;have e2:=h.swap.cmp_eq ht;rw[h.ceq_swap]at e2;have part:∀ k n,(Cr F a k).2<=(Cr G b k).1->(Cr G b n).2<=(Cr F a n).1->False:=fun k n h1 h2=>by
  obtain⟨a1,a2,a3⟩:=h.pin (Nat.le_max_left k n);obtain⟨b1,b2,b3⟩:=h.swap.pin (Nat.le_max_left k n);obtain⟨a4,a5,a6⟩:=h.pin (Nat.le_max_right k n);obtain⟨b4,b5,b6⟩:=h.swap.pin (Nat.le_max_right k n);grind
 rcases h.cmp hs with⟨e,k,x⟩ | ⟨e,k,x⟩ | ⟨e,x⟩
 ·rcases h.swap.cmp ht with⟨e',n,y⟩ | ⟨e',n,y⟩ | ⟨e',y⟩
  ·exact(part k n x y).elim
  ·omega
  ·rw[h.ceq_swap]at y;have:=e1.2 y;omega
 ·rcases h.swap.cmp ht with⟨e',n,y⟩ | ⟨e',n,y⟩ | ⟨e',y⟩
  ·omega
  ·exact(part n k y x).elim
  ·rw[h.ceq_swap]at y;have:=e1.2 y;omega
 ·have:=e2.2 x;omega
theorem Pr.cmp_next(h:Pr F G a b)(k:Pr F G a c)(hbc:b.2<=c.1){s t:Int}(hs:DF F G a.1 a.2 b.1 b.2 s)(ht:DF F G a.1 a.2 c.1 c.2 t)(h1:s≠1):t = -1:=by
 have hc:=h.ceq_le;have kc:=k.ceq_le;rcases k.cmp ht with⟨e,n,x⟩ | ⟨e,n,x⟩ | ⟨e,x⟩
 ·exact e
 ·exfalso
  obtain⟨c1,c2,c3⟩:=k.swap.pin (Nat.zero_le n);rcases h.cmp hs with⟨e',m,y⟩ | ⟨e',m,y⟩ | ⟨e',y⟩
  ·obtain⟨a1,a2,a3⟩:=h.pin (Nat.le_max_left m n)
   obtain⟨a4,a5,a6⟩:=h.pin (Nat.le_max_right m n);obtain⟨b1,b2,b3⟩:=h.swap.pin (Nat.zero_le m);rw[Ky]at b1 b3 c1 c3;grind
  ·exact h1 e'
  ·have:=h.swap.never (by rw[h.ceq_swap];exact y) n n
   obtain⟨b1,b2,b3⟩:=h.swap.pin (Nat.zero_le n);rw[Ky]at b1 b3 c1 c3;exact this Af
 ·exfalso
  have la:=Std.le_of_lt h.a1;rcases h.cmp hs with⟨e',m,y⟩ | ⟨e',m,y⟩ | ⟨e',y⟩
  ·have sF:=Bd h.hF.z h.hF.f h.hF.n0
   have ra:rc (Av (Bl F G)) (Cr F a m).1 (Cr F a m).2=1:=LF sF (C:=Av (Bl F G)) (fun x y hxy=>⟨(h.both hxy).1,(h.both hxy).2.1⟩) h.a1 h.ra Aa m;obtain⟨a1,a2,a3⟩:=h.pin (Nat.zero_le m);obtain⟨b1,b2,b3⟩:=h.swap.pin (Nat.zero_le m);rw[Ky]at a1 a3 b1 b3;have i1:=GY la c.1;have i2:=GY la c.2;have i3:=Ji la (Std.le_of_lt k.b1);have lo:(Cr F a m).2<=Du a c.1:=by unfold Du;split<;>(try split)<;>grind
   have q1:=AY (Av (Bl F G)) a.1 (Cr F a m).1 a.2;have q2:=AY (Av (Bl F G)) (Cr F a m).1 (Cr F a m).2 a.2;have q3:=AY (Av (Bl F G)) (Cr F a m).2 (Du a c.1) a.2;have q4:=AY (Av (Bl F G)) (Du a c.1) (Du a c.2) a.2;have p1:=(h.both a1).1;have p2:=(h.both lo).1;have p3:=(h.both i2.2).1;unfold Le at x;omega
  ·exact h1 e'
  ·have i1:=GY la b.1
   have i2:=GY la c.2;have i3:=Ji la (Std.le_of_lt h.b1);have i4:=Ji la hbc;have i5:=Ji la (Std.le_of_lt k.b1);have q1:=AY (Av (Bl F G)) a.1 (Du a b.1) a.2;have q2:=AY (Av (Bl F G)) (Du a b.1) (Du a b.2) a.2;have q3:=AY (Av (Bl F G)) (Du a b.2) (Du a c.1) a.2;have q4:=AY (Av (Bl F G)) (Du a c.1) (Du a c.2) a.2;have p1:=(h.both i1.1).1;have p2:=(h.both i4).1;have p3:=(h.both i2.2).1;unfold Le at x y
   omega
end
def KR(R:Rat×Rat->Int):List (Rat×Rat)->Int
 | []=>0
 | x::l=>R x+KR R l
theorem Mj(R:Rat×Rat->Int)(l m:List (Rat×Rat)):KR R (l ++ m)=KR R l+KR R m:=by
 induction l with
 | nil=>show _=0+_;rw[Int.zero_add];rfl
 | cons x l ih=>show R x+KR R (l ++ m)=R x+KR R l+KR R m;rw[ih,Int.add_assoc]
theorem Qx(R:Rat×Rat->Int)(l:List (Rat×Rat)){k:Nat}(hk:k < l.length):KR R (l.take (k+1))=KR R (l.take k)+R l[k]:=by
 rw[List.take_succ_eq_append_getElem hk,Mj];show _+(R l[k]+0)=_;rw[Int.add_zero]
theorem Kr(R:Rat×Rat->Int):∀(l:List (Rat×Rat)),(∀ x∈l,0<=R x/\R x<=1)->0<=KR R l/\KR R l<=l.length
 | [],_=>by show(0:Int)<=0/\(0:Int)<=((0:Nat):Int);omega
 | x::l,h=>by
  have h1:=h x Ac;have h2:=Kr R l fun y hy=>h y (by simp[hy]);show 0<=R x+KR R l/\R x+KR R l<=((l.length+1:Nat):Int);omega
theorem Tf{W:Nat->Rat}{R:Rat->Rat->Int}(hadd:∀ u v x,R u v+R v x=R u x)(hb:∀ u v,u<=v->0<=R u v/\R u v<=rc W u v){P Q:Rat}(hPQ:P < Q){N:Nat}(hdeep:∀ d p q,Node P Q d p q->N<=d->rc W p q<=1)(h0:∀ d p q,Node P Q d p q->0<=rc W p q) :
  ∀(n d:Nat) (p q:Rat),Node P Q d p q->N<=n+d->KR (fun x=>R x.1 x.2) (iso (rc W) n p q)=R p q:=by
 intro n;induction n with
 | zero =>
  intro d p q hn hN;have hlt:=Std.le_of_lt (hn.within hPQ).2.1;have h1:=hdeep d p q hn Aa;have h2:=h0 d p q hn;have h3:=hb p q hlt;by_cases hz:rc W p q=0
  ·rw[I9 hz];show(0:Int)=_;omega
  ·rw[GH Aa];show R p q+0=_;omega
 | succ n ih =>
  intro d p q hn hN;have hlt:=Std.le_of_lt (hn.within hPQ).2.1;have h3:=hb p q hlt;by_cases hz:rc W p q=0
  ·rw[I9 hz];show(0:Int)=_;omega
  by_cases hone:rc W p q=1
  ·rw[GH hone];show R p q+0=_;omega
  ·obtain⟨n1,n2⟩:=hn.half
   rw[K5 hz hone,Mj,ih (d+1) p _ n1 Aa,ih (d+1) _ q n2 Aa,hadd]
theorem WT{F:Nat->Rat}(z:ZI F)(f:Ae F)(n0:F≠pz){u v:Rat}(huv:u<=v)(h:v <= -(2:Rat)^bx F):rc (Av F) u v=0:=by
 have hpos:=Bn (bx F);have h1:=rc_all z f n0 (p:=u) (q:=(2:Rat)^bx F) Af;have sF:=Bd z f n0;have h2:=sF.nonneg huv;have h3:=sF.nonneg h;have e1:=AY (Av F) u v ((2:Rat)^bx F);have e2:=AY (Av F) v (-(2:Rat)^bx F) ((2:Rat)^bx F);omega
theorem Wo{F:Nat->Rat}(z:ZI F)(f:Ae F)(n0:F≠pz){u v:Rat}(huv:u<=v)(h:(2:Rat)^bx F<=u):rc (Av F) u v=0:=by
 have hpos:=Bn (bx F);have h1:=rc_all z f n0 (p:=-(2:Rat)^bx F) (q:=v) Af;have sF:=Bd z f n0;have h2:=sF.nonneg huv;have h3:=sF.nonneg h;have e1:=AY (Av F) (-(2:Rat)^bx F) u v;have e2:=AY (Av F) (-(2:Rat)^bx F) ((2:Rat)^bx F) u;omega
theorem ZY{F C:Nat->Rat}(zF:ZI F)(fF:Ae F)(nF:F≠pz)(zC:ZI C)(fC:Ae C)(nC:C≠pz)(hc:∀ u v,u<=v->0<=rc (Av C) u v/\rc (Av C) u v<=rc (Av F) u v) :
  rc (Av C) (-(2:Rat)^bx C) ((2:Rat)^bx C)=rc (Av C) (-(2:Rat)^bx F) ((2:Rat)^bx F):=by
 have p1:=Bn (bx F);have p2:=Bn (bx C);have h1:=rc_all zC fC nC (p:=-(2:Rat)^bx F) (q:=(2:Rat)^bx F) Af;obtain⟨B,hB⟩:∃ B,B=(2:Rat)^bx F:=⟨_,rfl⟩
 obtain⟨D,hD⟩:∃ D,D=(2:Rat)^bx C:=⟨_,rfl⟩
 have lo:∀ u v,u<=v->v <= -B->rc (Av C) u v=0:=fun u v h k=>by
  have:=WT zF fF nF h (by rw[<-hB];exact k);have:=hc u v h;omega
 have hi:∀ u v,u<=v->B<=u->rc (Av C) u v=0:=fun u v h k=>by
  have:=Wo zF fF nF h (by rw[<-hB];exact k);have:=hc u v h;omega
 rw[<-hB]at p1 h1 ⊢;rw[<-hD]at p2 h1 ⊢;rcases Rat.le_total (a:=D) (b:=B)with z | z
 ·have e1:=AY (Av C) (-B) (-D) B
  have e2:=AY (Av C) (-D) D B;have a1:=(hc (-B) (-D) Af).1;have a2:=(hc D B z).1;omega
 ·have e1:=AY (Av C) (-D) (-B) D
  have e2:=AY (Av C) (-B) B D;have a1:=lo (-D) (-B) Af (Std.le_refl _);have a2:=hi B D z (Std.le_refl _);omega
theorem YG{G C:Nat->Rat}(zG:ZI G)(fG:Ae G)(nG:G≠pz)(hc:∀ u v,u<=v->0<=rc (Av C) u v/\rc (Av C) u v<=rc (Av G) u v){a:Rat×Rat}(ha:a.1 < a.2) :
  rc (Av C) (Du a (-(2:Rat)^bx G)) (Du a ((2:Rat)^bx G))=rc (Av C) a.1 a.2:=by
 have p1:=Bn (bx G);obtain⟨B,hB⟩:∃ B,B=(2:Rat)^bx G:=⟨_,rfl⟩
 have lo:∀ u v,u<=v->v <= -B->rc (Av C) u v=0:=fun u v h k=>by
  have:=WT zG fG nG h (by rw[<-hB];exact k);have:=hc u v h;omega
 have hi:∀ u v,u<=v->B<=u->rc (Av C) u v=0:=fun u v h k=>by
  have:=Wo zG fG nG h (by rw[<-hB];exact k);have:=hc u v h;omega
 rw[<-hB]at p1 ⊢;have i1:=GY (Std.le_of_lt ha) (-B);have i2:=GY (Std.le_of_lt ha) B;have z1:rc (Av C) a.1 (Du a (-B))=0:=by
  unfold Du
  split
  ·exact Gs _ _
  ·split
   ·exact lo _ _ (Std.le_of_lt ha) Af
   ·exact lo _ _ Af (Std.le_refl _)
 have z2:rc (Av C) (Du a B) a.2=0:=by
  unfold Du
  split
  ·exact hi _ _ (Std.le_of_lt ha) Af
  ·split
   ·exact Gs _ _
   ·exact hi _ _ Af (Std.le_refl _)
 have e1:=AY (Av C) a.1 (Du a (-B)) a.2;have e2:=AY (Av C) (Du a (-B)) (Du a B) a.2;omega
theorem Pr.stop{F G:Nat->Rat}{a b:Rat×Rat}(h:Pr F G a b)(lF:Cj F)(lG:Cj G)(hD:pl F+pl G<=13)(b1:ab a.1<=2^400 - 1)(b2:ab a.2<=2^400 - 1)(b3:ab b.1<=2^400 - 1)(b4:ab b.2<=2^400 - 1) :
  ∃ K,K<=1000001000/\(∃ s,Stp (Bl F G) (Cr F a K) (Cr G b K) s)/\∀ j,j < K->∀ s,¬ Stp (Bl F G) (Cr F a j) (Cr G b j) s:=by
 have hx:∃ K,K<=1000001000/\∃ s,Stp (Bl F G) (Cr F a K) (Cr G b K) s:=by
  obtain⟨M,hM⟩:∃ M,M=1000001000:=⟨_,rfl⟩
  refine⟨M,Aa,?_⟩;obtain⟨E,hE⟩:∃ E,E=1000000001:=⟨_,rfl⟩
  have hk:=h.at_ M;obtain⟨t1,t2,t3,t4⟩:=KI (E:=E) h.a1 b1 b2 (CJ (rc (Av F)) a.1 a.2 M) Aa;obtain⟨u1,u2,u3,u4⟩:=KI (E:=E) h.b1 b3 b4 (CJ (rc (Av G)) b.1 b.2 M) Aa;have ea:Cw (rc (Av F)) a.1 a.2 M=Cr F a M:=rfl;have eb:Cw (rc (Av G)) b.1 b.2 M=Cr G b M:=rfl;rw[ea]at t1 t2 t3 t4;rw[eb]at u1 u2 u3 u4;obtain⟨A,hA⟩:∃ A,A=Cr F a M:=⟨_,rfl⟩
  obtain⟨B,hB⟩:∃ B,B=Cr G b M:=⟨_,rfl⟩
  rw[<-hA]at hk t1 t2 t3 t4;rw[<-hB]at hk u1 u2 u3 u4;rw[<-hA,<-hB];by_cases n1:A.2<=B.1
  ·exact⟨-1,(IC hk.a1 hk.b1 _).2 (.inl ⟨n1,rfl⟩)⟩
  by_cases n2:B.2<=A.1
  ·exact⟨1,(IC hk.a1 hk.b1 _).2 (.inr (.inl ⟨n2,rfl⟩))⟩
  refine⟨0,(IC hk.a1 hk.b1 _).2 (.inr (.inr ⟨?_,rfl⟩))⟩;rw[IB hk.a1 hk.b1 n1 n2];obtain⟨x,hx⟩:∃ x,x=N8 A.1 B.1:=⟨_,rfl⟩
  obtain⟨y,hy⟩:∃ y,y=LC A.2 B.2:=⟨_,rfl⟩
  have x1:x<=A.1/\x<=B.1/\(x=A.1\/x=B.1):=by rw[hx];unfold N8;split<;>grind
  have y1:A.2<=y/\B.2<=y/\(y=A.2\/y=B.2):=by rw[hy];unfold LC;split<;>grind
  have ax:ab x<=2^400 - 1:=by rcases x1.2.2 with e | e<;>rw[e]<;>assumption
  have ay:ab y<=2^400 - 1:=by rcases y1.2.2 with e | e<;>rw[e]<;>assumption
  have hxy:x < y:=by grind
  have wid:∀ e:Nat,e+1=E->(y - x)*2^e<=1:=fun e he=>by
   have h2:=Bn e;rw[<-he,Rat.pow_succ]at t4 u4;have h3:y - x<=(A.2 - A.1)+(B.2 - B.1):=by grind
   have h4:=CK h3 (Std.le_of_lt h2);grind
  obtain⟨e9,he9⟩:∃ e,e=1000000000:=⟨_,rfl⟩
  have sep:=wid e9 Aa;have rF:=lF.sep (E:=e9) Aa ax ay hxy sep;have rG:=lG.sep (E:=e9) Aa ax ay hxy sep;have sF:=Bd lF.z lF.f lF.n0;have sG:=Bd lG.z lG.f lG.n0;have gF:=sF.sub x1.1 (Std.le_of_lt hk.a1) y1.1;have gG:=sG.sub x1.2.1 (Std.le_of_lt hk.b1) y1.2.1;have cb:=h.both (Std.le_of_lt hxy);rw[hk.ra]at gF;rw[hk.rb]at gG;clear wid hE t4 u4;have hC:rc (Av (Bl F G)) x y≠0:=fun e=>by
   have:=lF.nice.apart lG.nice hD ax ay hxy (by rw[<-he9];exact sep) Aa e;omega
  obtain⟨m,hm⟩:∃ m,m=LC A.1 B.1:=⟨_,rfl⟩
  obtain⟨n,hn⟩:∃ n,n=N8 A.2 B.2:=⟨_,rfl⟩
  rw[<-hm,<-hn];have m1:A.1<=m/\B.1<=m/\(m=A.1\/m=B.1):=by rw[hm];unfold LC;split<;>grind
  have m2:n<=A.2/\n<=B.2/\(n=A.2\/n=B.2):=by rw[hn];unfold N8;split<;>grind
  have ha1:=hk.a1;have hb1:=hk.b1;have hmn:m < n:=by grind
  have fra:=hk.ra;have frb:=hk.rb
  -- left and right of the common part
  have l1:rc (Av (Bl F G)) x m=0:=by
   have q:=h.both (show x<=m by grind);rcases m1.2.2 with e | e
   ·have a1:=AY (Av F) x m y
    have a2:=AY (Av F) m A.2 y;have a3:=sF.nonneg y1.1;have a4:=sF.nonneg (show x<=m by grind);rw[e]at a1 a2 a4 q ⊢;omega
   ·have a1:=AY (Av G) x m y
    have a2:=AY (Av G) m B.2 y;have a3:=sG.nonneg y1.2.1;have a4:=sG.nonneg (show x<=m by grind);rw[e]at a1 a2 a4 q ⊢;omega
  have l2:rc (Av (Bl F G)) n y=0:=by
   have q:=h.both (show n<=y by grind);rcases m2.2.2 with e | e
   ·have a1:=AY (Av F) x A.1 y
    have a2:=AY (Av F) A.1 n y;have a3:=sF.nonneg x1.1;have a4:=sF.nonneg (show n<=y by grind);rw[e]at a2 a4 q ⊢;omega
   ·have a1:=AY (Av G) x B.1 y
    have a2:=AY (Av G) B.1 n y;have a3:=sG.nonneg x1.2.1;have a4:=sG.nonneg (show n<=y by grind);rw[e]at a2 a4 q ⊢;omega
  have e1:=AY (Av (Bl F G)) x m y;have e2:=AY (Av (Bl F G)) m n y;omega
 obtain⟨K,hK,e⟩:=hx;induction K using Nat.strongRecOn with
 | _ K ih =>
  by_cases hj:∃ j,j < K/\∃ s,Stp (Bl F G) (Cr F a j) (Cr G b j) s
  ·obtain⟨j,h1,h2⟩:=hj
   exact ih j h1 Aa h2
  ·exact⟨K,hK,e,fun j hj' s he=>hj ⟨j,hj',s,he⟩⟩
open Go.RowKit
theorem YP{a:Rat×Rat}(h:a.1<=a.2){u v:Rat}(huv:u<=v):Du a u=Du a v\/(u<=Du a u/\Du a v<=v):=by
 unfold Du;split<;>split<;>(try split)<;>(try split)<;>grind
theorem Pr.cmp_uniq{F G:Nat->Rat}{a b:Rat×Rat}(h:Pr F G a b){s s':Int}(hs:DF F G a.1 a.2 b.1 b.2 s)(ht:DF F G a.1 a.2 b.1 b.2 s'):s=s':=by
 obtain⟨K,k1,k2⟩:=hs;obtain⟨N,n1,n2⟩:=ht;rcases Nat.lt_trichotomy K N with z | z | z
 ·exact absurd k1 (n2 K z s)
 ·subst z
  have hk:=h.at_ K;have ha:=hk.a1;have hb:=hk.b1;rcases(IC hk.a1 hk.b1 s).1 k1 with⟨x,e⟩ | ⟨x,e⟩ | ⟨x,e⟩<;>rcases(IC hk.a1 hk.b1 s').1 n1 with⟨y,e'⟩ | ⟨y,e'⟩ | ⟨y,e'⟩
  ·rw[e,e']
  ·exfalso;grind
  ·rw[Fq hk.a1 hk.b1 x]at y;omega
  ·exfalso;grind
  ·rw[e,e']
  ·rw[Eu hk.a1 hk.b1 x]at y;omega
  ·rw[Fq hk.a1 hk.b1 y]at x;omega
  ·rw[Eu hk.a1 hk.b1 y]at x;omega
  ·rw[e,e']
 ·exact absurd n1 (k2 N z s')
theorem Pr.cmp_ex{F G:Nat->Rat}{a b:Rat×Rat}(h:Pr F G a b)(lF:Cj F)(lG:Cj G)(hD:pl F+pl G<=13)(b1:ab a.1<=2^400 - 1)(b2:ab a.2<=2^400 - 1)(b3:ab b.1<=2^400 - 1)(b4:ab b.2<=2^400 - 1):∃ s,DF F G a.1 a.2 b.1 b.2 s:=by
 obtain⟨K,-,⟨s,k1⟩,k2⟩:=h.stop lF lG hD b1 b2 b3 b4;exact⟨s,K,k1,k2⟩
theorem WZ{F G:Nat->Rat}(lF:Cj F)(lG:Cj G){N:Nat}(hN:700000000<=N) :
  (∀ x:Rat×Rat,x.1 < x.2->KR (fun y=>Le (Bl F G) x y) (iso (rc (Av G)) N (-(2:Rat)^bx G) ((2:Rat)^bx G))=rc (Av (Bl F G)) x.1 x.2) /\
   KR (fun x=>rc (Av (Bl F G)) x.1 x.2) (iso (rc (Av F)) N (-(2:Rat)^bx F) ((2:Rat)^bx F))=rc (Av (Bl F G)) (-(2:Rat)^bx (Bl F G)) ((2:Rat)^bx (Bl F G)):=by
 have hb:=fun {u v:Rat} (h:u<=v)=>lF.mid.both lG.mid h;have sF:=Bd lF.z lF.f lF.n0;have sG:=Bd lG.z lG.f lG.n0;have p1:=Bn (bx F);have p2:=Bn (bx G);have P1 : -(2:Rat)^bx F < (2:Rat)^bx F:=by grind
 have P2 : -(2:Rat)^bx G < (2:Rat)^bx G:=by grind
 have gC:=lF.mid.gcd lG.z lG.f;refine⟨fun x hx=>?_,?_⟩
 ·have hl:=Std.le_of_lt hx
  have h:=Tf (W:=Av G) (R:=fun u v=>rc (Av (Bl F G)) (Du x u) (Du x v)) (fun u v t=>AY _ _ _ _) (fun u v huv=>by
   have i3:=Ji hl huv;refine⟨(hb i3).1,?_⟩;show rc (Av (Bl F G)) (Du x u) (Du x v)<=rc (Av G) u v;rcases YP hl huv with e | ⟨e1,e2⟩
   ·rw[e,Gs];exact sG.nonneg huv
   ·exact Int.le_trans (hb i3).2.2 (sG.sub e1 i3 e2)) P2 (fun d p q hn hd=>lG.deep d p q hn Aa) (fun d p q hn=>sG.nonneg (Std.le_of_lt (hn.within P2).2.1)) N 0 _ _ (Node.root _ _) Aa
  refine Eq.trans h ?_;exact YG lG.z lG.f lG.n0 (fun u v huv=>⟨(hb huv).1,(hb huv).2.2⟩) hx
 ·have h:=Tf (W:=Av F) (R:=rc (Av (Bl F G))) (fun u v t=>AY _ _ _ _) (fun u v huv=>⟨(hb huv).1,(hb huv).2.1⟩) P1 (fun d p q hn hd=>lF.deep d p q hn Aa) (fun d p q hn=>sF.nonneg (Std.le_of_lt (hn.within P1).2.1)) N 0 _ _ (Node.root _ _) Aa
  exact h.trans (ZY lF.z lF.f lF.n0 gC.z gC.f gC.n0 fun u v huv=>⟨(hb huv).1,(hb huv).2.1⟩).symm
theorem V8{F:Nat->Rat}(h:Cj F){N:Nat}(hN:700000000<=N):(iso (rc (Av F)) N (-(2:Rat)^bx F) ((2:Rat)^bx F)).Pairwise fun x y=>x.2<=y.1:=by
 have hpos:=Bn (bx F);have hPQ : -(2:Rat)^bx F < (2:Rat)^bx F:=by grind
 exact(Kw (Bd h.z h.f h.n0) hPQ (fun d p q hn hd=>h.deep d p q hn Aa) N 0 _ _ (Hp.Node.root _ _) Aa).2.2
end Go.Hp
namespace Go.Proofs.YthlmipehlgoacaaGreat
open Go.RowKit Go.Hp
theorem K6(v i0 u j0:Value)(l m:List Int)(a b:Rat×Rat)(t:Nat)(X:World)(hv:F9 0 X v l)(hi:KU X i0 a.1 a.2)(hu:F9 0 X u m)(hj:KU X j0 b.1 b.2)(hl:l.length<=12)(hm:m.length<=12)(hF:Cj (cz l))(hG:Cj (cz m))(hD:pl (cz l)+pl (cz m)<=13)(hP:Pr (cz l) (cz m) a b)
  (h1:qsz a.1<=t) (h2:qsz a.2<=t) (h3:qsz b.1<=t) (h4:qsz b.2<=t) (ht:t<=1000000000) (b1:ab a.1<=2^400 - 1) (b2:ab a.2<=2^400 - 1) (b3:ab b.1<=2^400 - 1) (b4:ab b.2<=2^400 - 1) {s:Int} (hs:DF (cz l) (cz m) a.1 a.2 b.1 b.2 s) :
  Be 10 #[v,i0,u,j0] X (fun r _=>r = .tuple #[.int .i64 s,.int .i64 0]):=by
 refine Ag.imp (RN v i0 u j0 l m a.1 a.2 b.1 b.2 t X hv hi hu hj Aa Aa (fun _=>hF.mid.rm) (fun _=>hG.mid.rm) (fun _ _=>(hF.mid.gcd (ZI.cz m) (Ae.cz m)).rm) (fun _ _ Y x y hx hy=>Zu hF hG Y x y hx hy)
  (fun _ _ _ _ _ _=>hP.stop hF hG hD b1 b2 b3 b4) h1 h2 h3 h4 ht) fun r _ ⟨s',E,e1,e2,e3,e4⟩=>?_
 rw[if_neg (fun h=>h hF.err),if_neg (fun h=>h ⟨hP.a1,hP.ra⟩),if_neg (fun h=>h hG.err),if_pos ⟨hP.b1,hP.rb⟩]at e4;subst e4;rw[e1,hP.cmp_uniq (e3 rfl) hs]
set_option maxRecDepth 20000 in
theorem O3(v0 v1:Value)(l0 l1:List Jy)(w:World)(h0:Dk w v0 l0)(h1:Dk w v1 l1)(hB0:MO l0)(hB1:MO l1) :
  Be 3 #[v0,v1] w (fun r _=>r = .bool true):=by
 have H0:=Ad h0;have PB0:=Ad (h0.has hB0.2).1;have hlB0:(l0.map Ve).length<=1048576:=by simpa using hB0.1
 obtain⟨A0,c0,rfl,k0a,k0b⟩:=h0.len;clear h0 hB0;have hll0:(l0.map Ve).length=l0.length:=by simp
 obtain⟨m0,hm0⟩:∃ m,m=l0.map Ve:=⟨_,rfl⟩
 rw[<-hm0]at PB0 hlB0 hll0;rw[<-hll0]at k0a PB0 ⊢;clear hm0 hll0 H0;have hp0:=BK (CO m0);have H1:=Ad h1;have PB1:=Ad (h1.has hB1.2).1;have hlB1:(l1.map Ve).length<=1048576:=by simpa using hB1.1
 obtain⟨A1,c1,rfl,k1a,k1b⟩:=h1.len;clear h1 hB1;have hll1:(l1.map Ve).length=l1.length:=by simp
 obtain⟨m1,hm1⟩:∃ m,m=l1.map Ve:=⟨_,rfl⟩
 rw[<-hm1]at PB1 hlB1 hll1;rw[<-hll1]at k1a PB1 ⊢;clear hm1 hll1 H1;have hp1:=BK (CO m1)
 go_enter Tryz.func3,Tryz.ntmps3
 go_wp2_with fail
 refine AQ (WJ _) ?_;rintro r w3 rfl hx
 go_upto_region 3 with(fail)
 go_cut [44] (fun bv wx=>Ext w wx/\(bv = .bool true\/(bv = .bool false/\Cj (cz m0)/\Cj (cz m1)/\m0.length<=12/\m1.length<=12/\pl (cz m0)+pl (cz m1)<=13)))
 case first =>
  go_wp2_with fail
  refine AQ (XW w3.heap.size 2 [(.slice A0 m0.length c0,m0),(.slice A1 m1.length c1,m1)] _ Ac Ac (RS w3 _ (PB0.out.ext hx) (PB1.out.ext hx) rfl)) ?_;rintro r4 w4 ⟨b,rfl,hb⟩ hx4;have hx4:=hx4.a1;replace hx:=hx.trans hx4;clear hx4;have Hb:=Ad hb;clear hb;cases b with
  | false =>
   go_wp2
   go_meet
   case rel=>exact⟨hx,.inl rfl⟩
  | true =>
  have HL:=Ad (Au (Hb.out rfl (.slice A0 m0.length c0,m0) Ac) (Hb.out rfl (.slice A1 m1.length c1,m1) Ac));clear Hb;obtain⟨d0,hd0⟩:∃ d,d=(pl (cz m0):Int) - 1:=⟨_,rfl⟩
  obtain⟨d1,hd1⟩:∃ d,d=(pl (cz m1):Int) - 1:=⟨_,rfl⟩
  have b0 : -1<=d0/\d0<=6:=by have h:pl (cz m0)<=7:=HL.out.1.2.1;omega
  have b1 : -1<=d1/\d1<=6:=by have h:pl (cz m1)<=7:=HL.out.2.2.1;omega
  have hg0:∀ X,Ext w X->Be 6 #[.slice A0 m0.length c0] X (fun r _=>r = .int .i64 d0):=fun X x=>by rw[hd0];exact KA _ m0 X (PB0.out.ext x) Aa
  have hg1:∀ X,Ext w X->Be 6 #[.slice A1 m1.length c1] X (fun r _=>r = .int .i64 d1):=fun X x=>by rw[hd1];exact KA _ m1 X (PB1.out.ext x) Aa
  have HD:=Ad (Au hg0 hg1);clear hg0 hg1;have HE:=Ad (Au hd0 hd1);clear hd0 hd1;clear hp0 hp1
  go_wp2_with fail
  refine AQ (HD.out.1 _ hx) ?_;rintro r5 w5 rfl hx5;replace hx:=hx.trans hx5;clear hx5;by_cases hneg:d0 < 0
  ·go_wp2
   go_meet
   case rel=>exact⟨hx,.inl rfl⟩
  go_wp2_with fail
  refine AQ (HD.out.2 _ hx) ?_;rintro r6 w6 rfl hx6;replace hx:=hx.trans hx6;clear hx6;by_cases hneg1:d1 < 0
  ·go_wp2
   go_meet
   case rel=>exact⟨hx,.inl rfl⟩
  go_wp2_with fail
  refine AQ (HD.out.1 _ hx) ?_;rintro r7 w7 rfl hx7;replace hx:=hx.trans hx7;clear hx7
  go_wp2_with fail
  refine AQ (HD.out.2 _ hx) ?_;rintro r8 w8 rfl hx8;replace hx:=hx.trans hx8;clear hx8;by_cases hsum:d0+d1 > 9
  ·go_wp2
   go_meet
   case rel=>exact⟨hx,.inl rfl⟩
  ·have HS:=Ad (Au hneg (Au hneg1 hsum))
   go_wp2
   go_meet
   case rel=>exact⟨hx,.inr ⟨by simp[hneg,hneg1,hsum],HL.out.1.lite (fun e=>by have h:=HE.out.1;have h9:=HS.out.1;rw[e,BZ]at h;omega),HL.out.2.lite (fun e=>by have h:=HE.out.2;have h9:=HS.out.2.1;rw[e,BZ]at h;omega),HL.out.1.1,HL.out.2.1,by have h:=HE.out;have h9:=HS.out.2.2;omega⟩⟩
 case rest =>
 clear hx;obtain⟨hx,rfl | ⟨rfl,hF,hG,f12,g12,hD⟩⟩:=hcut
 ·go_wp2
  go_ret
  exact Ag.mk rfl hx
 obtain⟨N,hN,hN9⟩:∃ N,700000000<=N/\N<=700000001:=⟨700000001,Aa,Aa⟩
 have hsum:=WZ hF hG hN;have hpair:=V8 hG hN;have hlF:=hF.iso hN hN9;have hlG:=hG.iso hN hN9;have h1:∀ X,Ext w X->Be 7 #[.slice A0 m0.length c0] X (fun r w'=>∃ c,r = .tuple #[c,.int .i64 0]/\Df 0 41 w' c (iso (rc (Av (cz m0))) N (-(2:Rat)^bx (cz m0)) ((2:Rat)^bx (cz m0)))):=fun X x=>Qq _ m0 N X (PB0.out.ext x) f12 hF hN hN9;have h2:∀ X,Ext w X->Be 7 #[.slice A1 m1.length c1] X (fun r w'=>∃ c,r = .tuple #[c,.int .i64 0]/\Df 0 41 w' c (iso (rc (Av (cz m1))) N (-(2:Rat)^bx (cz m1)) ((2:Rat)^bx (cz m1)))):=fun X x=>Qq _ m1 N X (PB1.out.ext x) g12 hG hN hN9
 obtain⟨L,hLL⟩:∃ L,L=iso (rc (Av (cz m0))) N (-(2:Rat)^bx (cz m0)) ((2:Rat)^bx (cz m0)):=⟨_,rfl⟩
 obtain⟨M,hMM⟩:∃ M,M=iso (rc (Av (cz m1))) N (-(2:Rat)^bx (cz m1)) ((2:Rat)^bx (cz m1)):=⟨_,rfl⟩
 rw[<-hLL]at h1 hlF hsum;rw[<-hMM]at h2 hlG hsum hpair;have gC:=hF.mid.gcd hG.z hG.f;have h3:∀ X,Ext w X->Be 8 #[.slice A0 m0.length c0,.slice A1 m1.length c1] X (fun r w'=>∃ k,F9 0 w' r k/\k.length<=1000/\cz k=Bl (cz m0) (cz m1)):=fun X x=>by
  have e1:2^(pl (cz m0)+pl (cz m1))<=2^13:=Nat.pow_le_pow_right Ab hD;have e2:(pl (cz m0)+pl (cz m1)+1)*(32768+1)<=14*32769:=Nat.mul_le_mul_right _ Aa;refine Ag.imp (Xb _ _ m0 m1 1 32768 X (PB0.out.ext x) (PB1.out.ext x) hF.q hG.q Aa Aa Aa Aa) fun r w' h=>?_;obtain⟨k,a1,a2,-,a4⟩:=h.hz fun i=>Nat.le_trans (gC.q i) Ab;refine⟨k,a1,?_,a4⟩;have:=gC.p;omega
 have h4:∀ X v,(∃ k,F9 0 X v k/\k.length<=1000/\cz k=Bl (cz m0) (cz m1))->Be 9 #[v] X (fun r _=>r = .tuple #[.int .i64 (KR (fun x=>rc (Av (Bl (cz m0) (cz m1))) x.1 x.2) L),.int .i64 0]):=fun X v ⟨k,hv,hk,e⟩=>by
  refine Ag.imp (Xt v k _ 32768 X hv Aa (fun _=>by rw[e];exact gC.pg)) fun r _ h=>?_;unfold Ug at h;rw[h,e,gC.err,if_pos rfl,<-hsum.2]
 have hpr:∀ x∈L,∀ y∈M,Pr (cz m0) (cz m1) x y:=fun x hx y hy=>⟨hF.mid,hG.mid,(hlF.2 x hx).2.1,(hlG.2 y hy).2.1,(hlF.2 x hx).1,(hlG.2 y hy).1⟩
 have h5:∀ X,Ext w X->∀ a b,∀ x∈L,∀ y∈M,∀ s,DF (cz m0) (cz m1) x.1 x.2 y.1 y.2 s->J2 X a x.1 x.2->J2 X b y.1 y.2->Be 10 #[.slice A0 m0.length c0,a,.slice A1 m1.length c1,b] X (fun r _=>r = .tuple #[.int .i64 s,.int .i64 0]):=fun X hX a b x hx y hy s hs ha hb=>by
  have p1:=hlF.2 x hx;have p2:=hlG.2 y hy;exact K6 _ a _ b m0 m1 x y 700400000 X (PB0.out.ext hX) (ha.has (Nat.le_trans p1.2.2.1 Ab) (Nat.le_trans p1.2.2.2.1 Ab)) (PB1.out.ext hX) (hb.has (Nat.le_trans p2.2.2.1 Ab) (Nat.le_trans p2.2.2.2.1 Ab)) f12 g12 hF hG hD (hpr x hx y hy)
   p1.2.2.1 p1.2.2.2.1 p2.2.2.1 p2.2.2.2.1 Aa p1.2.2.2.2.1 p1.2.2.2.2.2 p2.2.2.2.2.1 p2.2.2.2.2.2 hs
 have h6:∀ X,Ext w X->∀ a b,∀ x∈L,∀ y∈M,∀ s,DF (cz m1) (cz m0) y.1 y.2 x.1 x.2 s->J2 X a x.1 x.2->J2 X b y.1 y.2->Be 10 #[.slice A1 m1.length c1,b,.slice A0 m0.length c0,a] X (fun r _=>r = .tuple #[.int .i64 s,.int .i64 0]):=fun X hX a b x hx y hy s hs ha hb=>by
  have p1:=hlF.2 x hx;have p2:=hlG.2 y hy;exact K6 _ b _ a m1 m0 y x 700400000 X (PB1.out.ext hX) (hb.has (Nat.le_trans p2.2.2.1 Ab) (Nat.le_trans p2.2.2.2.1 Ab)) (PB0.out.ext hX) (ha.has (Nat.le_trans p1.2.2.1 Ab) (Nat.le_trans p1.2.2.2.1 Ab)) g12 f12 hG hF Aa (hpr x hx y hy).swap
   p2.2.2.1 p2.2.2.2.1 p1.2.2.1 p1.2.2.2.1 Aa p2.2.2.2.2.1 p2.2.2.2.2.2 p1.2.2.2.2.1 p1.2.2.2.2.2 hs
 have h10:∀ x∈L,∀ y∈M,(∃ s,DF (cz m0) (cz m1) x.1 x.2 y.1 y.2 s)/\∃ s,DF (cz m1) (cz m0) y.1 y.2 x.1 x.2 s:=fun x hx y hy=>by
  have p1:=hlF.2 x hx;have p2:=hlG.2 y hy;exact⟨(hpr x hx y hy).cmp_ex hF hG hD p1.2.2.2.2.1 p1.2.2.2.2.2 p2.2.2.2.2.1 p2.2.2.2.2.2,(hpr x hx y hy).swap.cmp_ex hG hF Aa p2.2.2.2.2.1 p2.2.2.2.2.2 p1.2.2.2.2.1 p1.2.2.2.2.2⟩
 obtain⟨RC,hRC⟩:∃ R:Rat×Rat->Int,R=fun x=>rc (Av (Bl (cz m0) (cz m1))) x.1 x.2:=⟨_,rfl⟩
 obtain⟨CE,hCE⟩:∃ R:Rat×Rat->Rat×Rat->Int,R=fun x y=>Le (Bl (cz m0) (cz m1)) x y:=⟨_,rfl⟩
 have h7:(∀ x∈L,KR (CE x) M=RC x)/\(∀ x∈L,0<=RC x/\RC x<=1)/\∀ x∈L,∀ y∈M,0<=CE x y/\CE x y<=1:=by
  refine⟨fun x hx=>by rw[hCE,hRC];exact hsum.1 x (hlF.2 x hx).2.1,fun x hx=>?_,fun x hx y hy=>?_⟩
  ·rw[hRC]
   have:=hF.mid.both hG.mid (Std.le_of_lt (hlF.2 x hx).2.1);have:=(hlF.2 x hx).1;show 0<=rc (Av (Bl (cz m0) (cz m1))) x.1 x.2/\rc (Av (Bl (cz m0) (cz m1))) x.1 x.2<=1;omega
  ·rw[hCE]
   have:=(hpr x hx y hy).ceq_le;show 0<=Le (Bl (cz m0) (cz m1)) x y/\Le (Bl (cz m0) (cz m1)) x y<=1;omega
 have h8:∀ x∈L,∀ y∈M,∀ s t,DF (cz m0) (cz m1) x.1 x.2 y.1 y.2 s->DF (cz m1) (cz m0) y.1 y.2 x.1 x.2 t->t = -s/\(s = -1\/s=0\/s=1)/\(s=0↔CE x y=1):=fun x hx y hy s t hs ht=>by
  have p:=hpr x hx y hy;have e:=p.cmp_swap hs ht;refine⟨Aa,?_,by rw[hCE];exact p.cmp_eq hs⟩;rcases p.cmp hs with⟨e,-⟩ | ⟨e,-⟩ | ⟨e,-⟩
  ·exact .inl e
  ·exact .inr (.inr e)
  ·exact .inr (.inl e)
 have h9:∀ x∈L,∀ j (hj:j+1 < M.length),∀ s t,DF (cz m0) (cz m1) x.1 x.2 M[j].1 M[j].2 s->DF (cz m0) (cz m1) x.1 x.2 M[j+1].1 M[j+1].2 t->s≠1->t = -1:=fun x hx j hj s t hs ht hne =>
  (hpr x hx M[j] (List.getElem_mem _)).cmp_next (hpr x hx M[j+1] (List.getElem_mem _)) (List.pairwise_iff_getElem.1 hpair j (j+1) Aa hj Aa) hs ht hne
 rw[<-hRC]at h4;have HC:=Ad (Au h1 (Au h2 (Au h3 (Au h4 (Au h5 h6)))));have HT:=Ad (Au h7 (Au h8 (Au h9 h10)));have hl1:=hlF.1;have hl2:=hlG.1;clear h1 h2 h3 h4 h5 h6 h7 h8 h9 h10 hF hG f12 g12 hD hsum hpair hlF hlG hLL hMM hN hN9 gC hpr hRC hCE hp0 hp1
 go_wp2_with fail
 refine AQ (HC.out.1 _ hx) ?_;rintro r5 w5 ⟨c5,rfl,hown⟩ hx5;replace hx:=hx.trans hx5;clear hx5;obtain⟨AL,cL,rfl⟩:=hown.len;have HO:=Ad hown;clear hown
 go_wp2_with fail
 refine AQ (HC.out.2.1 _ hx) ?_;rintro r6 w6 ⟨c6,rfl,hown⟩ hx6;obtain⟨AM,cM,rfl⟩:=hown.len;have HO2:=Ad (Au (Df.ext HO.out hx6) hown);clear hown HO;replace hx:=hx.trans hx6;clear hx6
 go_wp2_with fail
 refine AQ (HC.out.2.2.1 _ hx) ?_;rintro r7 w7 hr7 hx7;have HG:=Ad hr7;clear hr7;have HO:=Ad (Au (Df.ext HO2.out.1 hx7) (Df.ext HO2.out.2 hx7));clear HO2;replace hx:=hx.trans hx7;clear hx7
 go_wp2_with fail
 refine AQ (HC.out.2.2.2.1 _ _ HG.out) ?_;rintro r8 w8 rfl hx8;have HO3:=Ad (Au (Df.ext HO.out.1 hx8) (Df.ext HO.out.2 hx8));clear HO HG;replace hx:=hx.trans hx8;clear hx8;go_wp2
 go_loopw [12,13] (fun ev iv wr=>∃ i:Nat,i<=L.length/\iv = .int .i64 (i:Nat)/\ev = .int .i64 (KR RC (L.take i))/\Ext w8 wr) (fun _ iv _=>L.length - (intOf iv).toNat)
 case atStart=>exact⟨0,Aa,rfl,rfl,Ext.refl _⟩
 case round =>
  obtain⟨i,hi,rfl,rfl,hy⟩:=hrel;by_cases hil:i < L.length
  ·have hmem:=List.getElem_mem hil
   obtain⟨x,hxe⟩:∃ x,x=L[i]:=⟨_,rfl⟩
   rw[<-hxe]at hmem;have hS0:=Kr RC (L.take i) (fun y hy=>HT.out.1.2.1 y (List.mem_of_mem_take hy));have hS1:=Qx RC L hil;rw[<-hxe]at hS1;have hS2:(L.take i).length<=1000:=by rw[List.length_take];omega
   obtain⟨S0,hS⟩:∃ S,S=KR RC (L.take i):=⟨_,rfl⟩
   rw[<-hS]at hS0 hS1 ⊢;have hS3:0<=S0/\S0<=1000:=by omega
   have HX:=Ad (Au hmem (Au hxe (Au hS1 hS)));clear hmem hxe hS0 hS1 hS2 hS;go_wp2
   go_loopw [12,14,15] (fun ev lv jv wr=>∃ (j:Nat) (last:Int),j<=M.length/\jv = .int .i64 (j:Nat)/\lv = .int .i64 last/\ev = .int .i64 (S0+KR (CE x) (M.take j))/\(j=0->last=1)/\(∀ k (hk:k < M.length),k+1=j->DF (cz m0) (cz m1) x.1 x.2 M[k].1 M[k].2 last)/\(last = -1\/last=0\/last=1)/\Ext w8 wr) (fun _ _ jv _=>M.length - (intOf jv).toNat)
   case atStart=>exact⟨0,1,Aa,rfl,rfl,by show _=Value.int .i64 (S0+0);rw[Int.add_zero],fun _=>rfl,fun k hk h=>Aa,.inr (.inr rfl),hy⟩
   case round =>
    clear hy;obtain⟨j,last,hj,rfl,rfl,rfl,hl0,hlast,hlu,hy⟩:=hrel;by_cases hjl:j < M.length
    ·have hmem:=List.getElem_mem hjl
     obtain⟨y,hye⟩:∃ y,y=M[j]:=⟨_,rfl⟩
     rw[<-hye]at hmem;have hS0:=Kr (CE x) (M.take j) (fun y hy=>HT.out.1.2.2 x HX.out.1 y (List.mem_of_mem_take hy));have hS1:=Qx (CE x) M hjl;rw[<-hye]at hS1;have hS2:(M.take j).length<=1000:=by rw[List.length_take];omega
     obtain⟨S1,hS⟩:∃ S,S=KR (CE x) (M.take j):=⟨_,rfl⟩
     rw[<-hS]at hS0 hS1 ⊢;obtain⟨S,hSS⟩:∃ S,S=S0+S1:=⟨_,rfl⟩
     have hS4:0<=S/\S<=2000:=by omega
     rw[<-hSS];have hce:=HT.out.1.2.2 x HX.out.1 y hmem;obtain⟨g,o,b1,A3,n1,c3,b2,A4,n2,c4,b3,A5,n3,c5,b4,A6,n4,c6,rfl,q0,q1,q2,q3,q4,q5,q6,q7,hi0⟩:=(Df.ext HO3.out.1 hy).at_ (j:=i) hil;obtain⟨g',o',d1,B3,k1,e3,d2,B4,k2,e4,d3,B5,k3,e5,d4,B6,k4,e6,rfl,s0,s1,s2,s3,s4,s5,s6,s7,hi1⟩:=(Df.ext HO3.out.2 hy).at_ (j:=j) hjl;rw[<-HX.out.2.1]at hi0;rw[<-hye]at hi1;have hxy:=hx.trans hy;obtain⟨⟨s,hs⟩,t,ht⟩:=HT.out.2.2.2 x HX.out.1 y hmem
     have f1:∀ X,Ext wr X->Be 10 #[.slice A0 m0.length c0,.agg #[.bool b1,.slice A3 n1 c3,.bool b2,.slice A4 n2 c4,.bool b3,.slice A5 n3 c5,.bool b4,.slice A6 n4 c6],.slice A1 m1.length c1,.agg #[.bool d1,.slice B3 k1 e3,.bool d2,.slice B4 k2 e4,.bool d3,.slice B5 k3 e5,.bool d4,.slice B6 k4 e6]] X (fun r _=>r = .tuple #[.int .i64 s,.int .i64 0]):=fun X z =>
      HC.out.2.2.2.2.1 X (hxy.trans z) _ _ x HX.out.1 y hmem s hs (hi0.ext z) (hi1.ext z)
     have f2:∀ X,Ext wr X->Be 10 #[.slice A1 m1.length c1,.agg #[.bool d1,.slice B3 k1 e3,.bool d2,.slice B4 k2 e4,.bool d3,.slice B5 k3 e5,.bool d4,.slice B6 k4 e6],.slice A0 m0.length c0,.agg #[.bool b1,.slice A3 n1 c3,.bool b2,.slice A4 n2 c4,.bool b3,.slice A5 n3 c5,.bool b4,.slice A6 n4 c6]] X (fun r _=>r = .tuple #[.int .i64 t,.int .i64 0]):=fun X z =>
      HC.out.2.2.2.2.2 X (hxy.trans z) _ _ x HX.out.1 y hmem t ht (hi0.ext z) (hi1.ext z)
     have HS:=Ad (Au f1 (Au f2 (Au hmem (Au hye (Au hl0 (Au hlast (Au hS1 (Au hS hSS))))))));clear f1 f2 hmem hye hl0 hlast hS0 hS1 hS hSS hS2 hi0 hi1 hxy;have Hs:=Ad hs;have Ht:=Ad ht;clear hs ht
     go_upto_region 19 with(fail)
     refine Er 15 [86,87,88,89,90,91,92,93,94,95,96,85,97,98,16] [0,5,13,1,7,15] [_,_,_,_,_,_] [(kv ?_),(kv ?_),(kv ?_),(kv ?_),(kv ?_),(kv ?_),(kv ?_),(kv ?_),(kv ?_),(kv ?_),(kv (.tuple #[.int .i64 s,.int .i64 0])),(kv ?_),(kv ?_),(kv ?_),(kv ?_)] (fun γ w'=>[True,True,True,True,True,True,True,True,True,True,True,True,True,True,True]) ?s1 ?_
     case s1 =>
      iterate 15 refine⟨?_,?_⟩
      trivial
      iterate 10 focus
       refine Bf fun _ w' he R hR=>?_;have hc:=he.cells;have cq0:=he.cell q0;have cq1:=he.cell q1;have cq2:=he.cell q2;have cq3:=he.cell q3;have cq4:=he.cell q4;have cq5:=he.cell q5;have cq6:=he.cell q6;have cq7:=he.cell q7;have cq8:=he.cell s0;have cq9:=he.cell s1;have cq10:=he.cell s2;have cq11:=he.cell s3;have cq12:=he.cell s4;have cq13:=he.cell s5;have cq14:=he.cell s6;have cq15:=he.cell s7;go_simp;(try go_ints);(try(rw[if_neg Aa]));(try(rw[if_pos Aa]));(try go_simp);(try go_ints)
       exact BV hR
      ·refine Bf fun _ w' he R hR=>?_
       go_simp;exact Nn (HS.out.1 w' he) hR
      iterate 4 focus
       refine Bf fun _ w' he R hR=>?_;have hc:=he.cells;go_simp;(try go_ints);(try(rw[if_neg Aa]));(try(rw[if_pos Aa]));(try go_simp);(try go_ints)
       exact BV hR
     intro γ w10 hx10 hF;clear hF;simp only[Bu,Nat.reduceAdd];clear γ;replace q0:=hx10.cell q0;replace q1:=hx10.cell q1;replace q2:=hx10.cell q2;replace q3:=hx10.cell q3;replace q4:=hx10.cell q4;replace q5:=hx10.cell q5;replace q6:=hx10.cell q6;replace q7:=hx10.cell q7;replace s0:=hx10.cell s0;replace s1:=hx10.cell s1;replace s2:=hx10.cell s2;replace s3:=hx10.cell s3;replace s4:=hx10.cell s4;replace s5:=hx10.cell s5
     replace s6:=hx10.cell s6;replace s7:=hx10.cell s7
     go_upto_region 20 with(fail)
     refine Er 15 [100,101,102,103,104,105,106,107,108,109,110,99,111,112,18] [1,7,15,0,5,13] [_,_,_,_,_,_] [(kv ?_),(kv ?_),(kv ?_),(kv ?_),(kv ?_),(kv ?_),(kv ?_),(kv ?_),(kv ?_),(kv ?_),(kv (.tuple #[.int .i64 t,.int .i64 0])),(kv ?_),(kv ?_),(kv ?_),(kv ?_)] (fun γ w'=>[True,True,True,True,True,True,True,True,True,True,True,True,True,True,True]) ?s2 ?_
     case s2 =>
      iterate 15 refine⟨?_,?_⟩
      trivial
      iterate 10 focus
       refine Bf fun _ w' he R hR=>?_;have hc:=he.cells;have cq0:=he.cell q0;have cq1:=he.cell q1;have cq2:=he.cell q2;have cq3:=he.cell q3;have cq4:=he.cell q4;have cq5:=he.cell q5;have cq6:=he.cell q6;have cq7:=he.cell q7;have cq8:=he.cell s0;have cq9:=he.cell s1;have cq10:=he.cell s2;have cq11:=he.cell s3;have cq12:=he.cell s4;have cq13:=he.cell s5;have cq14:=he.cell s6;have cq15:=he.cell s7;go_simp;(try go_ints);(try(rw[if_neg Aa]));(try(rw[if_pos Aa]));(try go_simp);(try go_ints)
       exact BV hR
      ·refine Bf fun _ w' he R hR=>?_
       go_simp;exact Nn (HS.out.2.1 w' (hx10.trans he)) hR
      iterate 4 focus
       refine Bf fun _ w' he R hR=>?_;have hc:=he.cells;go_simp;(try go_ints);(try(rw[if_neg Aa]));(try(rw[if_pos Aa]));(try go_simp);(try go_ints)
       exact BV hR
     intro γ w12 hx12 hF;clear hF;simp only[Bu,Nat.reduceAdd];clear γ;clear q0 q1 q2 q3 q4 q5 q6 q7 s0 s1 s2 s3 s4 s5 s6 s7;have hz13:=hx10.trans hx12;clear hx10 hx12;obtain⟨e1,e2,e3⟩:=HT.out.2.1 x HX.out.1 y HS.out.2.2.1 s t Hs.out Ht.out;subst e1;have hord:last=1\/s = -1:=by
      rcases Nat.eq_zero_or_pos j with z | z
      ·exact .inl (HS.out.2.2.2.2.1 z)
      ·by_cases hl:last=1
       ·exact .inl hl
       ·right
        obtain⟨k,rfl⟩:∃ k,j=k+1:=⟨j - 1,Aa⟩
        exact HT.out.2.2.1 x HX.out.1 k hjl last s (HS.out.2.2.2.2.2.1 k Aa rfl) (by have:=Hs.out;rw[HS.out.2.2.2.1]at this;exact this) hl
     have HE:=Ad e3;have HU:=Ad e2;clear Ht e3
     go_upto_region 21 with(fail)
     go_cut [137] (fun bv wx=>bv = .bool false/\Ext wr wx)
     case first =>
      clear hS4 hce;have hcase:(last=1/\(s = -1\/s=0\/s=1))\/(s = -1/\(last = -1\/last=0)):=by omega
      clear hord hlu e2;rcases hcase with⟨rfl,rfl | rfl | rfl⟩ | ⟨rfl,rfl | rfl⟩
      all_goals
       go_wp2
       go_meet
       case rel=>exact⟨rfl,hz13⟩
     case rest =>
     clear hz13 hord hlu;obtain⟨rfl,hz14⟩:=hcut;have hyz:=hy.trans hz14;have hnext:∀ k (hk:k < M.length),k+1=j+1->DF (cz m0) (cz m1) x.1 x.2 M[k].1 M[k].2 s:=fun k hk h=>by
      obtain rfl:k=j:=by omega
      have:=Hs.out;rw[HS.out.2.2.2.1]at this;exact this
     have HN:=Ad hnext;clear hnext;by_cases hs0:s=0
     ·have he:=HE.out.1 hs0
      have hb:(s==0)=true:=by rw[hs0];rfl
      have hval:S+1=S0+KR (CE x) (M.take (j+1)):=by have h1:=HS.out.2.2.2.2.2.2;omega
      have HV:=Ad hval;clear hval he hce hs0 e2;go_wp2
      go_roundw
      case rel=>exact⟨j+1,s,Aa,by go_num,rfl,by rw[<-HV.out],fun h=>Aa,HN.out,HU.out,hyz⟩
      case measure=>simp[intOf];omega
     ·have he:CE x y=0:=by have h2:¬ CE x y=1:=fun h=>hs0 (HE.out.2 h);omega
      have hb:(s==0)=false:=beq_eq_false_iff_ne.2 hs0;have hval:S=S0+KR (CE x) (M.take (j+1)):=by have h1:=HS.out.2.2.2.2.2.2;omega
      have HV:=Ad hval;clear hval he hce hs0 e2;go_wp2
      go_roundw
      case rel=>exact⟨j+1,s,Aa,by go_num,rfl,by rw[<-HV.out],fun h=>Aa,HN.out,HU.out,hyz⟩
      case measure=>simp[intOf];omega
    ·obtain rfl:j=M.length:=by omega
     have hval:S0+KR (CE x) (M.take M.length)=KR RC (L.take (i+1)):=by
      rw[List.take_length,HT.out.1.1 x HX.out.1,HX.out.2.2.1]
     rw[hval];clear hval hlast;go_wp2
     go_roundw
     case rel=>exact⟨i+1,Aa,by go_num,rfl,hy⟩
     case measure=>simp[intOf];omega
  ·obtain rfl:i=L.length:=by omega
   have hx9:=hx.trans hy;rw[List.take_length];go_wp2
   go_ret
   exact Ag.mk Ac hx9
open Go.ChangeShapes Go.WideShapes Go.ChangeAt
open Go.ChangeMaps (open_string shut_string)
theorem own_:ownKnob Tryz.prog.godebug=none:=by kernel_rfl
theorem laidOut_:laidOutB Tryz.prog=true:=by kernel_rfl
set_option maxRecDepth 100000 in
theorem realrootsCompares_lifted(os:Os)(started:os.Started)(H:Type)(enc:TypeId×Value->H)(F:Stop.Interp) :
  ReturnsInHanded {} Tryz.checked os 3 .any ((Rows.OpenSpec.upto Rows.realrootsComparesSpec).pre6 enc Tryz.prog Tryz.f3 Rows.realrootsComparesUptoRow.domain false) (((Rows.OpenSpec.upto Rows.realrootsComparesSpec).at F).post enc Tryz.prog Tryz.f3 false true false false):=by
 refine returnsInHanded_of_cond (C:=Tryz.checked) (s:=Rows.OpenSpec.upto Rows.realrootsComparesSpec) (k:=Rows.uptoSmall) rfl own_ started EI Tryz.func3
  (OpenSpec.witness (enc:=enc) (C:=Tryz.checked) (s:=Rows.OpenSpec.upto Rows.realrootsComparesSpec) (k:=Rows.uptoSmall) rfl false ⟨#[],#[.slice none 0 0,.slice none 0 0],[]⟩ 8 EI EI EI
   (x:=([.nil,.nil],[],[])) EI rfl EI) ?_
 intro W base args ds gs before hval hW _ hk _;have hW':=hW;obtain⟨p,q,hA0,hV,rfl,hfz,hnd⟩:=hW;have hA:DataW.TrodAll enc Tryz.prog W 0 (fun _=>true) true Tryz.f3.params.toList args.toList ds p:=hA0;rw[Tryz.params3]at hA hval;obtain⟨v0,v1,d0,d1,p0,p1,hargs,rfl,rfl,h0,h1⟩:=trodAll_two hA;obtain rfl:args=#[v0,v1]:=by cases args;simp_all
 obtain⟨rfl,rfl⟩:=trodVars_none hV;have lt0:∀ x∈p0,x.block < W.heap.size:=by obtain⟨m,hm⟩:=h0;exact DataW.trod_lt m _ _ _ hm
 have lt1:∀ x∈p1,x.block < W.heap.size:=by obtain⟨m,hm⟩:=h1;exact DataW.trod_lt m _ _ _ hm
 have hkk:=of_decide_eq_true hk;have hb0:Rows.uptoBulk d0<=1048576:=Nat.le_trans (IE (d:=d0) (l:=[d0,d1] ++ []) Ac) hkk;have hb1:Rows.uptoBulk d1<=1048576:=Nat.le_trans (IE (d:=d1) (l:=[d0,d1] ++ []) Ac) hkk;obtain⟨l0,w0,b0⟩:∃ l,Dk W v0 l/\MO l:=by
  obtain⟨m,hm⟩:=h0;have hs:=okWide_slice Tryz.underlying23 (hval 0 23 v0 rfl rfl);obtain⟨l,hl⟩:=LJ Tryz.underlying23 hm hs;exact⟨l,hl,NE Tryz.underlying23 hm hs hl hb0⟩
 obtain⟨l1,w1,b1⟩:∃ l,Dk W v1 l/\MO l:=by
  obtain⟨m,hm⟩:=h1;have hs:=okWide_slice Tryz.underlying23 (hval 1 23 v1 rfl rfl);obtain⟨l,hl⟩:=LJ Tryz.underlying23 hm hs;exact⟨l,hl,NE Tryz.underlying23 hm hs hl hb1⟩
 clear hA0 hkk hk;refine(O3 v0 v1 l0 l1 W w0 w1 b0 b1).mono fun e W' ⟨v,he,hv,bel⟩=>?_;subst he hv;exact⟨_,rfl,_,_,_,[],_,[],hW',trodAll_mk1 (shut_bool Tryz.underlying4 _),(trodAll_cons_mk (Below.trod laidOut_ EI (of_decide_eq_true EI) h0 bel lt0) (trodAll_cons_mk (Below.trod laidOut_ EI (of_decide_eq_true EI) h1 bel lt1) trodAll_mk0)),rfl,bel.frame _,fun h=>by cases h⟩
theorem realrootsCompares_over:Rows.realrootsComparesUptoRow.holds Tryz.pinned (Rows.OpenSpec.upto Rows.realrootsComparesSpec):=
 OpenClaim.holds_of_cond 3 Tryz.f3 rfl rfl rfl rfl rfl rfl rfl ⟨rfl,rfl,rfl,rfl,rfl⟩ rfl rfl rfl rfl rfl EI Tryz.func3 EI
  (of_decide_eq_true EI) (by unfold Func.isWrapper;first | (rw[if_pos (by decide +kernel)];kernel_rfl) | (rw[if_neg (by decide +kernel)];exact⟨rfl,rfl⟩))
  (fun os started H enc _ F=>realrootsCompares_lifted os started H enc F)
theorem realrootsCompares_proved:Rows.RealrootsComparesUptoSaid:=realrootsCompares_over
end Go.Proofs.YthlmipehlgoacaaGreat
