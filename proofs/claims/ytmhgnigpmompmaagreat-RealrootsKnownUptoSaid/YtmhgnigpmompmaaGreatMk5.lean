/- The statement RealrootsKnown holds for arguments of bulk at most 1048576 (its '..Upto' form): for every such argument the law returns true, and the argument reads afterwards as before. -/
import Derived.Test.YtmhgnigpmompmaaGreatMk1
import Derived.Test.YtmhgnigpmompmaaGreatMk2
import Derived.Test.YtmhgnigpmompmaaGreatMk3
import Derived.Test.YtmhgnigpmompmaaGreatMk4
import Derived.Test.YtmhgnigpmompmaaGreatRows
import Derived.WalkKit
import Derived.ProofKit
import Derived.OpenShut
import Derived.ShutString
import Derived.ChangeOld
import Derived.Below
import Derived.JoinedCond
import Derived.Lib.SmallJoins
set_option linter.unusedVariables false
set_option linter.unusedSimpArgs false
set_option maxHeartbeats 16000000
namespace Go.Hp
open Go.RowKit
noncomputable def bx(F:Nat->Rat):Nat:=open Classical in if h:∃ j,P2 (GN F (pl F - 1)+1) j then Classical.choose h else 0
theorem P2.bx{F:Nat->Rat}{j:Nat}(h:P2 (GN F (pl F - 1)+1) j):j=Hp.bx F:=by
 have hx:∃ j,P2 (GN F (pl F - 1)+1) j:=⟨j,h⟩
 unfold Hp.bx;rw[dif_pos hx];exact h.uniq (Classical.choose_spec hx)
theorem iM(F:Nat->Rat):P2 (GN F (pl F - 1)+1) (bx F):=by
 have h0:0<=GN F (pl F - 1)+1:=by have:=FI F (pl F - 1);grind
 obtain⟨j,hj,-⟩:=P2.qsz h0 (Nat.le_refl _);rw[<-hj.bx];exact hj
theorem O5{F:Nat->Rat}{s:Nat}(h:∀ i,qsz (F i)<=s):bx F<=32*(2*s+2)+1:=by
 have h0:0<=GN F (pl F - 1)+1:=by have:=FI F (pl F - 1);grind
 have h1:=EM (GN F (pl F - 1)) 1;have h2:qsz (1:Rat)=1:=by decide
 have h3:=LX h (Nat.le_trans (Dw (F 0)) (h 0)) (pl F - 1);obtain⟨j,hj,hj2⟩:=P2.qsz h0 (show qsz (GN F (pl F - 1)+1)<=2*s+2 by omega);rw[<-hj.bx];exact hj2
theorem PY(j:Nat):qsz ((2:Rat)^j)<=j+1/\qsz (-(2:Rat)^j)<=j+1:=by
 have h1:=Jj j;have e:((2:Rat)^j)=(((2:Int)^j:Int):Rat):=(Kr j).symm;have h2:qsz ((2:Rat)^j)<=j+1:=by rw[e,Bz];omega
 exact⟨h2,by rw[Gd];exact h2⟩
structure Pg(F:Nat->Rat)(D M:Nat):Prop where
 z:ZI F
 f:Ae F
 n0:F≠pz
 e:D7 F=0
 q:∀ i,qsz (F i)<=1000
 pln:pl F<=1000
 sim:∃ S n M T,Qn F S n M T
 chn:∃ S,FW (sqf F) S D M
theorem Pg.sf{F:Nat->Rat}{D M:Nat}(h:Pg F D M):SF (sqf F):=C8 h.z h.f h.n0
theorem Pg.k{F:Nat->Rat}{D M:Nat}(h:Pg F D M):PG (sqf F) (pd (sqf F)) (kn (sqf F)):=h.sf.st.k
theorem Pg.lim{F:Nat->Rat}{D M:Nat}(h:Pg F D M):M<=1000000/\D<=900:=by
 obtain⟨S,h⟩:=h.chn;exact⟨by have:=h.b;omega,h.D9⟩
theorem NU.lower{base b:Nat}{t:TypeId}{w:World}{v:Value}{W:Nat->Rat}(h:NU base t w v W)(hb:b<=base):NU b t w v W:=by
 obtain⟨c,us,K,h1,h2,h3,h4⟩:=h;exact⟨c,us,K,h1,h2,h3,(h4.base_le hb).el_le hb⟩
theorem Ep.lower{base b:Nat}{e:TypeId}{w:World}{v:Value}{l:List (Rat×Rat)}(h:Ep base e w v l)(hb:b<=base):Ep b e w v l:=by
 obtain⟨ess,g1,g2,⟨g3,g4⟩,g5⟩:=h;refine⟨ess,g1,g2,⟨g3,?_⟩,g5⟩;rcases g4 with h4 | ⟨g,cap,cur,a,c,d⟩
 ·exact .inl h4
 ·exact .inr ⟨g,cap,cur,a,Nat.le_trans hb c,d⟩
def Yv(base:Nat)(t:TypeId)(F:Nat->Rat)(N:Nat)(r:Value)(w:World):Prop:=∃ c,r = .tuple #[c,.int .i64 (D7 F)]/\(D7 F=0->Ep base t w c (iso (rc (sqf F)) N (-(2:Rat)^bx F) ((2:Rat)^bx F)))/\(D7 F≠0->c = .slice none 0 0)
def Ir(F:Nat->Rat)(p q:Rat)(r:Value):Prop:=r = .tuple #[.int .i64 (if D7 F=0/\p<=q then rc (sqf F) p q else 0),.int .i64 (if D7 F=0 then(if p<=q then 0 else 2)else D7 F)]
structure DZ(F:Nat->Rat):Prop where
 z:ZI F
 f:Ae F
 n0:F≠pz
 p:pl F<=7
 b:∀ i,(F i).num.natAbs<=4095
theorem BO{F:Nat->Rat}(z:ZI F){i s:Nat}(hs:1<=s)(h:(F i).num.natAbs < bp s):qsz (F i)<=s:=by
 have h3:=Cf h;rw[z.num i,Bz];omega
theorem DZ.q{F:Nat->Rat}(h:DZ F)(i:Nat):qsz (F i)<=1:=BO h.z Ab (Nat.lt_of_le_of_lt (h.b i) Ab)
theorem GV{F:Nat->Rat}(z:ZI F)(f:Ae F){n X:Nat}(hp:pl F<=n+1)(h:∀ i,(F i).num.natAbs<=X)(i:Nat):(pd F i).num.natAbs<=n*X:=by
 have e:pd F i=((((i+1:Nat):Int)*(F (i+1)).num:Int):Rat):=by
  show((i+1:Nat):Rat)*F (i+1)=_
  conv=>lhs;rw[z.num (i+1)]
  push_cast;rfl
 rw[e];show(((i+1:Nat):Int)*(F (i+1)).num).natAbs<=_;rw[Int.natAbs_mul];by_cases hi:i+1<=n
 ·exact Nat.mul_le_mul hi (h _)
 ·have:F (i+1)=0:=(AB f) _ Aa
  rw[this];simp
theorem PQ{F:Nat->Rat}(z:ZI F)(f:Ae F)(h0:F≠pz){X:Nat}(h:∀ i,(F i).num.natAbs<=X)(i:Nat):(pp F i).num.natAbs<=X:=by
 rw[NG z f h0];show((F i).num / pcn F).natAbs<=X;exact Nat.le_trans (Int.natAbs_ediv_le_natAbs _ _) (h i)
theorem Py{F:Nat->Rat}(z:ZI F){X:Nat}(h:∀ i,(F i).num.natAbs<=X):Jo ((X:Nat):Rat) F:=fun i=>by
 rw[z.num i,JN];exact_mod_cast h i
theorem Pf{F:Nat->Rat}(z:ZI F){X:Nat}(h:Jo ((X:Nat):Rat) F)(i:Nat):(F i).num.natAbs<=X:=by
 have:=h i;rw[z.num i,JN]at this;exact_mod_cast this
theorem Nf(a b c d:Nat):((a:Nat):Rat)*(((b:Nat):Rat)*((c:Nat):Rat)*((d:Nat):Rat)*((d:Nat):Rat))=((a*(b*c*d*d):Nat):Rat):=by push_cast;rfl
theorem DZ.w{F:Nat->Rat}(h:DZ F):(∀ i,(sqf F i).num.natAbs<=7*(4095*7*15^7*15^7))/\pl (sqf F)<=7:=by
 have hP:=Bn.pp h.z h.f h.n0;have hS:=C8 h.z h.f h.n0;have hpl:=DR h.z h.f;have hd:J6 (pp F) (sqf F):=by
  obtain⟨hC,hW,e,-,-⟩:=Ec hP;exact⟨yc (pp F),hC.z,hC.f,by rw[AX];exact e⟩
 have h1:=Pi hP.z hP.f hP.n hS.p.z hS.p.f hd (n:=7) (by rw[hpl];exact h.p) (Py hP.z (PQ h.z h.f h.n0 h.b));refine⟨Pf hS.p.z ?_,?_⟩
 ·intro i
  have:=h1 i;refine Std.le_trans this ?_;have e:(1:Rat)+2*((7:Nat):Rat)=((15:Nat):Rat):=by exact_mod_cast(rfl:1+2*7=15)
  rw[e,Gs];have:((7:Nat):Rat)*(((4095:Nat):Rat)*((7:Nat):Rat)*((15^7:Nat):Rat)*((15^7:Nat):Rat))=((7*(4095*7*15^7*15^7):Nat):Rat):=Nf 7 4095 7 _;rw[this];exact Std.le_refl _
 ·have:=Dv.le hS.p.f hP.f hP.n (MH hd)
  rw[hpl]at this;have:=h.p;omega
theorem DZ.chn{F:Nat->Rat}(h:DZ F):FW (sqf F) 3 (pl (sqf F)+pl (pd (sqf F))) 32768/\pl (sqf F)+pl (pd (sqf F))<=13:=by
 obtain⟨h1,h2⟩:=h.w;have hS:=C8 h.z h.f h.n0;have h3:=Gz hS.p.f;have h4:=AQ hS.p.f hS.p.n;have hD:pl (sqf F)+pl (pd (sqf F))<=13:=by omega
 have hp:2^(pl (sqf F)+pl (pd (sqf F)))<=2^13:=Nat.pow_le_pow_right Ab hD;have hm:(pl (sqf F)+pl (pd (sqf F))+1)*(32768+1)<=14*32769:=Nat.mul_le_mul_right _ Aa;refine⟨FW.of2 hS.p.z hS.p.f (fun i=>BO hS.p.z Ab (Nat.lt_of_le_of_lt (h1 i) (by decide +kernel))) (fun i=>BO (CU hS.p.z) Ab (Nat.lt_of_le_of_lt (GV hS.p.z hS.p.f (n:=6) Aa h1 i) (by decide +kernel))) rfl Aa Aa Aa,hD⟩
theorem DZ.sim{F:Nat->Rat}(h:DZ F):Qn F 1 7 16384 36000:=by
 have hP:=Bn.pp h.z h.f h.n0;have hpl:=DR h.z h.f;have hpn:=PQ h.z h.f h.n0 h.b;exact⟨h.z,h.f,h.n0,h.q,fun i=>BO (CU hP.z) Ab (Nat.lt_of_le_of_lt (GV hP.z hP.f (n:=6) (by rw[hpl];exact h.p) hpn i) Ab),
  fun i=>OX hP (n:=7) (s:=1) (by rw[hpl];exact h.p) Ab (fun i=>BO hP.z Ab (Nat.lt_of_le_of_lt (hpn i) Ab)) Ab i,h.p,Ab,Ab,Ab,Ab⟩
theorem DZ.err{F:Nat->Rat}(h:DZ F):D7 F=0:=by
 refine J7 h.n0 (by have:=h.p;omega) fun⟨i,b,h1,h2⟩=>?_;have:=h1.le (m:=12) (Nat.lt_of_le_of_lt (h.b i) Ab);omega
theorem DZ.pg{F:Nat->Rat}(h:DZ F):Pg F (pl (sqf F)+pl (pd (sqf F))) 32768:=
 ⟨h.z,h.f,h.n0,h.err,fun i=>Nat.le_trans (h.q i) Ab,by have:=h.p;omega,⟨1,7,16384,36000,h.sim⟩,⟨3,h.chn.1⟩⟩
theorem Z9{S D b:Nat}(hS:S<=3)(hD:D<=13)(hb:b<=400):Nv S D b<=660000000:=by
 have hp:2^D<=8192:=Nat.le_trans (Nat.pow_le_pow_right Ab hD) Ab;have h1:(S+1)*2^D<=4*8192:=Nat.mul_le_mul Aa hp;have h2:(D+1)*((S+1)*2^D+1)<=14*32769:=Nat.mul_le_mul Aa Aa;have h3:b*(D+1)<=400*14:=Nat.mul_le_mul hb Aa;have h4:(3+b)*D<=403*13:=Nat.mul_le_mul Aa hD;have h5:Ik S D b<=50338607:=by unfold Ik;omega
 have h6:D*Ik S D b<=13*50338607:=Nat.mul_le_mul hD h5;unfold Nv PV Vm;omega
theorem DZ.sep{F:Nat->Rat}(h:DZ F){p q:Rat}{E:Nat}(hE:660000000<=E)(hp:ab p<=2^400 - 1)(hq:ab q<=2^400 - 1)(hpq:p < q)(hd:(q - p)*2^E<=1):rc (sqf F) p q<=1:=by
 obtain⟨hC,hD⟩:=h.chn;have hS:=C8 h.z h.f h.n0;have h1:=Z9 (S:=3) (b:=400) Ab hD Ab;have h2:=Ce (K5 (show Nv 3 (pl (sqf F)+pl (pd (sqf F))) 400<=E by omega)) (show 0<=q - p by grind);exact hS.st.sep hC.s hC.d rfl hp hq hpq (Std.le_trans h2 hd)
theorem fI{b:Nat}(j:Nat)(h:j+1<=b):(2:Rat)^j<=2^b - 1:=by
 have h1:=K5 h;rw[Rat.pow_succ]at h1;have:=KN j;grind
theorem DZ.deep{F:Nat->Rat}(h:DZ F)(d:Nat)(p q:Rat)(hn:Node (-(2:Rat)^bx F) ((2:Rat)^bx F) d p q)(hd:700000000<=d):rc (sqf F) p q<=1:=by
 have hb:=O5 h.q;have hpos:=BP (bx F);have hPQ : -(2:Rat)^bx F < (2:Rat)^bx F:=by grind
 obtain⟨w1,w2,w3⟩:=hn.within hPQ;have hB:=fI (b:=400) (bx F) Aa;have hap:ab p<=2^400 - 1:=Fe.2 ⟨Af,Af⟩;have haq:ab q<=2^400 - 1:=Fe.2 ⟨Af,Af⟩;obtain⟨E,hE⟩:∃ E,d=E+(bx F+1):=⟨d - (bx F+1),Aa⟩
 refine h.sep (E:=E) Aa hap haq w2 ?_;have hw:=hn.width;rw[hE,CZ,Rat.pow_succ]at hw;have:(q - p)*2^E*(2^bx F*2)=1*(2^bx F*2):=by grind
 have hne:(2:Rat)^bx F*2≠0:=by grind
 have:(q - p)*2^E=1:=by grind
 rw[this];exact Std.le_refl _
theorem PX:∀ l:List Int,KM 0 l<=l.length - 1
 | []=>Nat.le_refl _
 | s::l=>by
  rw[KM]
  split
  ·have:=PX l;simp;omega
  ·rename_i h
   rw[if_neg (show ¬ (0:Int) = -s by omega)];have:=Xa l s;simp;omega
theorem QJ:pl (cz [-2,0,1])=3:=Jr (Ct [-2,0,1]) (fun _=>by decide +kernel)
theorem bC:cz [-2,0,1]≠pz:=fun e=>by have:=QJ;rw[e,BJ]at this;omega
theorem G6:DZ (cz [-2,0,1]):=by
 refine⟨ZI.cz _,Ae.cz _,bC,by rw[QJ];decide,fun i=>?_⟩
 match i with
 | 0=>decide +kernel
 | 1=>decide +kernel
 | 2=>decide +kernel
 | i+3=>rw[Iw Ac];decide
theorem UC(x:Rat):ev (cz [-2,0,1]) x = -2+x*x:=by
 rw[EA (Ct [-2,0,1]) x];show cz [-2,0,1] 0+x*(cz [-2,0,1] 1+x*(cz [-2,0,1] 2+x*0))=_;have h0:cz [-2,0,1] 0 = -2:=by decide +kernel
 have h1:cz [-2,0,1] 1=0:=by decide +kernel
 have h2:cz [-2,0,1] 2=1:=by decide +kernel
 rw[h0,h1,h2];grind
theorem X8:ld (cz [-2,0,1])=1:=by unfold ld;rw[QJ];decide +kernel
theorem aX:SF (cz [-2,0,1]):=by
 refine⟨⟨ZI.cz _,Ae.cz _,bC,by rw[X8];decide,?_⟩,?_⟩
 ·have h:=G6
  have h1:cn (cz [-2,0,1])∣1:=by
   have h2:=FP (F:=cz [-2,0,1]) (Ae.cz _) 2;have h3:(cz [-2,0,1] 2).num=1:=by decide +kernel
   rw[h3]at h2;exact Int.natCast_dvd_natCast.1 h2
  exact Nat.dvd_one.1 h1
 ·have e:∀ i,pd (cz [-2,0,1]) i=cs 0 (cs 2 pz) i:=fun i=>by
   match i with
   | 0=>decide +kernel
   | 1=>decide +kernel
   | i+2 =>
    show((i+2+1:Nat):Rat)*cz [-2,0,1] (i+3)=pz i;rw[Iw Ac,Rat.mul_zero];rfl
  have e':pd (cz [-2,0,1])=cs 0 (cs 2 pz):=funext e;have f':cz [-2,0,1]=cs (-2) (cs 0 (cs 1 pz)):=funext fun i=>by
   match i with
   | 0=>decide +kernel
   | 1=>decide +kernel
   | 2=>decide +kernel
   | i+3=>rw[Iw Ac];rfl
  refine⟨cs (-(1 / 2)) pz,cs 0 (cs (1 / 4) pz),Ae.pz.cs _,(Ae.pz.cs _).cs _,?_⟩;rw[e',f'];simp only[Lx,Cv]
  funext i
  match i with
  | 0=>simp only[pad,psc,cs,pz,pone];grind
  | 1=>simp only[pad,psc,cs,pz,pone];grind
  | 2=>simp only[pad,psc,cs,pz,pone];grind
  | 3=>simp only[pad,psc,cs,pz,pone];grind
  | i+4=>simp only[pad,psc,cs,pz,pone];grind
theorem ZL{F:Nat->Rat}(h:SF F):sqf F=F:=by
 have e:pp F=F:=h.p.self;have h2:=SH h h.p (Dv.refl F);have h3:=Ec h.p;unfold sqf;rw[e];refine h3.2.1.eq_dv h.p ⟨yc F,h3.1.f,?_⟩ h2;rw[AX];exact h3.2.2.1
theorem WX:sqf (cz [-2,0,1])=cz [-2,0,1]:=ZL aX
theorem iT:bx (cz [-2,0,1])=2:=by
 refine(P2.bx ?_).symm;rw[QJ];have h0:cz [-2,0,1] 0 = -2:=by decide +kernel
 have h1:cz [-2,0,1] 1=0:=by decide +kernel
 have e1:GN (cz [-2,0,1]) 1=2:=by
  show(if (0:Rat) < ab (cz [-2,0,1] 0 / ld (cz [-2,0,1]))then ab (cz [-2,0,1] 0 / ld (cz [-2,0,1]))else 0)=2;rw[h0,X8];decide +kernel
 have e2:GN (cz [-2,0,1]) (3 - 1)=2:=by
  show(if GN (cz [-2,0,1]) 1 < ab (cz [-2,0,1] 1 / ld (cz [-2,0,1]))then ab (cz [-2,0,1] 1 / ld (cz [-2,0,1]))else GN (cz [-2,0,1]) 1)=2;rw[e1,h1,X8];decide +kernel
 rw[e2];refine⟨by decide +kernel,fun i hi=>?_⟩
 match i with
 | 0=>decide +kernel
 | 1=>decide +kernel
theorem aY:rc (cz [-2,0,1]) 0 2=1/\rc (cz [-2,0,1]) (-4) 4=2/\rc (cz [-2,0,1]) (-4) 0=1/\rc (cz [-2,0,1]) 0 4=1:=by
 have hs:=aX;have e0:ev (cz [-2,0,1]) 0 = -2:=by rw[UC];decide +kernel
 have e2:ev (cz [-2,0,1]) 2=2:=by rw[UC];decide +kernel
 have e4:ev (cz [-2,0,1]) 4=14:=by rw[UC];decide +kernel
 have em:ev (cz [-2,0,1]) (-4)=14:=by rw[UC];decide +kernel
 have h1:1<=rc (cz [-2,0,1]) 0 2:=hs.st.change_counts (by decide +kernel) (by rw[e0];decide +kernel) (by rw[e0,e2];decide +kernel);have h2:1<=rc (cz [-2,0,1]) (-4) 0:=hs.st.change_counts (by decide +kernel) (by rw[em];decide +kernel) (by rw[e0,em];decide +kernel);have h3:=hs.sub (p:=0) (x:=0) (y:=2) (q:=4) (by decide +kernel) (by decide +kernel) (by decide +kernel);have h4:=Lh (cz [-2,0,1]) (-4) 0 4
 have h5:rc (cz [-2,0,1]) (-4) 4<=2:=by
  rw[<-La hs.st.k];unfold rts;have h6:V (Gp (cz [-2,0,1]) (pd (cz [-2,0,1])) (kn (cz [-2,0,1]))) (-4)<=kn (cz [-2,0,1]) - 1:=by
   have:=PX ((Gp (cz [-2,0,1]) (pd (cz [-2,0,1])) (kn (cz [-2,0,1]))).map fun F=>BB (ev F (-4)));rw[List.length_map,Et]at this;exact this
  obtain⟨S,hS⟩:=Dk hs.p.f;obtain⟨T,hT⟩:=Dk (Bw hs.p.f);obtain⟨K,q1,q2⟩:=GG hs.p.f (Bw hs.p.f) hs.p.z (CU hs.p.z) (S:=max S T) (fun i=>Nat.le_trans (hS i) (Nat.le_max_left _ _)) (fun i=>Nat.le_trans (hT i) (Nat.le_max_right _ _));rw[Gz hs.p.f,QJ]at q2;rw[q1.kn]at h6 ⊢;omega
 omega
theorem dZ(N:Nat):iso (rc (sqf (cz [-2,0,1]))) (N+1) (-(2:Rat)^bx (cz [-2,0,1])) ((2:Rat)^bx (cz [-2,0,1]))=[(-4,0),(0,4)]:=by
 rw[WX,iT];have e1:(2:Rat)^2=4:=by decide +kernel
 have e2 : -(2:Rat)^2 = -4:=by decide +kernel
 obtain⟨-,r1,r2,r3⟩:=aY;rw[e2,e1,Nl Aa Aa];have e3:((-4:Rat)+4) / 2=0:=by decide +kernel
 rw[e3,Ky r2,Ky r3];rfl
theorem SF.rc_deg{F:Nat->Rat}(hs:SF F)(p q:Rat):rc F p q<=((pl F - 1:Nat):Int):=by
 rw[<-La hs.st.k];unfold rts;have h6:V (Gp F (pd F) (kn F)) p<=kn F - 1:=by
  have:=PX ((Gp F (pd F) (kn F)).map fun F=>BB (ev F p));rw[List.length_map,Et]at this;exact this
 obtain⟨S,hS⟩:=Dk hs.p.f;obtain⟨T,hT⟩:=Dk (Bw hs.p.f);obtain⟨K,q1,q2⟩:=GG hs.p.f (Bw hs.p.f) hs.p.z (CU hs.p.z) (S:=max S T) (fun i=>Nat.le_trans (hS i) (Nat.le_max_left _ _)) (fun i=>Nat.le_trans (hT i) (Nat.le_max_right _ _));rw[Gz hs.p.f]at q2;rw[q1.kn]at h6 ⊢;omega
theorem Y6{F:Nat->Rat}(z:ZI F)(f:Ae F)(h0:F≠pz):pl (sqf F)<=pl F:=Dv.le (C8 z f h0).p.f f h0 (Ev z f h0)
noncomputable def hfp(R:Rat->Rat->Int)(c:Rat×Rat):Rat×Rat:=if R c.1 ((c.1+c.2) / 2)=1 then(c.1,(c.1+c.2) / 2)else((c.1+c.2) / 2,c.2)
noncomputable def Gc(R:Rat->Rat->Int)(p q:Rat):Nat->Rat×Rat
 | 0=>(p,q)
 | k+1=>hfp R (Gc R p q k)
theorem FU(R:Rat->Rat->Int)(p q:Rat):∀ k,Node p q k (Gc R p q k).1 (Gc R p q k).2
 | 0=>Node.root p q
 | k+1=>by
  have h:=(FU R p q k).half;show Node p q (k+1) (hfp R (Gc R p q k)).1 (hfp R (Gc R p q k)).2;unfold hfp
  split
  ·exact h.1
  ·exact h.2
theorem Zw{F:Nat->Rat}(h:SF F){c:Rat×Rat}(hc:c.1 < c.2)(h1:rc F c.1 c.2=1):rc F (hfp (rc F) c).1 (hfp (rc F) c).2=1:=by
 have a:=Lh F c.1 ((c.1+c.2) / 2) c.2;have b1:=h.nonneg (p:=c.1) (q:=(c.1+c.2) / 2) Af;have b2:=h.nonneg (p:=(c.1+c.2) / 2) (q:=c.2) Af;unfold hfp
 split
 ·assumption
 ·show rc F ((c.1+c.2) / 2) c.2=1
  omega
theorem PD{F:Nat->Rat}(h:SF F){p q:Rat}(hpq:p < q)(h1:rc F p q=1):∀ k,rc F (Gc (rc F) p q k).1 (Gc (rc F) p q k).2=1
 | 0=>h1
 | k+1=>Zw h ((FU (rc F) p q k).within hpq).2.1 (PD h hpq h1 k)
theorem VA{p q:Rat}{E b k:Nat}(hpq:p < q)(hp:ab p<=2^b - 1)(hq:ab q<=2^b - 1){x y:Rat}(hn:Node p q k x y)(hk:E+b+1<=k):ab x<=2^b - 1/\ab y<=2^b - 1/\x < y/\(y - x)*2^E<=1:=by
 obtain⟨w1,w2,w3⟩:=hn.within hpq;obtain⟨p1,p2⟩:=Fe.1 hp;obtain⟨q1,q2⟩:=Fe.1 hq;refine⟨Fe.2 ⟨Af,Af⟩,Fe.2 ⟨Af,Af⟩,w2,?_⟩;have hw:=hn.width;obtain⟨r,rfl⟩:∃ r,k=E+(b+1)+r:=⟨k - (E+(b+1)),Aa⟩
 rw[CZ,CZ,Rat.pow_succ]at hw;have h1:=KN r;have h2:=BP b;have h3:=BP E;have hd:0 < (y - x)*2^E:=Rat.mul_pos Af h3;have e1:(y - x)*2^E*(2^b*2)*2^r<=1*(2^b*2):=by
  have:(y - x)*2^E*(2^b*2)*2^r=q - p:=by rw[<-hw];grind
  rw[this];grind
 have hd2:0<=(y - x)*2^E*(2^b*2):=Rat.mul_nonneg (Std.le_of_lt hd) Af;have e2:(y - x)*2^E*(2^b*2)<=(y - x)*2^E*(2^b*2)*2^r:=by
  have:=Rat.mul_le_mul_of_nonneg_left h1 hd2;rw[Rat.mul_one]at this;exact this
 exact Rat.le_of_mul_le_mul_right (Std.le_trans e2 e1) Af
structure UV(F:Nat->Rat):Prop where
 z:ZI F
 f:Ae F
 n0:F≠pz
 d:∀ E,SF E->Dv E F->∀ i,qsz (E i)<=5
theorem Vv{D:Nat}(hD:D<=13):Nv 5 D 400<=1000000000:=by
 have hp:2^D<=8192:=Nat.le_trans (Nat.pow_le_pow_right Ab hD) Ab;have h1:(5+1)*2^D<=6*8192:=Nat.mul_le_mul Aa hp;have h2:(D+1)*((5+1)*2^D+1)<=14*49153:=Nat.mul_le_mul Aa Aa;have h5:Ik 5 D 400<=75509000:=by unfold Ik;omega
 have h6:D*Ik 5 D 400<=13*75509000:=Nat.mul_le_mul hD h5;unfold Nv PV Vm;omega
theorem UV.apart{F G:Nat->Rat}(hF:UV F)(hG:UV G)(hD:pl F+pl G<=13){x y:Rat}(hx:ab x<=2^400 - 1)(hy:ab y<=2^400 - 1)(hxy:x < y)(hd:(y - x)*2^1000000000<=1)(h1:rc (sqf F) x y=1)(h0:rc (sqf (Df F G)) x y=0):rc (sqf G) x y=0:=by
 have sF:=C8 hF.z hF.f hF.n0;have sG:=C8 hG.z hG.f hG.n0;rw[Zb hF.z hF.f hF.n0 hG.z hG.f hG.n0]at h0;obtain⟨U,V,sC,sU,sV,eW,eX,-,-,-,cUX,a1,a2⟩:=sF.meet sG;have b1:=a1 x y (Std.le_of_lt hxy);have dU:Dv U F:=Dv.trans ⟨Df (sqf F) (sqf G),sC.p.f,eW⟩ (Ev hF.z hF.f hF.n0);have dG:=Ev hG.z hG.f hG.n0;have pU:=Dv.le sU.p.f hF.f hF.n0 dU;have pG:=Dv.le sG.p.f hG.f hG.n0 dG;have hs:=Vv (D:=pl U+pl (sqf G)) Aa
 have h2:=Ce (K5 hs) (show 0<=y - x by grind);rcases Cx.sep sU sG cUX (hF.d U sU dU) (hG.d _ sG dG) rfl hx hy hxy (Std.le_trans h2 hd)with e | e
 ·omega
 ·exact e
theorem UV.stop{F G:Nat->Rat}(hF:UV F)(hG:UV G)(hD:pl F+pl G<=13){p q:Rat}(hpq:p < q)(hp:ab p<=2^400 - 1)(hq:ab q<=2^400 - 1)(h1:rc (sqf F) p q=1)(h0:rc (sqf (Df F G)) p q=0) :
  ∃ K,K<=1000001000/\rc (sqf G) (Gc (rc (sqf F)) p q K).1 (Gc (rc (sqf F)) p q K).2=0/\∀ j,j < K->rc (sqf G) (Gc (rc (sqf F)) p q j).1 (Gc (rc (sqf F)) p q j).2≠0:=by
 have hx:∃ K,K<=1000001000/\rc (sqf G) (Gc (rc (sqf F)) p q K).1 (Gc (rc (sqf F)) p q K).2=0:=by
  obtain⟨M,hM⟩:∃ M,M=1000001000:=⟨_,rfl⟩
  refine⟨M,Aa,?_⟩;have hn:=FU (rc (sqf F)) p q M;obtain⟨E,hE⟩:∃ E,E=1000000000:=⟨_,rfl⟩
  obtain⟨t1,t2,t3,t4⟩:=VA (E:=E) hpq hp hq hn Aa;rw[hE]at t4;have o:=PD (C8 hF.z hF.f hF.n0) hpq h1 M;obtain⟨w1,w2,w3⟩:=hn.within hpq;have kC:=EG hF.f hG.f hF.z hG.z;have sC:=C8 kC.2.1 kC.1 (KV hF.z hF.f hG.z hG.f hF.n0);have c1:=sC.sub w1 (Std.le_of_lt w2) w3;have c2:=sC.nonneg (Std.le_of_lt w2);exact hF.apart hG hD t1 t2 t3 t4 o Aa
 obtain⟨K,hK,e⟩:=hx;induction K using Nat.strongRecOn with
 | _ K ih =>
  by_cases hj:∃ j,j < K/\rc (sqf G) (Gc (rc (sqf F)) p q j).1 (Gc (rc (sqf F)) p q j).2=0
  ·obtain⟨j,h1,h2⟩:=hj
   exact ih j h1 Aa h2
  ·exact⟨K,hK,e,fun j hj' he=>hj ⟨j,hj',he⟩⟩
theorem NU.upd{base:Nat}{G:List Nat}{t:TypeId}{w w':World}{v:Value}{W:Nat->Rat}(h:NU base t w v W)(U:Cj G w w')(hG:∀ g∈G,g < base):NU base t w' v W:=by
 obtain⟨c,us,K,h1,h2,h3,h4⟩:=h;refine⟨c,us,K,h1,h2,h3,?_⟩;have hb:=BH.blk_ge h4.out;have hne:∀ g'∈blk c,g'∉G:=fun g' hg' hm=>by
  have:=hb g' hg';have:=hG g' hm;omega
 refine⟨BH.upd h4.out U hne fun _ _ q=>q,h4.len,fun g' hg' i c hc=>?_,fun i a b=>(h4.el i a b).upd U hG⟩;obtain⟨o,ho⟩:∃ o,w.heap[g']? = some o:=⟨_,Array.getElem?_eq_getElem (hb g' hg').2⟩
 have hk:=U.1 g' o (hne g' hg') ho;rw[World.cell?_of_block (hk.trans ho.symm)]at hc;exact h4.nb g' hg' i c hc
def fK(w:World)(g:Nat)(t:TypeId)(p q:Rat):Prop:=∃ b1 A1 n1 c1 b2 A2 n2 c2 b3 A3 n3 c3 b4 A4 n4 c4,Be w g t #[.bool b1,.slice A1 n1 c1,.bool b2,.slice A2 n2 c2,.bool b3,.slice A3 n3 c3,.bool b4,.slice A4 n4 c4]/\BN w (.agg #[.bool b1,.slice A1 n1 c1,.bool b2,.slice A2 n2 c2]) p/\BN w (.agg #[.bool b3,.slice A3 n3 c3,.bool b4,.slice A4 n4 c4]) q
theorem Bh.inj{w:World}{v:Value}{x y:Int}(h:Bh w v x)(k:Bh w v y):x=y:=by
 obtain⟨n,ds,⟨s,rfl,hd⟩,rfl,-⟩:=h;obtain⟨m,es,⟨t,e,he⟩,rfl,-⟩:=k;cases e;rw[hd.uniq he]
theorem BN.inj{w:World}{v:Value}{p q:Rat}(h:BN w v p)(k:BN w v q):p=q:=by
 obtain⟨b,A,n,c,b',A',n',c',x,y,rfl,h1,h2,-,-,rfl⟩:=h;obtain⟨d,B,m,e,d',B',m',e',x',y',k0,k1,k2,-,-,rfl⟩:=k;cases k0;rw[h1.inj k1,h2.inj k2]
theorem fK.inj{w:World}{g:Nat}{t:TypeId}{p q p' q':Rat}(h:fK w g t p q)(k:fK w g t p' q'):p=p'/\q=q':=by
 obtain⟨b1,A1,n1,c1,b2,A2,n2,c2,b3,A3,n3,c3,b4,A4,n4,c4,h1,h2,h3⟩:=h;obtain⟨d1,B1,m1,e1,d2,B2,m2,e2,d3,B3,m3,e3,d4,B4,m4,e4,k1,k2,k3⟩:=k;have e:=h1.1.symm.trans k1.1;cases e;exact⟨h2.inj k2,h3.inj k3⟩
def Ls(F G:Nat->Rat)(p q:Rat)(s:Int):Prop:=(G=pz/\s=0)\/(G≠pz/\rc (sqf (Df F G)) p q=1/\s=0) \/
 (G≠pz/\rc (sqf (Df F G)) p q≠1/\∃ K,rc (sqf G) (Gc (rc (sqf F)) p q K).1 (Gc (rc (sqf F)) p q K).2=0/\(∀ j,j < K->rc (sqf G) (Gc (rc (sqf F)) p q j).1 (Gc (rc (sqf F)) p q j).2≠0)/\s=Eb (ev G (Gc (rc (sqf F)) p q K).2))
theorem Ls.uniq{F G:Nat->Rat}{p q:Rat}{s s':Int}(h:Ls F G p q s)(k:Ls F G p q s'):s=s':=by
 rcases h with⟨a,b⟩ | ⟨a,b,c⟩ | ⟨a,b,K,c,d,e⟩<;>rcases k with⟨a',b'⟩ | ⟨a',b',c'⟩ | ⟨a',b',K',c',d',e'⟩
 ·rw[b,b']
 ·exact absurd a a'
 ·exact absurd a a'
 ·exact absurd a' a
 ·rw[c,c']
 ·exact absurd b b'
 ·exact absurd a' a
 ·exact absurd b' b
 ·rcases Nat.lt_trichotomy K K' with z | z | z
  ·exact absurd c (d' K z)
  ·subst z;rw[e,e']
  ·exact absurd c' (d K' z)
def Rm(F:Nat->Rat):Prop:=∃ D M,Pg F D M/\D<=20
structure kS(w:World)(v:Value)(P:Rat×Rat):Prop where
 out:V8 w v P.1 P.2
theorem kS.ext{w w':World}{v:Value}{P:Rat×Rat}(h:kS w v P)(e:Ext w w'):kS w' v P:=⟨h.out.ext e⟩
theorem ED{p q:Rat}:Eb (p - q)<=0↔p<=q:=by
 have h:=F4 (p:=p) (q:=q);by_cases hq:q < p
 ·rw[decide_eq_true hq]at h
  have:=of_decide_eq_true h;exact⟨fun _=>Aa,fun _=>Af⟩
 ·rw[decide_eq_false hq]at h
  have:=of_decide_eq_false h;exact⟨fun _=>Af,fun _=>Aa⟩
theorem Sa{p q:Rat}:Eb (p - q) > 0↔q < p:=by
 have h:=F4 (p:=p) (q:=q);exact⟨fun h1=>of_decide_eq_true (h▸decide_eq_true h1),fun h1=>of_decide_eq_true (h▸decide_eq_true h1)⟩
theorem GR{p q:Rat}:Eb (p - q) < 0↔p < q:=by
 have h:=RQ (p:=p) (q:=q);exact⟨fun h1=>of_decide_eq_true (h▸decide_eq_true h1),fun h1=>of_decide_eq_true (h▸decide_eq_true h1)⟩
theorem Kj.one{w:World}{cs:Array Value}{p q:Rat}(h:Kj w (.agg cs) p q):∃ b1 A1 n1 c1 b2 A2 n2 c2 b3 A3 n3 c3 b4 A4 n4 c4,cs=#[.bool b1,.slice A1 n1 c1,.bool b2,.slice A2 n2 c2,.bool b3,.slice A3 n3 c3,.bool b4,.slice A4 n4 c4]:=by
 obtain⟨b1,A1,n1,c1,b2,A2,n2,c2,b3,A3,n3,c3,b4,A4,n4,c4,h1⟩:=h.cells;injection h1 with h1;exact⟨_,_,_,_,_,_,_,_,_,_,_,_,_,_,_,_,h1⟩
theorem Ep.at_{base n c:Nat}{e:TypeId}{w:World}{A:Option Addr}{l:List (Rat×Rat)}(h:Ep base e w (.slice A n c) l){j:Nat}(hj:j < l.length) :
  ∃ g o b1 A1 n1 c1 b2 A2 n2 c2 b3 A3 n3 c3 b4 A4 n4 c4,A=some ⟨g,o,none⟩/\w.cell? ⟨g,o+j*8,none⟩=some (.bool b1)/\w.cell? ⟨g,o+j*8+1,none⟩=some (.slice A1 n1 c1)/\w.cell? ⟨g,o+j*8+2,none⟩=some (.bool b2)/\w.cell? ⟨g,o+j*8+3,none⟩=some (.slice A2 n2 c2) /\
   w.cell? ⟨g,o+j*8+4,none⟩=some (.bool b3)/\w.cell? ⟨g,o+j*8+5,none⟩=some (.slice A3 n3 c3)/\w.cell? ⟨g,o+j*8+6,none⟩=some (.bool b4)/\w.cell? ⟨g,o+j*8+7,none⟩=some (.slice A4 n4 c4) /\
   Kj w (.agg #[.bool b1,.slice A1 n1 c1,.bool b2,.slice A2 n2 c2,.bool b3,.slice A3 n3 c3,.bool b4,.slice A4 n4 c4]) l[j].1 l[j].2:=by
 obtain⟨A',c',e1,-,-,hA⟩:=BH.row h;have eA:A'=A:=by injection e1 with h1;exact h1.symm
 subst eA;obtain⟨g,o,ha,hb,hc⟩:=hA Aa;obtain⟨cs,q1,q2,q3⟩:=hc j hj;obtain⟨b1,A1,n1,c1,b2,A2,n2,c2,b3,A3,n3,c3,b4,A4,n4,c4,rfl⟩:=Kj.one q3;refine⟨g,o,b1,A1,n1,c1,b2,A2,n2,c2,b3,A3,n3,c3,b4,A4,n4,c4,ha,?_,?_,?_,?_,?_,?_,?_,?_,q3⟩
 ·exact q2 0 Ab
 ·exact q2 1 Ab
 ·exact q2 2 Ab
 ·exact q2 3 Ab
 ·exact q2 4 Ab
 ·exact q2 5 Ab
 ·exact q2 6 Ab
 ·exact q2 7 Ab
def Tt(w:World)(g:Nat)(vs:List (Value×List Int)):Prop:=∀ j (h:j < vs.length),w.cell? ⟨g,j,none⟩=some vs[j].1/\Ey 0 w vs[j].1 vs[j].2
theorem Tt.ext{w w':World}{g:Nat}{vs:List (Value×List Int)}(h:Tt w g vs)(e:Ext w w'):Tt w' g vs:=fun j hj=>⟨e.cell (h j hj).1,(h j hj).2.ext e⟩
theorem DZ.chnF{F:Nat->Rat}(h:DZ F):FW F 1 (pl F+pl (pd F)) 16384:=by
 have h3:=Gz h.f;have h4:=AQ h.f h.n0;have hD:pl F+pl (pd F)<=13:=by have:=h.p;omega
 have hp:2^(pl F+pl (pd F))<=2^13:=Nat.pow_le_pow_right Ab hD;have hm:(pl F+pl (pd F)+1)*(16384+1)<=14*16385:=Nat.mul_le_mul_right _ Aa;exact FW.of2 h.z h.f h.q (fun i=>BO (CU h.z) Ab (Nat.lt_of_le_of_lt (GV h.z h.f (n:=6) (by have:=h.p;omega) h.b i) Ab)) rfl Aa Aa Aa
theorem DZ.k{F:Nat->Rat}(h:DZ F):PG F (pd F) (kn F)/\kn F<=8:=by
 obtain⟨K,q1,q2⟩:=GG h.f (Bw h.f) h.z (CU h.z) h.chnF.s h.chnF.d;rw[q1.kn];have h3:=Gz h.f;have:=h.p;exact⟨q1,Aa⟩
def iZ(w:World)(g:Nat)(ls:List (Nat×Nat×Nat×Nat)):Prop:=∀ j (h:j < ls.length),∃ A1 c1 A2 c2 A3 c3 A4 c4,
 w.cell? ⟨g,j*8+1,none⟩=some (.slice A1 ls[j].1 c1)/\w.cell? ⟨g,j*8+3,none⟩=some (.slice A2 ls[j].2.1 c2) /\
 w.cell? ⟨g,j*8+5,none⟩=some (.slice A3 ls[j].2.2.1 c3)/\w.cell? ⟨g,j*8+7,none⟩=some (.slice A4 ls[j].2.2.2 c4) /\
 ls[j].1<=1000000000000/\ls[j].2.1<=1000000000000/\ls[j].2.2.1<=1000000000000/\ls[j].2.2.2<=1000000000000
def gU(ls:List (Nat×Nat×Nat×Nat))(r:Value):Prop:=∃ b:Bool,r = .bool b/\(b=true->∀ m∈ls,m.1+m.2.1+m.2.2.1+m.2.2.2<=12)
theorem EC.hasN{w:World}{v:Value}{x:Raw}{k:Nat}(h:EC w v x)(k1:x.2.1.length<=k)(k2:x.2.2.2.length<=k)(k0:1<=k)(k9:k<=274877906944):BN w v (Ju x)/\qsz (Ju x)<=k:=by
 obtain⟨A,n,c,A',n',c',rfl,h2,h3⟩:=h;have s1:=Ns h2;have s2:=Ns h3;have e1:=Nj x.1 x.2.1;have e2:=Nj x.2.2.1 x.2.2.2;exact⟨⟨_,A,n,c,_,A',n',c',_,_,rfl,⟨_,_,⟨_,rfl,h2⟩,rfl,Aa⟩,⟨_,_,⟨_,rfl,h3⟩,rfl,Aa⟩,by rw[e1];omega,by rw[e2];omega,rfl⟩,
  Dc (by rw[e1];omega) (by rw[e2];omega) k0⟩
def jN(w:World)(v:Value)(x y:Raw):Prop:=∃ b1 A1 c1 b2 A2 c2 b3 A3 c3 b4 A4 c4,
 v = .agg #[.bool b1,.slice A1 x.2.1.length c1,.bool b2,.slice A2 x.2.2.2.length c2,.bool b3,.slice A3 y.2.1.length c3,.bool b4,.slice A4 y.2.2.2.length c4] /\
 EC w (.agg #[.bool b1,.slice A1 x.2.1.length c1,.bool b2,.slice A2 x.2.2.2.length c2]) x/\EC w (.agg #[.bool b3,.slice A3 y.2.1.length c3,.bool b4,.slice A4 y.2.2.2.length c4]) y
theorem EC.lens{w:World}{b1 b2:Value}{A1 A2:Option Addr}{n1 c1 n2 c2:Nat}{x:Raw}(h:EC w (.agg #[b1,.slice A1 n1 c1,b2,.slice A2 n2 c2]) x):n1=x.2.1.length/\n2=x.2.2.2.length/\b1 = .bool x.1/\b2 = .bool x.2.2.1:=by
 obtain⟨A,n,c,A',n',c',e,h2,h3⟩:=h;simp at e;obtain⟨rfl,⟨rfl,rfl,rfl⟩,rfl,rfl,rfl,rfl⟩:=e;obtain⟨A,c,e,-⟩:=h2;obtain⟨A',c',e',-⟩:=h3;injection e with _ e _;injection e' with _ e' _;exact⟨e,e',rfl,rfl⟩
theorem rc_all{F:Nat->Rat}(z:ZI F)(f:Ae F)(h0:F≠pz){p q:Rat}(hpq:p<=q):rc (sqf F) p q<=rc (sqf F) (-(2:Rat)^bx F) ((2:Rat)^bx F):=by
 obtain⟨Q,fQ,e⟩:=Ev z f h0;have hb:=(iM F).1;have hld:=CW f h0;have hpos:=Sg.2 hld;have hc:∀ i,i < pl F - 1->ab (F i)<=ab (ld F)*((2:Rat)^bx F - 1):=fun i hi=>by
  have h1:=Xe F hi;have e1:F i=ld F*(F i / ld F):=by grind
  have e2:ab (F i)=ab (ld F)*ab (F i / ld F):=by rw[<-Cg,<-e1]
  rw[e2];exact Rat.mul_le_mul_of_nonneg_left Af (Aj _)
 have h1:(1:Rat)<=(2:Rat)^bx F:=by have:=FI F (pl F - 1);grind
 have:=(C8 z f h0).st.total f h0 fQ e h1 hc hpq;unfold rc rt;omega
theorem DZ.rc_all{F:Nat->Rat}(h:DZ F){p q:Rat}(hpq:p<=q):rc (sqf F) p q<=rc (sqf F) (-(2:Rat)^bx F) ((2:Rat)^bx F):=Hp.rc_all h.z h.f h.n0 hpq
def B7:Nat:=7*(4095*7*15^7*15^7)
theorem DZ.div{F E:Nat->Rat}(h:DZ F)(hE:Bn E)(hd:Dv E F)(i:Nat):(E i).num.natAbs<=B7:=by
 have hP:=Bn.pp h.z h.f h.n0;have hpl:=DR h.z h.f;have h1:=Pi hP.z hP.f hP.n hE.z hE.f (hP.zdv hE ((DK h.z h.f).2 hd)) (n:=7) (by rw[hpl];exact h.p) (Py hP.z (PQ h.z h.f h.n0 h.b));refine Pf hE.z (fun i=>?_) i;refine Std.le_trans (h1 i) ?_;have e:(1:Rat)+2*((7:Nat):Rat)=((15:Nat):Rat):=by exact_mod_cast(rfl:1+2*7=15)
 rw[e,Gs];have:((7:Nat):Rat)*(((4095:Nat):Rat)*((7:Nat):Rat)*((15^7:Nat):Rat)*((15^7:Nat):Rat))=((7*(4095*7*15^7*15^7):Nat):Rat):=Nf 7 4095 7 _;rw[this];exact Std.le_refl _
structure Mid(F:Nat->Rat):Prop where
 z:ZI F
 f:Ae F
 n0:F≠pz
 p:pl F<=7
 c:cn F<=4095
 d:∀ E,Bn E->Dv E F->∀ i,(E i).num.natAbs<=B7
theorem DZ.cnt{F:Nat->Rat}(h:DZ F):cn F<=4095:=by
 have hp:=AQ h.f h.n0;have ht:=EH h.f hp;have hd:=FP h.f (pl F - 1);have hn:(F (pl F - 1)).num≠0:=fun e=>ht (by rw[h.z.num,e];rfl);have h1:Hp.cn F<=(F (pl F - 1)).num.natAbs:=Nat.le_of_dvd Aa (by have:=Int.natAbs_dvd_natAbs.2 hd;simpa using this);exact Nat.le_trans h1 (h.b _)
theorem OU{F G:Nat->Rat}(zF:ZI F)(fF:Ae F)(zG:ZI G)(fG:Ae G):Dv (Df F G) F:=(GD _).trans (EG fF fG zF zG).2.2.2.2.2.2.1
theorem Mid.gcd{F G:Nat->Rat}(h:Mid F)(zG:ZI G)(fG:Ae G):Mid (Df F G):=by
 have k:=EG h.f fG h.z zG;have hd:=OU h.z h.f zG fG;refine⟨k.2.1,k.1,KV h.z h.f zG fG h.n0,Nat.le_trans (Dv.le k.1 h.f h.n0 hd) h.p,?_,fun E a b=>h.d E a (b.trans hd)⟩;rw[k.2.2.2.1];exact Nat.le_trans (Nat.le_of_dvd (Nat.pos_of_ne_zero (Jw h.z h.f h.n0)) (Nat.gcd_dvd_left _ _)) h.c
theorem Mid.ppn{F:Nat->Rat}(h:Mid F)(i:Nat):(pp F i).num.natAbs<=B7:=h.d _ (Bn.pp h.z h.f h.n0) ((DK h.z h.f).1 (Dv.refl _)) i
theorem Mid.coef{F:Nat->Rat}(h:Mid F)(i:Nat):(F i).num.natAbs<=4095*B7:=by
 have e:(F i).num=pcn F*(pp F i).num:=by
  have h1:=NG h.z h.f h.n0 i;have h2:(pp F i).num=(F i).num / pcn F:=by rw[h1];rfl
  rw[h2,Int.mul_ediv_cancel' (J5 h.f i)]
 rw[e,Int.natAbs_mul,Fj];exact Nat.mul_le_mul h.c (h.ppn i)
theorem Mid.q{F:Nat->Rat}(h:Mid F)(i:Nat):qsz (F i)<=3:=BO h.z Ab (Nat.lt_of_le_of_lt (h.coef i) (by decide +kernel))
theorem Mid.sqn{F:Nat->Rat}(h:Mid F)(i:Nat):(sqf F i).num.natAbs<=B7:=h.d _ (C8 h.z h.f h.n0).p (Ev h.z h.f h.n0) i
theorem Mid.chn{F:Nat->Rat}(h:Mid F):FW (sqf F) 3 (pl (sqf F)+pl (pd (sqf F))) 32768/\pl (sqf F)+pl (pd (sqf F))<=13:=by
 have h1:=h.sqn;have h2:=Nat.le_trans (Y6 h.z h.f h.n0) h.p;have hS:=C8 h.z h.f h.n0;have h3:=Gz hS.p.f;have h4:=AQ hS.p.f hS.p.n;have hD:pl (sqf F)+pl (pd (sqf F))<=13:=by omega
 have hp:2^(pl (sqf F)+pl (pd (sqf F)))<=2^13:=Nat.pow_le_pow_right Ab hD;have hm:(pl (sqf F)+pl (pd (sqf F))+1)*(32768+1)<=14*32769:=Nat.mul_le_mul_right _ Aa;refine⟨FW.of2 hS.p.z hS.p.f (fun i=>BO hS.p.z Ab (Nat.lt_of_le_of_lt (h1 i) (by decide +kernel))) (fun i=>BO (CU hS.p.z) Ab (Nat.lt_of_le_of_lt (GV hS.p.z hS.p.f (n:=6) Aa h1 i) (by decide +kernel))) rfl Aa Aa Aa,hD⟩
theorem Mid.sim{F:Nat->Rat}(h:Mid F):Qn F 3 7 32768 36000:=by
 have hP:=Bn.pp h.z h.f h.n0;have hpl:=DR h.z h.f;have hpn:=h.ppn;exact⟨h.z,h.f,h.n0,h.q,fun i=>BO (CU hP.z) Ab (Nat.lt_of_le_of_lt (GV hP.z hP.f (n:=6) (by rw[hpl];exact h.p) hpn i) (by decide +kernel)),
  fun i=>OX hP (n:=7) (s:=3) (by rw[hpl];exact h.p) Ab (fun i=>BO hP.z Ab (Nat.lt_of_le_of_lt (hpn i) (by decide +kernel))) Ab i,h.p,Ab,Ab,Ab,Ab⟩
theorem Mid.err{F:Nat->Rat}(h:Mid F):D7 F=0:=by
 refine J7 h.n0 (by have:=h.p;omega) fun⟨i,b,h1,h2⟩=>?_;have:=h1.le (m:=96) (Nat.lt_of_le_of_lt (h.coef i) (by decide +kernel));omega
theorem Mid.pg{F:Nat->Rat}(h:Mid F):Pg F (pl (sqf F)+pl (pd (sqf F))) 32768:=
 ⟨h.z,h.f,h.n0,h.err,fun i=>Nat.le_trans (h.q i) Ab,by have:=h.p;omega,⟨3,7,32768,36000,h.sim⟩,⟨3,h.chn.1⟩⟩
theorem Pq{F G:Nat->Rat}(hF:Mid F)(zG:ZI G)(fG:Ae G){p q:Rat}(hpq:p<=q):0<=rc (sqf (Df F G)) p q/\rc (sqf (Df F G)) p q<=rc (sqf F) p q:=by
 have hC:=hF.gcd zG fG;have sC:=C8 hC.z hC.f hC.n0;have sF:=C8 hF.z hF.f hF.n0;exact⟨sC.nonneg hpq,sF.rc_le sC.p (G9 hF.z hF.f hF.n0 sC ((Ev hC.z hC.f hC.n0).trans (OU hF.z hF.f zG fG))) hpq⟩
theorem Yw{p q:Rat}(hpq:p < q):∀(n:Nat) {P:Nat->Rat},Bn P->pl P<=n->rc (y0 P) p q=0->∀ x y,p < x->x<=y->y<=q->ev P x≠0/\BB (ev P y)=BB (ev P x):=by
 intro n;induction n with
 | zero=>intro P hP hn;have:=hP.pos;omega
 | succ n ih =>
  intro P hP hn h0 x y hx hxy hy;obtain⟨hC,hW,e,-,-⟩:=Ec hP;obtain⟨N,hN⟩:=Uy hP;have sW:=Wn hP;obtain⟨a1,a2⟩:=sW.free h0 hx hxy hy;by_cases h1:pl (yc P)<=1
  ·have e1:=hC.one h1
   have e2:P=y0 P:=by
    conv=>lhs;rw[e,e1,AX,Ck]
   rw[e2];exact⟨a1,a2⟩
  ·have hl:pl (yc P)<=n:=by
    have h2:=Ee hW.f hC.f hW.n hC.n;rw[<-e]at h2;have h3:1 < pl (y0 P):=by
     rcases Nat.lt_or_ge 1 (pl (y0 P))with z | z
     ·exact z
     ·exfalso
      rw[hW.one z,YR]at hN;have h4:=Dv.le hC.f Di (fun e=>by have:=GI.pos;rw[e,BJ]at this;omega) hN;have h5:pl pone<=1:=BX DX;omega
    omega
   have sE:=Wn hC;obtain⟨gC,gW,eC,-,-⟩:=Ec hC;have d1:Dv (y0 (yc P)) P:=by
    refine Dv.trans (E:=yc P) ⟨yc (yc P),gC.f,?_⟩ ⟨y0 P,hW.f,e⟩
    conv=>lhs;rw[eC,AX]
   have d2:=SH sE hP d1;have r1:=sW.rc_le sE.p d2 (Std.le_of_lt hpq);have r2:=sE.nonneg (Std.le_of_lt hpq);obtain⟨b1,b2⟩:=ih hC hl Aa x y hx hxy hy;have ee:∀ z,ev P z=ev (y0 P) z*ev (yc P) z:=fun z=>by
    conv=>lhs;rw[e]
    exact Ei hW.f hC.f z
   rw[ee,ee];refine⟨fun h=>?_,?_⟩
   ·rcases Rat.mul_eq_zero.1 h with z | z
    ·exact a1 z
    ·exact b1 z
   ·rw[Fg,Fg,a2,b2]
theorem Yy{F:Nat->Rat}(z:ZI F)(f:Ae F)(n0:F≠pz){p q:Rat}(hpq:p < q)(h0:rc (sqf F) p q=0){x y:Rat}(hx:p < x)(hxy:x<=y)(hy:y<=q):ev F x≠0/\Eb (ev F y)=Eb (ev F x):=by
 have hP:=Bn.pp z f n0;obtain⟨a1,a2⟩:=Yw hpq _ hP (Nat.le_refl _) h0 x y hx hxy hy;have hn:(1:Rat) / (pcn F:Rat)≠0:=KX (by have:=Ew z f n0;exact_mod_cast this);have e:∀ t,ev (pp F) t=(1:Rat) / (pcn F:Rat)*ev F t:=fun t=>FM _ f t;rw[e]at a1;rw[e,e,Fg,Fg]at a2;rw[Fh,Fh];exact⟨fun h=>a1 (by rw[h,Rat.mul_zero]),Int.eq_of_mul_eq_mul_left (N9 hn) a2⟩
theorem aT{F G:Nat->Rat}(f:Ae F)(g:Ae G)(n:F≠pz)(m:G≠pz):cv F G≠pz:=fun e=>by
 have h:=Ee f g n m;have h1:=AQ f n;have h2:=AQ g m;rw[e,BJ]at h;omega
theorem Zj{G H:Nat->Rat}(zG:ZI G)(fG:Ae G)(nG:G≠pz)(zH:ZI H)(fH:Ae H)(nH:H≠pz){p q:Rat}(hpq:p<=q)(h1:rc (sqf G) p q=0)(h2:rc (sqf H) p q=0):rc (sqf (cv G H)) p q=0:=by
 have zP:=zG.cv zH;have fP:=fG.cv fH;have nP:=aT fG fH nG nH;have sW:=C8 zP fP nP;have sX:=C8 zG fG nG;have sH:=C8 zH fH nH;obtain⟨U,V,sC,sU,sV,eW,eX,cCU,-,-,cUX,-⟩:=sW.meet sX;have hP:=Bn.pp zG fG nG;obtain⟨hC,hW,e,-,-⟩:=Ec hP;obtain⟨N,Q,fQ,eQ⟩:=Uy hP;have dG:Dv G (pw (sqf G) (N+1)):=by
  refine Dv.trans ((DK zG fG).2 (Dv.refl G)) ⟨Q,fQ,?_⟩;show cv (pw (y0 (pp G)) N) (y0 (pp G))=cv Q (pp G);rw[eQ,Ai];congr 1;rw[AX,<-e]
 have dU:Dv U (cv G H):=Dv.trans ⟨Df (sqf (cv G H)) (sqf G),sC.p.f,eW⟩ (Ev zP fP nP);have dU2:Dv U (cv (pw (sqf G) (N+1)) H):=by
  obtain⟨R,fR,eR⟩:=dG;refine dU.trans ⟨R,fR,?_⟩;rw[eR,Ai]
 have fpw:=Ni sX.p.f (N+1);have cU:=Cx.pw sU.p.f sX.p.f cUX (N+1);have dUH:=cU.euclid fH dU2;have hr:=SF.mul sC sU (by rw[<-eW];exact sW) cCU hpq;rw[<-eW]at hr;have r1:=sX.rc_le sC.p ⟨V,sV.p.f,by rw[AX];exact eX⟩ hpq;have r2:=sH.rc_le sU.p (G9 zH fH nH sU dUH) hpq;have r3:=sC.nonneg hpq;have r4:=sU.nonneg hpq;omega
theorem Ul(R:Rat->Rat->Int)(p q:Rat)(k:Nat):∀ d,Gc R p q (k+d)=Gc R (Gc R p q k).1 (Gc R p q k).2 d
 | 0=>rfl
 | d+1=>by
  show hfp R (Gc R p q (k+d))=hfp R (Gc R (Gc R p q k).1 (Gc R p q k).2 d);rw[Ul R p q k d]
theorem SE{R:Rat->Rat->Int}{p q:Rat}(hpq:p < q){k n:Nat}(h:k<=n):(Gc R p q k).1<=(Gc R p q n).1/\(Gc R p q n).1 < (Gc R p q n).2/\(Gc R p q n).2<=(Gc R p q k).2:=by
 obtain⟨d,rfl⟩:∃ d,n=k+d:=⟨n - k,Aa⟩
 rw[Ul];exact(FU R _ _ d).within ((FU R p q k).within hpq).2.1
theorem Yd{W C:Nat->Rat}(sW:SF W)(hc:∀ x y,x<=y->0<=rc C x y/\rc C x y<=rc W x y){p q:Rat}(hpq:p < q)(h1:rc W p q=1)(hC:rc C p q=1):∀ k,rc C (Gc (rc W) p q k).1 (Gc (rc W) p q k).2=1
 | 0=>hC
 | k+1=>by
  have ih:=Yd sW hc hpq h1 hC k;have ho:=PD sW hpq h1 k;have hw:=((FU (rc W) p q k).within hpq).2.1;show rc C (hfp (rc W) (Gc (rc W) p q k)).1 (hfp (rc W) (Gc (rc W) p q k)).2=1;obtain⟨c,hce⟩:∃ c,c=Gc (rc W) p q k:=⟨_,rfl⟩
  rw[<-hce]at ih ho hw ⊢;have a1:=Lh C c.1 ((c.1+c.2) / 2) c.2;have a2:=Lh W c.1 ((c.1+c.2) / 2) c.2;have b1:=hc c.1 ((c.1+c.2) / 2) Af;have b2:=hc ((c.1+c.2) / 2) c.2 Af;unfold hfp
  split
  ·show rc C c.1 ((c.1+c.2) / 2)=1
   omega
  ·show rc C ((c.1+c.2) / 2) c.2=1
   omega
theorem Us{F G H:Nat->Rat}(zF:ZI F)(fF:Ae F)(nF:F≠pz)(zG:ZI G)(fG:Ae G)(zH:ZI H)(fH:Ae H)(hd:Dv G H){p q:Rat}(hpq:p<=q):rc (sqf (Df F G)) p q<=rc (sqf (Df F H)) p q:=by
 have k1:=EG fF fG zF zG;have k2:=EG fF fH zF zH;have n1:=KV zF fF zG fG nF;have n2:=KV zF fF zH fH nF;have s1:=C8 k1.2.1 k1.1 n1;have s2:=C8 k2.2.1 k2.1 n2;refine s2.rc_le s1.p (G9 k2.2.1 k2.1 n2 s1 ?_) hpq;have d0:=Ev k1.2.1 k1.1 n1;have d1:=d0.trans (OU zF fF zG fG);have d2:=d0.trans ((GD _).trans k1.2.2.2.2.2.2.2.1) |>.trans hd
 exact(k2.2.2.2.2.2.2.2.2 _ s1.p.f d1 d2).trans (GA k2.1)
theorem Ls.mul{F G H:Nat->Rat}(hF:Mid F)(zG:ZI G)(fG:Ae G)(zH:ZI H)(fH:Ae H){p q:Rat}(hpq:p < q)(h1:rc (sqf F) p q=1){s t u:Int}(hs:Ls F G p q s)(ht:Ls F H p q t)(hu:Ls F (cv G H) p q u):u=s*t:=by
 have sF:=C8 hF.z hF.f hF.n0;have z0:∀ {u:Int},Ls F pz p q u->u=0:=fun {u} h=>by
  rcases h with⟨_,b⟩ | ⟨a,_,_⟩ | ⟨a,_⟩
  ·exact b
  ·exact absurd rfl a
  ·exact absurd rfl a
 by_cases nG:G=pz
 ·subst nG
  rw[Cv]at hu;rw[z0 hs,z0 hu,Int.zero_mul]
 by_cases nH:H=pz
 ·subst nH
  rw[Jz]at hu;rw[z0 ht,z0 hu,Int.mul_zero]
 have zP:=zG.cv zH;have fP:=fG.cv fH;have nP:=aT fG fH nG nH;have dG:Dv G (cv G H):=⟨H,fH,AX G H⟩
 have dH:Dv H (cv G H):=⟨G,fG,rfl⟩
 have le:=Std.le_of_lt hpq;have gG:=Pq hF zG fG le;have gH:=Pq hF zH fH le;have gP:=Pq hF zP fP le;rw[h1]at gG gH gP;have cG:=Us hF.z hF.f hF.n0 zG fG zP fP dG le;have cH:=Us hF.z hF.f hF.n0 zH fH zP fP dH le;rcases hu with⟨a,-⟩ | ⟨-,b,rfl⟩ | ⟨-,b,K,k1,-,rfl⟩
 ·exact absurd a nP
 ·rcases hs with⟨a,-⟩ | ⟨-,-,rfl⟩ | ⟨-,bG,K1,r1,-,rfl⟩
  ·exact absurd a nG
  ·rw[Int.zero_mul]
  rcases ht with⟨a,-⟩ | ⟨-,-,rfl⟩ | ⟨-,bH,K2,r2,-,rfl⟩
  ·exact absurd a nH
  ·rw[Int.mul_zero]
  exfalso;obtain⟨K,hK⟩:∃ K,K=max K1 K2:=⟨_,rfl⟩
  obtain⟨w1,w2,w3⟩:=SE (R:=rc (sqf F)) hpq (show K1<=K by omega);obtain⟨v1,v2,v3⟩:=SE (R:=rc (sqf F)) hpq (show K2<=K by omega);have sG:=C8 zG fG nG;have sH:=C8 zH fH nH;have e1:=sG.sub w1 (Std.le_of_lt w2) w3;have e2:=sH.sub v1 (Std.le_of_lt v2) v3;have e3:=sG.nonneg (Std.le_of_lt w2);have e4:=sH.nonneg (Std.le_of_lt w2);have e5:=Zj zG fG nG zH fH nH (Std.le_of_lt w2) Aa Aa;have kC:=EG hF.f fP hF.z zP
  have nC:=KV hF.z hF.f zP fP hF.n0;have sC:=C8 kC.2.1 kC.1 nC;have sP:=C8 zP fP nP;have e6:=Yd sF (fun x y hxy=>Pq hF zP fP hxy) hpq h1 b K;have e7:=sP.rc_le sC.p (G9 zP fP nP sC ((Ev kC.2.1 kC.1 nC).trans ((GD _).trans kC.2.2.2.2.2.2.2.1))) (Std.le_of_lt w2);omega
 ·rcases hs with⟨a,-⟩ | ⟨-,bG,-⟩ | ⟨-,bG,K1,r1,-,rfl⟩
  ·exact absurd a nG
  ·omega
  rcases ht with⟨a,-⟩ | ⟨-,bH,-⟩ | ⟨-,bH,K2,r2,-,rfl⟩
  ·exact absurd a nH
  ·omega
  obtain⟨n,hn⟩:∃ n,n=max K (max K1 K2):=⟨_,rfl⟩
  have key:∀(E:Nat->Rat) (k:Nat),ZI E->Ae E->E≠pz->k<=n->rc (sqf E) (Gc (rc (sqf F)) p q k).1 (Gc (rc (sqf F)) p q k).2=0->Eb (ev E (Gc (rc (sqf F)) p q k).2)=Eb (ev E (Gc (rc (sqf F)) p q n).2):=fun E k zE fE nE hk h0=>by
   obtain⟨w1,w2,w3⟩:=SE (R:=rc (sqf F)) hpq hk;have w0:=((FU (rc (sqf F)) p q k).within hpq).2.1;exact(Yy zE fE nE w0 h0 (x:=(Gc (rc (sqf F)) p q n).2) Af w3 (Std.le_refl _)).2
  rw[key _ K zP fP nP Aa k1,key G K1 zG fG nG Aa r1,key H K2 zH fH nH Aa r2,Ei fG fH,Fh,Fh,Fh,Fg]
theorem Cx.plus{A X Y:Nat->Rat}(fA:Ae A)(fY:Ae Y)(c:Cx A X):Cx A (pad X (cv A Y)):=by
 obtain⟨U,V,fU,fV,h⟩:=c;refine⟨pad U (psc (-1) (cv V Y)),V,fU.pad ((fV.cv fY).psc _),fV,?_⟩;rw[<-h,D5,F8,Cz,Ai,AX Y A,<-Ai]
 funext i
 simp only[pad,psc];grind
theorem SF.cv{A B:Nat->Rat}(hA:SF A)(hB:SF B)(c:Cx A B):SF (cv A B):=by
 refine⟨hA.p.mul hB.p,?_⟩;have fA:=hA.p.f;have fB:=hB.p.f;have dA:=Bw fA;have dB:=Bw fB;have e:=Kk A B;have fP:=fA.cv fB;have fD:Ae (pd (Hp.cv A B)):=Bw fP;have c1:Cx A (pd (Hp.cv A B)):=by
  rw[e];exact Cx.plus fA dB (Cx.mul fA dA fB hA.c c)
 have c2:Cx B (pd (Hp.cv A B)):=by
  rw[e];have h:=Cx.plus fB dA (Cx.mul fB dB fA hB.c c.symm);have e2:pad (Hp.cv (pd B) A) (Hp.cv B (pd A))=pad (Hp.cv (pd A) B) (Hp.cv A (pd B)):=by
   rw[AX (pd B) A,AX B (pd A)]
   funext i
   show _+_=_+_;exact Rat.add_comm _ _
  rw[e2]at h;exact h
 exact(Cx.mul fD fA fB c1.symm c2.symm).symm
theorem iW{E W:Nat->Rat}(hE:SF E)(hW:SF W){n:Nat}(h:Dv E (pw W n)):Dv E W:=by
 obtain⟨hH,z1,z2,d1,d2,-⟩:=hE.p.gcd hW.p.z hW.p.f;obtain⟨f1,f2,f3,f4⟩:=hE.factor hH z1;have h2:Cx (pq E (Df E W)) W:=by
  refine Cx.of_gcd f2.p hW.p.z hW.p.f ?_;obtain⟨kG,-,-,g1,g2,-⟩:=f2.p.gcd hW.p.z hW.p.f;have g3:Dv (Df (pq E (Df E W)) W) E:=g1.trans ⟨Df E W,hH.f,f4⟩;have g4:Dv (Df (pq E (Df E W)) W) (Df E W):=by
   have:=(EG hE.p.f hW.p.f hE.p.z hW.p.z).2.2.2.2.2.2.2.2 _ kG.f g3 g2;exact this.trans (GA hH.f)
  have:=Cx.self kG.f ((f3.dv g4).symm.dv g1);omega
 have h3:=Cx.pw f2.p.f hW.p.f h2 n;have h4:Dv (pq E (Df E W)) (pw W n):=Dv.trans ⟨Df E W,hH.f,f4⟩ h;have h5:=f2.p.one (by have:=Cx.self f2.p.f (h3.symm.dv h4);omega);rw[h5,I4]at f4;have:Dv (Df E W) W:=d2;rw[<-f4]at this;exact this
def Cw(r:Rat):List Int:=[-r.num,(r.den:Int)]
theorem jY(r:Rat):cz (Cw r) 0 = -(r.num:Rat):=by rw[Cb (by simp[Cw])];show((-r.num:Int):Rat)=_;push_cast;rfl
theorem YQ(r:Rat):cz (Cw r) 1=(r.den:Rat):=by rw[Cb (by simp[Cw])];rfl
theorem bO(r:Rat)(i:Nat):cz (Cw r) (i+2)=0:=Iw (by simp[Cw])
theorem Mr(r:Rat):(0:Rat) < (r.den:Rat):=by exact_mod_cast r.den_pos
theorem MV(r:Rat):pl (cz (Cw r))=2:=Jr (Ct (Cw r)) fun _=>by
 show cz (Cw r) 1≠0;rw[YQ];have:=Mr r;grind
theorem aF(r:Rat):cz (Cw r)≠pz:=fun e=>by have:=MV r;rw[e,BJ]at this;omega
theorem O8(r x:Rat):ev (cz (Cw r)) x=(r.den:Rat)*(x - r):=by
 rw[EA (Ct (Cw r)) x];show cz (Cw r) 0+x*(cz (Cw r) 1+x*0)=_;rw[jY,YQ];have e:=Gn r;have hd:=Mr r;generalize (r.den:Rat)=d at *;generalize (r.num:Rat)=n at *;have h':r*d=n:=by rw[e];grind
 grind
theorem iQ(r:Rat):ld (cz (Cw r))=(r.den:Rat):=by unfold ld;rw[MV];exact YQ r
theorem MJ(r:Rat):Bn (cz (Cw r)):=by
 refine⟨ZI.cz _,Ae.cz _,aF r,by rw[iQ];exact Mr r,?_⟩;have h0:=FP (F:=cz (Cw r)) (Ae.cz _) 0;have h1:=FP (F:=cz (Cw r)) (Ae.cz _) 1;have e0:(cz (Cw r) 0).num = -r.num:=by rw[Cb (by simp[Cw])];rfl
 have e1:(cz (Cw r) 1).num=(r.den:Int):=by rw[Cb (by simp[Cw])];rfl
 rw[e0]at h0;rw[e1]at h1;have a0:cn (cz (Cw r))∣r.num.natAbs:=by have:=Int.natAbs_dvd_natAbs.2 (Int.dvd_neg.1 h0);simpa using this
 have a1:cn (cz (Cw r))∣r.den:=Int.natCast_dvd_natCast.1 h1;have:=Nat.dvd_gcd a0 a1;rw[r.reduced]at this;exact Nat.dvd_one.1 this
theorem XI{r:Rat}{W:Nat->Rat}(zW:ZI W)(fW:Ae W)(h:ev W r≠0):Cx (cz (Cw r)) W:=by
 have hL:=MJ r;obtain⟨hD,z1,-,d1,d2,-⟩:=hL.gcd zW fW;refine Cx.of_gcd hL zW fW ?_;rcases Nat.lt_or_ge 1 (pl (Df (cz (Cw r)) W))with a | a
 ·exfalso
  obtain⟨hQ,e⟩:=hL.quot hD z1;have h1:=Ee hQ.f hD.f hQ.n hD.n;rw[<-e,MV]at h1;have h2:=hQ.one Aa;rw[h2,Ck]at e;rw[<-e]at d2;obtain⟨Q,fQ,e2⟩:=d2;refine h ?_;rw[e2,Ei fQ (Ae.cz _),O8];grind
 ·exact a
theorem j6{r:Rat}{W:Nat->Rat}(zW:ZI W)(fW:Ae W)(h:ev W r=0):Dv (cz (Cw r)) W:=by
 have hL:=MJ r;obtain⟨hD,z1,-,d1,d2,-⟩:=hL.gcd zW fW;rcases Nat.lt_or_ge 1 (pl (Df (cz (Cw r)) W))with a | a
 ·obtain⟨hQ,e⟩:=hL.quot hD z1
  have h1:=Ee hQ.f hD.f hQ.n hD.n;rw[<-e,MV]at h1;have h2:=hQ.one Aa;rw[h2,Ck]at e;rw[<-e]at d2;exact d2
 ·exfalso
  obtain⟨U,V,fU,fV,e⟩:=Cx.of_gcd hL zW fW a;have h1:=M4 r;rw[<-e,IK (fU.cv (Ae.cz _)) (fV.cv fW),Ei fU (Ae.cz _),Ei fV fW,O8,h]at h1;grind
theorem XB(r:Rat):SF (cz (Cw r)):=by
 have hL:=MJ r;refine⟨hL,Cx.of_gcd hL (CU hL.z) (Bw hL.f) ?_⟩;have h0:pl (pd (cz (Cw r)))=1:=by rw[Gz hL.f,MV]
 have hn:pd (cz (Cw r))≠pz:=fun e=>by rw[e,BJ]at h0;omega
 obtain⟨hD,-,-,-,d2,-⟩:=hL.gcd (CU hL.z) (Bw hL.f);have:=Dv.le hD.f (Bw hL.f) hn d2;omega
theorem SF.flat{F:Nat->Rat}(h:SF F){a b ε:Rat}(hab:a<=b)(hε:0 < ε)(hf:∀ z,a<=z->z<=b->ε<=ab (ev F z)):rc F a b=0:=by
 have:=h.st.flat hab hε hf;show(vx F (kn F) a:Int) - (vx F (kn F) b:Int)=0;omega
theorem iL(r:Rat){p q:Rat}(hpq:p<=q):rc (cz (Cw r)) p q=if p < r/\r<=q then 1 else 0:=by
 have hS:=XB r;have hd:=Mr r;have le1:∀ u v,rc (cz (Cw r)) u v<=1:=fun u v=>by
  have:=hS.rc_deg u v;rw[MV]at this;exact this
 have hz:ev (cz (Cw r)) r=0:=by rw[O8];grind
 split
 ·rename_i h
  have h1:1<=rc (cz (Cw r)) p q:=hS.st.zero_counts h.1 h.2 hz;have:=le1 p q;omega
 ·rename_i h
  have hn:=hS.nonneg hpq;rcases Std.lt_trichotomy r p with a | a | a
  ·refine hS.flat hpq (ε:=(r.den:Rat)*(p - r)) (Rat.mul_pos hd Af) fun z h1 h2=>?_
   rw[O8];have h3:=Ce (show p - r<=z - r by grind) (Std.le_of_lt hd);have h4:0 < (r.den:Rat)*(p - r):=Rat.mul_pos hd Af;unfold ab
   split<;>grind
  ·subst a
   have h1:1<=rc (cz (Cw r)) (r - 1) r:=hS.st.zero_counts Af (Std.le_refl _) hz;have h2:=le1 (r - 1) q;have h3:=Lh (cz (Cw r)) (r - 1) r q;omega
  ·have hq:q < r:=by
    rcases Std.lt_trichotomy q r with b | b | b
    ·exact b
    ·exact absurd ⟨a,Af⟩ h
    ·exact absurd ⟨a,Af⟩ h
   refine hS.flat hpq (ε:=(r.den:Rat)*(r - q)) (Rat.mul_pos hd Af) fun z h1 h2=>?_;rw[O8];have h3:=Ce (show r - q<=r - z by grind) (Std.le_of_lt hd);have h4:0 < (r.den:Rat)*(r - q):=Rat.mul_pos hd Af;unfold ab
   split<;>grind
def Gq(c:Nat):List Int:=[(c:Int),0,1]
theorem XR(c:Nat)(x:Rat):ev (cz (Gq c)) x=(c:Rat)+x*x:=by
 rw[EA (Ct (Gq c)) x];show cz (Gq c) 0+x*(cz (Gq c) 1+x*(cz (Gq c) 2+x*0))=_;have h0:cz (Gq c) 0=(c:Rat):=by rw[Cb (by simp[Gq])];rfl
 have h1:cz (Gq c) 1=0:=by rw[Cb (by simp[Gq])];rfl
 have h2:cz (Gq c) 2=1:=by rw[Cb (by simp[Gq])];rfl
 rw[h0,h1,h2];grind
theorem U8(c:Nat):pl (cz (Gq c))=3:=Jr (Ct (Gq c)) fun _=>by
 show cz (Gq c) 2≠0;rw[Cb (by simp[Gq])];show((1:Int):Rat)≠0
 decide
theorem jU(c:Nat):cz (Gq c)≠pz:=fun e=>by have:=U8 c;rw[e,BJ]at this;omega
theorem d9(c:Nat):Bn (cz (Gq c)):=by
 have h2:cz (Gq c) 2=1:=by rw[Cb (by simp[Gq])];rfl
 refine⟨ZI.cz _,Ae.cz _,jU c,by unfold ld;rw[U8];show 0 < cz (Gq c) 2;rw[h2];decide,?_⟩;have h:=FP (F:=cz (Gq c)) (Ae.cz _) 2;rw[h2]at h;exact Nat.dvd_one.1 (Int.natCast_dvd_natCast.1 h)
theorem aZ{c:Nat}(hc:1<=c):SF (cz (Gq c)):=by
 refine⟨d9 c,?_⟩;have hx:Cx (cz (Cw 0)) (cz (Gq c)):=XI (ZI.cz _) (Ae.cz _) (by
  rw[XR];have:(1:Rat)<=((c:Nat):Rat):=by exact_mod_cast hc
  grind)
 have e:pd (cz (Gq c))=psc 2 (cz (Cw 0)):=funext fun i=>by
  match i with
  | 0 =>
   show((0+1:Nat):Rat)*cz (Gq c) 1=2*cz (Cw 0) 0;have h1:cz (Gq c) 1=0:=by rw[Cb (by simp[Gq])];rfl
   have h2:cz (Cw 0) 0=0:=by rw[jY];decide
   rw[h1,h2,Rat.mul_zero,Rat.mul_zero]
  | 1 =>
   show((1+1:Nat):Rat)*cz (Gq c) 2=2*cz (Cw 0) 1;rw[Cb (by simp[Gq]),YQ];rfl
  | i+2 =>
   show((i+2+1:Nat):Rat)*cz (Gq c) (i+3)=2*cz (Cw 0) (i+2);rw[Iw (by simp[Gq]),bO,Rat.mul_zero,Rat.mul_zero]
 obtain⟨U,V,fU,fV,h⟩:=hx;refine⟨V,psc (1 / 2) U,fV,fU.psc _,?_⟩;rw[e,Cz,NC,C9,<-h]
 funext i
 simp only[pad,psc];grind
theorem iI{c:Nat}(hc:1<=c){p q:Rat}(hpq:p<=q):rc (cz (Gq c)) p q=0:=by
 have h1:(1:Rat)<=((c:Nat):Rat):=by exact_mod_cast hc
 refine(aZ hc).flat hpq (ε:=1) Ab fun z _ _=>?_;rw[XR];have h2:0<=z*z:=by
  rcases Rat.le_total (a:=0) (b:=z)with a | a
  ·exact Rat.mul_nonneg a a
  ·have:=Rat.mul_nonneg (show 0 <= -z by grind) (show 0 <= -z by grind)
   grind
 unfold ab
 split<;>grind
def cnt(D:List Rat)(p q:Rat):Int:=D.foldr (fun r n=>(if p < r/\r<=q then 1 else 0)+n) 0
theorem K6(r:Rat)(D:List Rat)(p q:Rat):cnt (r::D) p q=(if p < r/\r<=q then 1 else 0)+cnt D p q:=rfl
theorem MB(D:List Rat)(r p q:Rat):cnt (D ++ [r]) p q=cnt D p q+if p < r/\r<=q then 1 else 0:=by
 induction D with
 | nil=>show(if p < r/\r<=q then(1:Int)else 0)+0=0+_;omega
 | cons x D ih =>
  show(if p < x/\x<=q then(1:Int)else 0)+cnt (D ++ [r]) p q=(if p < x/\x<=q then(1:Int)else 0)+cnt D p q+_;rw[ih];omega
theorem KO(D:List Rat)(p q:Rat):0<=cnt D p q/\cnt D p q<=D.length:=by
 induction D with
 | nil=>show(0:Int)<=0/\(0:Int)<=((0:Nat):Int);omega
 | cons x D ih =>
  rw[K6,List.length_cons]
  split<;>omega
structure Ub(F W R:Nat->Rat)(D:List Rat):Prop where
 e:F=cv W R
 w:SF W
 r:Bn R
 n:∃ n,Dv R (pw W n)
 c:∀ p q,p<=q->rc W p q=cnt D p q
 z:∀ x,ev W x=0↔x∈D
 d:D.Nodup
theorem Ub.pos{F W R:Nat->Rat}{D:List Rat}(h:Ub F W R D):Bn F:=by rw[h.e];exact h.w.p.mul h.r
theorem Ub.sqf{F W R:Nat->Rat}{D:List Rat}(h:Ub F W R D):sqf F=W:=by
 have hP:=h.pos;have sF:=C8 hP.z hP.f hP.n;refine sF.p.eq_dv h.w.p ?_ (G9 hP.z hP.f hP.n h.w ⟨R,h.r.f,by rw[AX];exact h.e⟩);obtain⟨n,Q,fQ,eQ⟩:=h.n;refine iW sF h.w (n:=n+1) ((Ev hP.z hP.f hP.n).trans ⟨Q,fQ,?_⟩);show cv (pw W n) W=_;rw[eQ,h.e,Ai,AX R W]
theorem Ub.start{c:Nat}(hc:1<=c):Ub (cz (Gq c)) (cz (Gq c)) pone [] where
 e:=by rw[AX,Ck]
 w:=aZ hc
 r:=GI
 n:=⟨0,Dv.refl _⟩
 c:=fun p q hpq=>iI hc hpq
 z:=fun x=>by
  constructor
  ·intro h
   exfalso;have h1:(1:Rat)<=((c:Nat):Rat):=by exact_mod_cast hc
   rw[XR]at h;have h2:0<=x*x:=by
    rcases Rat.le_total (a:=0) (b:=x)with a | a
    ·exact Rat.mul_nonneg a a
    ·have:=Rat.mul_nonneg (show 0 <= -x by grind) (show 0 <= -x by grind)
     grind
   grind
  ·intro h;cases h
 d:=List.nodup_nil
theorem Ub.same{F W R:Nat->Rat}{D:List Rat}(h:Ub F W R D){r:Rat}(hr:r∈D):Ub (cv F (cz (Cw r))) W (cv R (cz (Cw r))) D where
 e:=by rw[h.e,Ai]
 w:=h.w
 r:=h.r.mul (MJ r)
 n:=by
  obtain⟨n,Q,fQ,eQ⟩:=h.n;obtain⟨P,fP,eP⟩:=j6 h.w.p.z h.w.p.f ((h.z r).2 hr);refine⟨n+1,cv Q P,fQ.cv fP,?_⟩;show cv (pw W n) W=_;rw[eQ]
  conv=>lhs;arg 2;rw[eP]
  rw[Ai,Ai,<-Ai R P,AX R P,Ai]
 c:=h.c
 z:=h.z
 d:=h.d
theorem Ub.new{F W R:Nat->Rat}{D:List Rat}(h:Ub F W R D){r:Rat}(hr:r∉D):Ub (cv F (cz (Cw r))) (cv W (cz (Cw r))) R (D ++ [r]):=by
 have hne:ev W r≠0:=fun e=>hr ((h.z r).1 e);have cW:Cx W (cz (Cw r)):=(XI h.w.p.z h.w.p.f hne).symm;have sW:=h.w.cv (XB r) cW;refine⟨?_,sW,h.r,?_,fun p q hpq=>?_,fun x=>?_,?_⟩
 ·rw[h.e,Ai,Ai,AX R]
 ·obtain⟨n,Q,fQ,eQ⟩:=h.n
  refine⟨n,cv (pw (cz (Cw r)) n) Q,(Ni (Ae.cz _) n).cv fQ,?_⟩;rw[WK,eQ,AX (cv Q R),<-Ai]
 ·rw[SF.mul h.w (XB r) sW cW hpq,h.c p q hpq,iL r hpq,MB]
 ·rw[Ei h.w.p.f (Ae.cz _),O8,List.mem_append,List.mem_singleton]
  have hd:=Mr r;constructor
  ·intro e
   rcases Rat.mul_eq_zero.1 e with a | a
   ·exact .inl ((h.z x).1 a)
   ·rcases Rat.mul_eq_zero.1 a with b | b
    ·grind
    ·exact .inr Af
  ·rintro(a | a)
   ·rw[(h.z x).2 a,Rat.zero_mul]
   ·rw[a];grind
 ·exact List.nodup_append.2 ⟨h.d,Ac,fun a ha b hb=>by
   rw[List.mem_singleton.1 hb];exact fun e=>hr (e▸ha)⟩
def Ie:Nat->Nat
 | 0=>1
 | 1=>1
 | n+2=>Ie n+2*Ie (n+1)
theorem OI(n:Nat):Ie (n+2)=Ie n+2*Ie (n+1):=rfl
theorem R5:∀ n,Ie n<=Ie (n+1)
 | 0=>Nat.le_refl _
 | n+1=>by rw[OI];omega
theorem KQ{a:Nat}:∀ {b:Nat},a<=b->Ie a<=Ie b:=by
  intro b h;induction b with
  | zero => obtain rfl : a = 0 := by omega
            exact Nat.le_refl _
  | succ b ih =>
    rcases Nat.lt_or_ge b a with q | q
    · obtain rfl:a=b+1:=by omega
      exact Nat.le_refl _
    · exact Nat.le_trans (ih q) (R5 b)
theorem M0:∀ n,1<=Ie n
 | 0=>Nat.le_refl _
 | n+1=>Nat.le_trans (M0 n) (R5 n)
theorem Uq(x:Nat):∀ d,Ie x+(d+2)*Ie (x+1)<=Ie (x+d+2)
 | 0=>by rw[OI,Nat.add_zero];omega
 | d+1=>by
  have ih:=Uq x d;have h1:Ie (x+(d+1)+2)=Ie (x+d+1)+2*Ie (x+d+2):=OI (x+d+1);have h2:=KQ (show x+1<=x+d+2 by omega);rw[h1];have e:(d+1+2)*Ie (x+1)=(d+2)*Ie (x+1)+Ie (x+1):=by rw[show d+1+2=(d+2)+1 by omega,Nat.succ_mul]
  omega
theorem F7.next_qsz{F0 G0 A B:Nat->Rat}{D S s t:Nat}(h:F7 F0 G0 D S A B)(h0:B≠pz)(hs:∀ i,qsz (A i)<=s)(ht:∀ i,qsz (B i)<=t)(i:Nat) :
  qsz (nx A B i)<=s+(pl A+1 - pl B)*(t+1)/\pl (nx A B) < pl B:=by
 obtain⟨A',B',e,d,h,rfl,rfl,he,hd⟩:=h;have hB':B'≠pz:=fun q=>h0 (by rw[q,EF]);have hl:=OT (CW h.fB hB') (pl A'+1 - pl B');have hpr:=X6 h.fA h.fB hB' e (EY hd);have hend:=(J4 h.fA h.fB hB').2;have plB:pl (psc d B')=pl B':=CK (EY hd) h.fB;have plA:pl (psc e A')=pl A':=CK (EY he) h.fA;by_cases hR:pr A' B'=pz
 ·have e1:nx (psc e A') (psc d B')=pz:=J3 (by rw[hpr,hR,EF])
  rw[e1,plB,BJ];have h1:=AQ h.fB hB';have h2:qsz (pz i)<=t:=by have:=ht (pl B'+i);rw[show psc d B' (pl B'+i)=pz i from(congrArg (d*·) (AB h.fB _ Aa)).trans (Rat.mul_zero d)]at this;exact this
  have h3:(pl (psc e A')+1 - pl B')*(t+1)=(pl (psc e A')+1 - pl B')*(t+1):=rfl;have h4:qsz (pz i)<=s:=by have:=hs (pl A'+i);rw[show psc e A' (pl A'+i)=pz i from(congrArg (e*·) (AB h.fA _ Aa)).trans (Rat.mul_zero e)]at this;exact this
  exact⟨Nat.le_trans h4 (Nat.le_add_right _ _),h1⟩
 ·have fR:=EE h.fA h.fB
  have hR2:pr (psc e A') (psc d B')≠pz:=fun q=>hR (by
   rw[hpr]at q;exact(BF fR).1 (by rw[<-CK (EY he) fR,q,BJ]))
  have fR2:Ae (pr (psc e A') (psc d B')):=by rw[hpr];exact fR.psc e
  have hz:=EI h.zA h.zB (pl A'+1 - pl B');have hf:=Ps h.fA h.fB hB';have hpp:pp (Dp (pl (pr (psc e A') (psc d B'))) (pr (psc e A') (psc d B')))=pp (D6 A' B' (pl A'+1 - pl B')):=by
   refine Pz (q:=((dl (pl (pr (psc e A') (psc d B'))) (pr (psc e A') (psc d B')):Nat):Rat)*e*(1 / ld B'^(pl A'+1 - pl B'))) (Fa (AB fR2)) hz hf (fun q=>hR ?_) ?_ ?_
   ·rw[q]at hend
    exact(BF fR).1 (by rw[<-CK hl fR,<-hend,BJ])
   ·have h1:=Qx (pl (pr (psc e A') (psc d B'))) (pr (psc e A') (psc d B'))
    have h2:=EY he;grind
   ·rw[hend,C9]
    unfold Dp
    conv=>lhs;arg 2;rw[hpr]
    rw[C9];congr 1;grind
  have hs':∀ i,qsz (A' i)<=s:=fun i=>by have:=hs i;rwa[JG he]at this
  have ht':∀ i,qsz (B' i)<=t:=fun i=>by have:=ht i;rwa[JG hd]at this
  rw[TH hR2,hpp,plA,plB];have hpm:=Gm (0 < ld (pr (psc e A') (psc d B')));refine⟨?_,?_⟩
  ·rw[JG hpm]
   exact F6 hz hf (fun j=>FX h.zA h.zB hs' ht' _ j) i
  ·rw[CK (EY hpm) (Db hf),DR hz hf]
   exact Q3 h.fA h.fB hB'
theorem Ue{W:Nat->Rat}{S:Nat}(fW:Ae W)(zW:ZI W)(n0:W≠pz)(qW:∀ i,qsz (W i)<=S)(qD:∀ i,qsz (pd W i)<=S):∀ k,(∀ j,1<=j->j<=k->Ch W (pd W) j≠pz) ->
  (∀ i,qsz (Ch W (pd W) k i)+1<=(S+1)*Ie (pl W - pl (Ch W (pd W) k)))/\(∀ i,qsz (Ch W (pd W) (k+1) i)+1<=(S+1)*Ie (pl W - pl (Ch W (pd W) k)+1)) /\
   pl (Ch W (pd W) (k+1)) < pl (Ch W (pd W) k)/\pl (Ch W (pd W) k)<=pl W
 | 0,_=>by
  have h1:=AQ fW n0;have e1:pl (rd W)=pl W:=by rw[LD,CK (EY (Gm _)) (Db fW),DR zW fW]
  have e2:pl (rd (pd W))=pl W - 1:=by
   by_cases h0:pd W=pz
   ·rw[h0,WH,BJ]
    have:=Gz fW;rw[h0,BJ]at this;omega
   ·rw[LD,CK (EY (Gm _)) (Db (Bw fW)),DR (CU zW) (Bw fW),Gz fW]
  have q1:∀ i,qsz (rd W i)<=S:=fun i=>by rw[LD,JG (Gm _)];exact F6 zW fW qW i
  have q2:∀ i,qsz (rd (pd W) i)<=S:=fun i=>by rw[LD,JG (Gm _)];exact F6 (CU zW) (Bw fW) qD i
  refine⟨fun i=>?_,fun i=>?_,?_,?_⟩
  ·show qsz (rd W i)+1<=(S+1)*Ie (pl W - pl (rd W))
   rw[e1,Nat.sub_self];have:=q1 i;show _<=(S+1)*1;omega
  ·show qsz (rd (pd W) i)+1<=(S+1)*Ie (pl W - pl (rd W)+1)
   rw[e1,Nat.sub_self];have:=q2 i;show _<=(S+1)*1;omega
  ·show pl (rd (pd W)) < pl (rd W)
   omega
  ·show pl (rd W)<=pl W
   omega
 | k+1,h=>by
  obtain⟨a1,a2,a3,a4⟩:=Ue fW zW n0 qW qD k fun j b c=>h j b Aa;have hst:=IA fW (Bw fW) zW (CU zW) qW qD k fun j b c=>h j b Aa;have hB:=h (k+1) Aa Aa;obtain⟨A,hA⟩:∃ A,A=Ch W (pd W) k:=⟨_,rfl⟩
  obtain⟨B,hBe⟩:∃ B,B=Ch W (pd W) (k+1):=⟨_,rfl⟩
  rw[JZ W (pd W) k];simp only[<-hA,<-hBe]at a1 a2 a3 a4 hst;rw[<-hA,<-hBe];rw[<-hBe]at hB;have fB:=hst.facts.2.1;have hpB:=AQ fB hB;have hn:=fun i=>hst.next_qsz hB (s:=(S+1)*Ie (pl W - pl A) - 1) (t:=(S+1)*Ie (pl W - pl A+1) - 1) (fun i=>by have:=a1 i;omega) (fun i=>by have:=a2 i;omega) i;have p1:1<=(S+1)*Ie (pl W - pl A):=Nat.mul_pos Aa (M0 _);have p2:1<=(S+1)*Ie (pl W - pl A+1):=Nat.mul_pos Aa (M0 _);refine⟨fun i=>Nat.le_trans (a2 i) (Nat.mul_le_mul_left _ (KQ Aa)),fun i=>?_,(hn 0).2,Aa⟩
  have h1:=(hn i).1;rw[show(S+1)*Ie (pl W - pl A+1) - 1+1=(S+1)*Ie (pl W - pl A+1) by omega]at h1;obtain⟨d,hd⟩:∃ d,pl A+1 - pl B=d+2:=⟨pl A - pl B - 1,Aa⟩
  rw[hd]at h1;have h2:=Nat.mul_le_mul_left (S+1) (Uq (pl W - pl A) d);have e1:(S+1)*(Ie (pl W - pl A)+(d+2)*Ie (pl W - pl A+1))=(S+1)*Ie (pl W - pl A)+(d+2)*((S+1)*Ie (pl W - pl A+1)):=by
   rw[Nat.mul_add,Nat.mul_left_comm]
  have e2:pl W - pl A+d+2=pl W - pl B+1:=by omega
  rw[e1,e2]at h2;omega
theorem R3{W:Nat->Rat}{S:Nat}(fW:Ae W)(zW:ZI W)(n0:W≠pz)(qW:∀ i,qsz (W i)<=S)(qD:∀ i,qsz (pd W i)<=S)(k:Nat)(h:∀ j,1<=j->j<=k->Ch W (pd W) j≠pz) :
  ∀ i,qsz (Ch W (pd W) k i)<=(S+1)*Ie (pl W)/\qsz (Ch W (pd W) (k+1) i)<=(S+1)*Ie (pl W):=fun i=>by
 obtain⟨a1,a2,a3,a4⟩:=Ue fW zW n0 qW qD k h;have h1:=Nat.le_trans (a1 i) (Nat.mul_le_mul_left (S+1) (KQ (show pl W - pl (Ch W (pd W) k)<=pl W by omega)));have h2:=Nat.le_trans (a2 i) (Nat.mul_le_mul_left (S+1) (KQ (show pl W - pl (Ch W (pd W) k)+1<=pl W by omega)));omega
def iO:Nat:=7*(4095*4095)
def B10:Nat:=10*(iO*10*21^10*21^10)
structure Rw(F:Nat->Rat):Prop where
 z:ZI F
 f:Ae F
 n0:F≠pz
 p:pl F<=10
 b:∀ i,(F i).num.natAbs<=iO
theorem DZ.mul{F G:Nat->Rat}(h:DZ F)(k:DZ G)(hp:pl F+pl G<=11):Rw (cv F G):=by
 have cb:∀ {F:Nat->Rat},DZ F->CB 1 4095 F:=fun {F} h=>⟨Aa,fun i=>⟨(F i).num,by
  have e:((1:Nat):Rat)=1:=rfl;rw[e,<-h.z.num i];grind,h.b i⟩⟩
 have nP:cv F G≠pz:=fun e=>by
  have h0:=Ee h.f k.f h.n0 k.n0;have h1:=AQ h.f h.n0;have h2:=AQ k.f k.n0;rw[e,BJ]at h0;omega
 refine⟨h.z.cv k.z,h.f.cv k.f,nP,by rw[Ee h.f k.f h.n0 k.n0];omega,fun i=>?_⟩;obtain⟨-,hc⟩:=(cb h).cv (n:=7) ((AB h.f).mono h.p) (cb k);obtain⟨x,h1,h2⟩:=hc i;have e:((1*1:Nat):Rat)=1:=rfl;rw[e]at h1;have h3:cv F G i=(x:Rat):=by rw[h1];grind
 rw[h3];exact h2
theorem Rw.div{F E:Nat->Rat}(h:Rw F)(hE:Bn E)(hd:Dv E F)(i:Nat):(E i).num.natAbs<=B10:=by
 have hP:=Bn.pp h.z h.f h.n0;have hpl:=DR h.z h.f;have h1:=Pi hP.z hP.f hP.n hE.z hE.f (hP.zdv hE ((DK h.z h.f).2 hd)) (n:=10) (by rw[hpl];exact h.p) (Py hP.z (PQ h.z h.f h.n0 h.b));refine Pf hE.z (fun i=>?_) i;refine Std.le_trans (h1 i) ?_;have e:(1:Rat)+2*((10:Nat):Rat)=((21:Nat):Rat):=by exact_mod_cast(rfl:1+2*10=21)
 rw[e,Gs];have:((10:Nat):Rat)*(((iO:Nat):Rat)*((10:Nat):Rat)*((21^10:Nat):Rat)*((21^10:Nat):Rat))=((10*(iO*10*21^10*21^10):Nat):Rat):=Nf 10 iO 10 _;rw[this];exact Std.le_refl _
theorem Rw.ppn{F:Nat->Rat}(h:Rw F)(i:Nat):(pp F i).num.natAbs<=B10:=h.div (Bn.pp h.z h.f h.n0) ((DK h.z h.f).1 (Dv.refl _)) i
theorem Rw.q{F:Nat->Rat}(h:Rw F)(i:Nat):qsz (F i)<=4:=BO h.z Ab (Nat.lt_of_le_of_lt (h.b i) (by decide +kernel))
theorem Rw.sqn{F:Nat->Rat}(h:Rw F)(i:Nat):(sqf F i).num.natAbs<=B10:=h.div (C8 h.z h.f h.n0).p (Ev h.z h.f h.n0) i
theorem FW.ofp{W:Nat->Rat}{S D M:Nat}(z:ZI W)(f:Ae W)(n0:W≠pz)(s:∀ i,qsz (W i)<=S)(d:∀ i,qsz (pd W i)<=S)(e:pl W+pl (pd W)=D)(m:(S+1)*Ie (pl W)<=M)(b:M+(D+1)*(M+1)<=1000000)(D9:D<=900):FW W S D M:=
 ⟨z,f,s,d,e,⟨Nat.le_trans (by have:=Nat.mul_le_mul_left (S+1) (M0 (pl W));omega) m,fun k hk=>⟨fun i=>Nat.le_trans (R3 f z n0 s d k hk i).1 m,fun i=>Nat.le_trans (R3 f z n0 s d k hk i).2 m⟩⟩,b,D9⟩
theorem Rw.chn{F:Nat->Rat}(h:Rw F):FW (sqf F) 4 (pl (sqf F)+pl (pd (sqf F))) 20000/\pl (sqf F)+pl (pd (sqf F))<=19:=by
 have h1:=h.sqn;have h2:=Nat.le_trans (Y6 h.z h.f h.n0) h.p;have hS:=C8 h.z h.f h.n0;have h3:=Gz hS.p.f;have h4:=AQ hS.p.f hS.p.n;have hD:pl (sqf F)+pl (pd (sqf F))<=19:=by omega
 have hp:Ie (pl (sqf F))<=3363:=Nat.le_trans (KQ h2) Ab;have hm:(pl (sqf F)+pl (pd (sqf F))+1)*(20000+1)<=20*20001:=Nat.mul_le_mul_right _ Aa;refine⟨FW.ofp hS.p.z hS.p.f hS.p.n (fun i=>BO hS.p.z Ab (Nat.lt_of_le_of_lt (h1 i) (by decide +kernel))) (fun i=>BO (CU hS.p.z) Ab (Nat.lt_of_le_of_lt (GV hS.p.z hS.p.f (n:=9) Aa h1 i) (by decide +kernel))) rfl Aa Aa Aa,hD⟩
theorem Rw.sim{F:Nat->Rat}(h:Rw F):Qn F 4 10 2621440 36000:=by
 have hP:=Bn.pp h.z h.f h.n0;have hpl:=DR h.z h.f;have hpn:=h.ppn;exact⟨h.z,h.f,h.n0,h.q,fun i=>BO (CU hP.z) Ab (Nat.lt_of_le_of_lt (GV hP.z hP.f (n:=9) (by rw[hpl];exact h.p) hpn i) (by decide +kernel)),
  fun i=>OX hP (n:=10) (s:=4) (by rw[hpl];exact h.p) Ab (fun i=>BO hP.z Ab (Nat.lt_of_le_of_lt (hpn i) (by decide +kernel))) Ab i,h.p,Ab,Ab,Ab,Ab⟩
theorem Rw.err{F:Nat->Rat}(h:Rw F):D7 F=0:=by
 refine J7 h.n0 (by have:=h.p;omega) fun⟨i,b,h1,h2⟩=>?_;have:=h1.le (m:=96) (Nat.lt_of_le_of_lt (h.b i) (by decide +kernel));omega
theorem Rw.pg{F:Nat->Rat}(h:Rw F):Pg F (pl (sqf F)+pl (pd (sqf F))) 20000:=
 ⟨h.z,h.f,h.n0,h.err,fun i=>Nat.le_trans (h.q i) Ab,by have:=h.p;omega,⟨4,10,2621440,36000,h.sim⟩,⟨4,h.chn.1⟩⟩
theorem TJ{F:Nat->Rat}(z:ZI F){e:Nat}(h:∀ i,(F i).num.natAbs<=2^e){r:Rat}(h1:r.num.natAbs < 4294967296)(h2:r.den < 4294967296)(i:Nat):(cv F (cz (Cw r)) i).num.natAbs<=2^(e+33):=by
 have cb:∀ {F:Nat->Rat} {X:Nat},ZI F->(∀ i,(F i).num.natAbs<=X)->CB 1 X F:=fun {F X} z h=>⟨Aa,fun i=>⟨(F i).num,by
  have e:((1:Nat):Rat)=1:=rfl;rw[e,<-z.num i];grind,h i⟩⟩
 have hL:∀ i,(cz (Cw r) i).num.natAbs<=4294967295:=fun i=>by
  match i with
  | 0 =>
   have e0:(cz (Cw r) 0).num = -r.num:=by rw[Cb (by simp[Cw])];rfl
   rw[e0,Int.natAbs_neg];omega
  | 1 =>
   have e1:(cz (Cw r) 1).num=(r.den:Int):=by rw[Cb (by simp[Cw])];rfl
   rw[e1];simp;omega
  | i+2=>rw[bO];decide
 obtain⟨-,hc⟩:=(cb (ZI.cz (Cw r)) hL).cv (n:=2) (Ct (Cw r)) (cb z h);obtain⟨x,h3,h4⟩:=hc i;have e1:((1*1:Nat):Rat)=1:=rfl;rw[e1]at h3;have h5:cv F (cz (Cw r)) i=(x:Rat):=by rw[AX,h3];grind
 rw[h5];show x.natAbs<=_;refine Nat.le_trans h4 ?_;rw[Nat.pow_add];have h6:4294967295*2^e<=4294967296*2^e:=Nat.mul_le_mul_right _ Aa;have h7:2^e*2^33=2*(4294967296*2^e):=by omega
 omega
structure Kz(F W R:Nat->Rat)(D:List Rat)(m:Nat):Prop where
 s:Ub F W R D
 pF:pl F<=3+m
 pW:pl W<=3+D.length
 bF:∀ i,(F i).num.natAbs<=2^(9+33*m)
 bW:∀ i,(W i).num.natAbs<=2^(9+33*D.length)
 bR:∀ i,(R i).num.natAbs<=2^(33*m)
 dn:∀ r∈D,r.num.natAbs < 4294967296/\r.den < 4294967296
theorem Kz.start{c:Nat}(hc:1<=c)(h9:c<=256):Kz (cz (Gq c)) (cz (Gq c)) pone [] 0:=by
 have hb:∀ i,(cz (Gq c) i).num.natAbs<=2^(9+33*0):=fun i=>by
  match i with
  | 0=>rw[Cb (by simp[Gq])];show((c:Int)).natAbs<=512;omega
  | 1=>rw[Cb (by simp[Gq])];show((0:Int)).natAbs<=512;omega
  | 2=>rw[Cb (by simp[Gq])];show((1:Int)).natAbs<=512;omega
  | i+3=>rw[Iw (by simp[Gq])];show((0:Int)).natAbs<=512;omega
 refine⟨Ub.start hc,by rw[U8];omega,by rw[U8];omega,hb,hb,fun i=>?_,fun r hr=>by cases hr⟩
 match i with
 | 0=>decide
 | i+1=>show((0:Rat)).num.natAbs<=_;exact Nat.zero_le _
theorem R4{F:Nat->Rat}(f:Ae F)(n:F≠pz)(r:Rat):pl (cv F (cz (Cw r)))=pl F+1:=by
 rw[Ee f (Ae.cz _) n (aF r),MV];omega
theorem Kz.same{F W R:Nat->Rat}{D:List Rat}{m:Nat}(h:Kz F W R D m){r:Rat}(hr:r∈D):Kz (cv F (cz (Cw r))) W (cv R (cz (Cw r))) D (m+1):=by
 obtain⟨d1,d2⟩:=h.dn r hr;have hP:=h.s.pos;refine⟨h.s.same hr,by rw[R4 hP.f hP.n];have:=h.pF;omega,h.pW,fun i=>?_,h.bW,fun i=>?_,h.dn⟩
 ·have:=TJ hP.z h.bF d1 d2 i
  rw[show 9+33*(m+1)=9+33*m+33 by omega];exact this
 ·have:=TJ h.s.r.z h.bR d1 d2 i
  rw[show 33*(m+1)=33*m+33 by omega];exact this
theorem Kz.new{F W R:Nat->Rat}{D:List Rat}{m:Nat}(h:Kz F W R D m){r:Rat}(hr:r∉D)(d1:r.num.natAbs < 4294967296)(d2:r.den < 4294967296):Kz (cv F (cz (Cw r))) (cv W (cz (Cw r))) R (D ++ [r]) (m+1):=by
 have hP:=h.s.pos;have hW:=h.s.w.p;refine⟨h.s.new hr,by rw[R4 hP.f hP.n];have:=h.pF;omega,by rw[R4 hW.f hW.n,List.length_append];have:=h.pW;show _<=3+(D.length+1);omega,fun i=>?_,fun i=>?_,fun i=>?_,fun x hx=>?_⟩
 ·have:=TJ hP.z h.bF d1 d2 i
  rw[show 9+33*(m+1)=9+33*m+33 by omega];exact this
 ·have:=TJ hW.z h.bW d1 d2 i
  rw[List.length_append,show 9+33*(D.length+[r].length)=9+33*D.length+33 by show 9+33*(D.length+1)=_;omega];exact this
 ·exact Nat.le_trans (h.bR i) (Nat.pow_le_pow_right Ab Aa)
 ·rcases List.mem_append.1 hx with a | a
  ·exact h.dn x a
  ·rw[List.mem_singleton.1 a];exact⟨d1,d2⟩
def bE:Nat:=2^273
def kT:Nat:=2^141
def eU:Nat:=2^264
theorem Zl{n:Nat}(h:n<=273):2^n<=bE:=by
 obtain⟨E,hE⟩:∃ E,E=273:=⟨_,rfl⟩
 unfold bE;rw[<-hE];exact Nat.pow_le_pow_right Ab Aa
theorem Zk{n:Nat}(h:n<=264):2^n<=eU:=by
 obtain⟨E,hE⟩:∃ E,E=264:=⟨_,rfl⟩
 unfold eU;rw[<-hE];exact Nat.pow_le_pow_right Ab Aa
section
variable{F W R:Nat->Rat}{D:List Rat}{m:Nat}
theorem Kz.up(h:Kz F W R D m)(hm:m<=8)(hD:D.length<=4):(∀ i,(F i).num.natAbs<=bE)/\(∀ i,(W i).num.natAbs<=kT)/\(∀ i,(R i).num.natAbs<=eU)/\pl F<=11/\pl W<=7:=
 ⟨fun i=>Nat.le_trans (h.bF i) (Zl Aa),fun i=>Nat.le_trans (h.bW i) (Nat.pow_le_pow_right Ab Aa),fun i=>Nat.le_trans (h.bR i) (Zk Aa),by have:=h.pF;omega,by have:=h.pW;omega⟩
theorem Kz.q(h:Kz F W R D m)(hm:m<=8)(hD:D.length<=4)(i:Nat):qsz (F i)<=9:=BO h.s.pos.z Ab (Nat.lt_of_le_of_lt ((h.up hm hD).1 i) (by decide +kernel))
theorem Kz.chn(h:Kz F W R D m)(hm:m<=8)(hD:D.length<=4):FW W 5 (pl W+pl (pd W)) 2000/\pl W+pl (pd W)<=13:=by
 obtain⟨-,h1,-,-,h2⟩:=h.up hm hD;have hS:=h.s.w;have h3:=Gz hS.p.f;have h4:=AQ hS.p.f hS.p.n;have hDD:pl W+pl (pd W)<=13:=by omega
 have hp:Ie (pl W)<=239:=Nat.le_trans (KQ h2) Ab;have hm:(pl W+pl (pd W)+1)*(2000+1)<=14*2001:=Nat.mul_le_mul_right _ Aa;exact⟨FW.ofp hS.p.z hS.p.f hS.p.n (fun i=>BO hS.p.z Ab (Nat.lt_of_le_of_lt (h1 i) (by decide +kernel))) (fun i=>BO (CU hS.p.z) Ab (Nat.lt_of_le_of_lt (GV hS.p.z hS.p.f (n:=6) Aa h1 i) (by decide +kernel))) rfl Aa Aa Aa,hDD⟩
theorem Kz.rest(h:Kz F W R D m):yc (pp F)=R:=by
 have hP:=h.s.pos;have e1:pp F=F:=hP.self;obtain⟨hC,hW,e,-,-⟩:=Ec hP;have e2:y0 F=W:=by have:=h.s.sqf;unfold Hp.sqf at this;rw[e1]at this;exact this
 rw[e1];rw[e2,h.s.e]at e;exact(O9 h.s.w.p.f h.s.w.p.n h.s.r.f hC.f (by rw[<-h.s.e]at e ⊢;exact e)).symm
theorem Kz.sim(h:Kz F W R D m)(hm:m<=8)(hD:D.length<=4):Qn F 9 11 20971520 9:=by
 obtain⟨h1,-,h3,h4,-⟩:=h.up hm hD;have hP:=h.s.pos;have e1:pp F=F:=hP.self;refine⟨hP.z,hP.f,hP.n,h.q hm hD,fun i=>?_,fun i=>?_,h4,Ab,Ab,Ab,Ab⟩
 ·rw[e1]
  exact BO (CU hP.z) Ab (Nat.lt_of_le_of_lt (GV hP.z hP.f (n:=10) Aa h1 i) (by decide +kernel))
 ·rw[h.rest]
  exact BO h.s.r.z Ab (Nat.lt_of_le_of_lt (h3 i) (by decide +kernel))
theorem Kz.err(h:Kz F W R D m)(hm:m<=8)(hD:D.length<=4):D7 F=0:=by
 obtain⟨h1,-,-,h4,-⟩:=h.up hm hD;refine J7 h.s.pos.n Aa fun⟨i,b,k1,k2⟩=>?_;have:=k1.le (m:=274) (Nat.lt_of_le_of_lt (h1 i) (by decide +kernel));omega
theorem Kz.pg(h:Kz F W R D m)(hm:m<=8)(hD:D.length<=4):Pg F (pl W+pl (pd W)) 2000:=
 ⟨h.s.pos.z,h.s.pos.f,h.s.pos.n,h.err hm hD,fun i=>Nat.le_trans (h.q hm hD i) Ab,by have:=(h.up hm hD).2.2.2.1;omega,⟨9,11,20971520,9,h.sim hm hD⟩,⟨5,by rw[h.s.sqf];exact(h.chn hm hD).1⟩⟩
theorem Z8{D:List Rat}{p q:Rat}(h:1<=cnt D p q):∃ r∈D,p < r/\r<=q:=by
 induction D with
 | nil=>exfalso;have:cnt [] p q=0:=rfl;omega
 | cons x D ih =>
  rw[K6]at h
  split at h
  ·rename_i hx;exact⟨x,Ac,hx⟩
  ·obtain⟨r,a,b⟩:=ih Aa
   exact⟨r,by simp[a],b⟩
theorem Ze{D:List Rat}{p q:Rat}(hd:D.Nodup)(h:2<=cnt D p q):∃ r∈D,∃ s∈D,r≠s/\p < r/\r<=q/\p < s/\s<=q:=by
 induction D with
 | nil=>exfalso;have:cnt [] p q=0:=rfl;omega
 | cons x D ih =>
  obtain⟨n1,n2⟩:=List.nodup_cons.1 hd;rw[K6]at h
  split at h
  ·rename_i hx
   obtain⟨s,a,b⟩:=Z8 (D:=D) (p:=p) (q:=q) Aa;exact⟨x,Ac,s,by simp[a],fun e=>n1 (e▸a),hx.1,hx.2,b.1,b.2⟩
  ·obtain⟨r,a,s,b,c⟩:=ih n2 Aa
   exact⟨r,by simp[a],s,by simp[b],c⟩
theorem Y9{D:List Rat}{p q:Rat}(h:∀ r∈D,p < r/\r<=q):cnt D p q=D.length:=by
 induction D with
 | nil=>rfl
 | cons x D ih =>
  rw[K6,if_pos (h x Ac),ih fun r hr=>h r (by simp[hr]),List.length_cons];omega
theorem Ri{r s:Rat}(hr:r.den < 4294967296)(hs:s.den < 4294967296)(h:r < s):1<=(s - r)*2^64:=by
 have e1:=Gn r;have e2:=Gn s;have d1:=Mr r;have d2:=Mr s;obtain⟨k,hk⟩:∃ k:Int,k=s.num*r.den - r.num*s.den:=⟨_,rfl⟩
 have e3:(s - r)*((r.den:Rat)*(s.den:Rat))=((k:Int):Rat):=by
  rw[hk]
  push_cast
  have a1:r*(r.den:Rat)=(r.num:Rat):=by
   generalize (r.den:Rat)=d at *;generalize (r.num:Rat)=n at *;rw[e1];grind
  have a2:s*(s.den:Rat)=(s.num:Rat):=by
   generalize (s.den:Rat)=d at *;generalize (s.num:Rat)=n at *;rw[e2];grind
  have c1:((r.den:Int):Rat)=(r.den:Rat):=rfl;have c2:((s.den:Int):Rat)=(s.den:Rat):=rfl;rw[<-a1,<-a2];grind
 have hp:0 < (s - r)*((r.den:Rat)*(s.den:Rat)):=Rat.mul_pos Af (Rat.mul_pos d1 d2);rw[e3]at hp;have hk1:1<=k:=by
  have:0 < k:=by exact_mod_cast hp
  omega
 have hk2:(1:Rat)<=((k:Int):Rat):=by exact_mod_cast hk1
 have b1:(r.den:Rat)<=4294967296:=by exact_mod_cast Nat.le_of_lt hr
 have b2:(s.den:Rat)<=4294967296:=by exact_mod_cast Nat.le_of_lt hs
 have b3:(r.den:Rat)*(s.den:Rat)<=4294967296*4294967296:=RY b1 b2 (Std.le_of_lt d2) Ab;have b4:=Ce b3 (show 0<=s - r by grind);have b5:(2:Rat)^64=4294967296*4294967296:=by decide +kernel
 rw[b5];rw[e3]at b4;exact Std.le_trans hk2 b4
theorem Kz.deep(h:Kz F W R D m)(hm:m<=8)(hD:D.length<=4)(d:Nat)(p q:Rat)(hn:Node (-(2:Rat)^bx F) ((2:Rat)^bx F) d p q)(hd:1000<=d):rc (sqf F) p q<=1:=by
 have hb:=O5 (h.q hm hD);have hpos:=BP (bx F);have hPQ : -(2:Rat)^bx F < (2:Rat)^bx F:=by grind
 obtain⟨w1,w2,w3⟩:=hn.within hPQ;rw[h.s.sqf,h.s.c p q (Std.le_of_lt w2)];rcases Int.lt_or_le 1 (cnt D p q)with a | a
 ·exfalso
  obtain⟨r,hr,s,hs,hrs,r1,r2,s1,s2⟩:=Ze h.s.d a;have hw:=hn.width;obtain⟨E,hE⟩:∃ E,d=64+(E+(bx F+1)):=⟨d - 64 - (bx F+1),Aa⟩
  have hE1:1<=E:=by omega
  rw[hE,CZ,CZ,Rat.pow_succ]at hw;have h3:=KN E;have h64:=BP 64;have hEE:(2:Rat)<=2^E:=by
   have:=K5 hE1;have e1:(2:Rat)^1=2:=by decide +kernel
   rw[e1]at this;exact this
  obtain⟨A,hA⟩:∃ A,A=(q - p)*2^64:=⟨_,rfl⟩
  have hA0:0 < A:=by rw[hA];exact Rat.mul_pos Af h64
  have e2:A*2^E=1:=by
   have:A*2^E*(2^bx F*2)=1*(2^bx F*2):=by rw[hA];grind
   have hne:(2:Rat)^bx F*2≠0:=by grind
   grind
  have hA1:A < 1:=by
   have:=Ce hEE (Std.le_of_lt hA0);grind
  have key:∀ {u v:Rat},u∈D->v∈D->u < v->p < u->v<=q->False:=fun {u v} hu hv huv h1 h2=>by
   have k1:=Ri (h.dn u hu).2 (h.dn v hv).2 huv;have k2:=CP (show v - u<=q - p by grind) (Std.le_of_lt h64);rw[<-hA]at k2;grind
  rcases Std.lt_trichotomy r s with z | z | z
  ·exact key hr hs z r1 s2
  ·exact hrs z
  ·exact key hs hr z s1 r2
 ·exact a
theorem Kz.total(h:Kz F W R D m):rc (sqf F) (-(2:Rat)^bx F) ((2:Rat)^bx F)=D.length:=by
 have hpos:=BP (bx F);have hP:=h.s.pos;obtain⟨B,hB0,hB⟩:∃ B:Rat,0<=B/\∀ r∈D,-B<=r/\r<=B:=by
  have:∀ D:List Rat,∃ B:Rat,0<=B/\∀ r∈D,-B<=r/\r<=B:=fun D=>by
   induction D with
   | nil=>exact⟨0,Ab,fun r hr=>by cases hr⟩
   | cons x D ih =>
    obtain⟨B,h0,h1⟩:=ih;refine⟨B+ab x,?_,fun r hr=>?_⟩
    ·have:=Aj x;grind
    ·have h2:=Aj x
     rcases List.mem_cons.1 hr with e | e
     ·subst e
      have:=Fe.1 (Std.le_refl (ab r));exact⟨Af,Af⟩
     ·have:=h1 r e
      exact⟨Af,Af⟩
  exact this D
 have h1:=rc_all hP.z hP.f hP.n (p:=-B - 1) (q:=B) Af;rw[h.s.sqf,h.s.c _ _ Af,h.s.c _ _ Af]at h1;rw[h.s.sqf,h.s.c _ _ Af];have h2:cnt D (-B - 1) B=D.length:=Y9 fun r hr=>⟨by have:=(hB r hr).1;grind,(hB r hr).2⟩
 have h3:=(KO D (-(2:Rat)^bx F) ((2:Rat)^bx F)).2;omega
theorem Kz.iso(h:Kz F W R D m)(hm:m<=8)(hD:D.length<=4):(Hp.iso (rc (sqf F)) 1000 (-(2:Rat)^bx F) ((2:Rat)^bx F)).length=D.length /\
  (∀ x∈Hp.iso (rc (sqf F)) 1000 (-(2:Rat)^bx F) ((2:Rat)^bx F),cnt D x.1 x.2=1/\qsz x.1<=10000/\qsz x.2<=10000)/\(Hp.iso (rc (sqf F)) 1000 (-(2:Rat)^bx F) ((2:Rat)^bx F)).Pairwise fun x y=>x.2<=y.1:=by
 have hbx:=O5 (h.q hm hD);have hqj:=PY (bx F);have hpos:=BP (bx F);have hPQ : -(2:Rat)^bx F < (2:Rat)^bx F:=by grind
 have hP:=h.s.pos;have hsf:=C8 hP.z hP.f hP.n;obtain⟨N,hN⟩:∃ N,N=1000:=⟨_,rfl⟩
 rw[<-hN];have hn:=Oy hsf hPQ (fun d p q hn hd=>h.deep hm hD d p q hn Aa) N 0 _ _ (Node.root _ _) Aa;refine⟨by have:=hn.2.1;rw[h.total]at this;omega,fun x hx=>?_,hn.2.2⟩;obtain⟨a,⟨d,_,hd,hn'⟩,-,-⟩:=hn.1 x hx;obtain⟨s1,s2⟩:=hn'.qsz (a:=1000) Aa Aa;have hlt:=Std.le_of_lt (hn'.within hPQ).2.1;rw[h.s.sqf,h.s.c _ _ hlt]at a;exact⟨a,Aa,Aa⟩
end
def lI(_:World)(u:Value)(n:Nat):Prop:=u = .agg #[.int .u8 (n:Int)]/\n < 256
def Tn(w:World)(v:Value)(l:List Nat):Prop:=CE 1 lI 0 w v l
theorem Tn.ext{w w':World}{v:Value}{l:List Nat}(h:Tn w v l)(e:Ext w w'):Tn w' v l:=CE.ext h e fun _ _ q=>q
theorem Tn.at_{w:World}{A:Option Addr}{n c:Nat}{l:List Nat}(h:Tn w (.slice A n c) l){j:Nat}(hj:j < l.length) :
  ∃ g o,A=some ⟨g,o,none⟩/\w.cell? ⟨g,o+j,none⟩=some (.int .u8 (l[j]:Int))/\l[j] < 256:=by
 obtain⟨A',c',e1,h2,h3,h4⟩:=h;cases e1;obtain⟨g,o,ha,hb,hc⟩:=h4 Aa;obtain⟨cs,q1,q2,q3,q4⟩:=hc j hj;cases q3;have:=q2 0 Aa;rw[Nat.mul_one,Nat.add_zero]at this;exact⟨g,o,ha,this,q4⟩
theorem FZ.el{w:World}{A:Option Addr}{n c:Nat}{l:List Raw}(h:FZ w (.slice A n c) l){j:Nat}(hj:j < l.length) :
  ∃ g o b A1 n c b' A1' n' c',A=some ⟨g,o,none⟩/\w.cell? ⟨g,o+j*4,none⟩=some (.bool b)/\w.cell? ⟨g,o+j*4+1,none⟩=some (.slice A1 n c)/\w.cell? ⟨g,o+j*4+2,none⟩=some (.bool b')/\w.cell? ⟨g,o+j*4+3,none⟩=some (.slice A1' n' c')/\EC w (.agg #[.bool b,.slice A1 n c,.bool b',.slice A1' n' c']) l[j]:=by
 obtain⟨A',c',e1,h2,h3,h4⟩:=h;cases e1;obtain⟨g,o,ha,hb,hc⟩:=h4 Aa;obtain⟨cs,q1,q2,q3⟩:=hc j hj;have q9:=q3;obtain⟨A1,n1,c1,A2,n2,c2,e,d1,d2⟩:=q3;obtain rfl:=Ru e;exact⟨g,o,_,A1,n1,c1,_,A2,n2,c2,ha,q2 0 Aa,q2 1 Aa,q2 2 Aa,q2 3 Aa,q9⟩
def kU(w:World)(v:Value)(l:List Raw)(bs:List Nat)(c:Nat)(x y:Raw):Prop:=∃ A ca E ce b1 A1 c1 b2 A2 c2 b3 A3 c3 b4 A4 c4,
 v = .agg #[.slice A l.length ca,.slice E bs.length ce,.int .u8 (c:Int),.bool b1,.slice A1 x.2.1.length c1,.bool b2,.slice A2 x.2.2.2.length c2,.bool b3,.slice A3 y.2.1.length c3,.bool b4,.slice A4 y.2.2.2.length c4] /\
 FZ w (.slice A l.length ca) l/\Tn w (.slice E bs.length ce) bs/\c < 256/\EC w (.agg #[.bool b1,.slice A1 x.2.1.length c1,.bool b2,.slice A2 x.2.2.2.length c2]) x/\EC w (.agg #[.bool b3,.slice A3 y.2.1.length c3,.bool b4,.slice A4 y.2.2.2.length c4]) y
theorem Be.cells11{w:World}{g:Nat}{t:TypeId}{a b c d e f h i j k l:Value}(z:Be w g t #[a,b,c,d,e,f,h,i,j,k,l]) :
  w.cell? ⟨g,0,none⟩=some a/\w.cell? ⟨g,1,none⟩=some b/\w.cell? ⟨g,2,none⟩=some c/\w.cell? ⟨g,3,none⟩=some d/\w.cell? ⟨g,4,none⟩=some e/\w.cell? ⟨g,5,none⟩=some f/\w.cell? ⟨g,6,none⟩=some h/\w.cell? ⟨g,7,none⟩=some i/\w.cell? ⟨g,8,none⟩=some j/\w.cell? ⟨g,9,none⟩=some k/\w.cell? ⟨g,10,none⟩=some l:=by
 have hc:∀ i,w.cell? ⟨g,i,none⟩=_:=fun i=>cell_of_row w g i _ t (0,0) z.1;exact⟨hc 0,hc 1,hc 2,hc 3,hc 4,hc 5,hc 6,hc 7,hc 8,hc 9,hc 10⟩
theorem Ey.two{W:World}{t:TypeId}{b b':Bool}{A A':Option Addr}{n n' c c':Nat}{x y:Int}(hx:Bh W (.agg #[.bool b,.slice A n c]) x)(hy:Bh W (.agg #[.bool b',.slice A' n' c']) y) :
  Ey 0 (W.alloc (.cells #[.bool b,.slice A n c,.bool b',.slice A' n' c'] t)) (.slice (some ⟨W.heap.size,0,none⟩) 2 2) [x,y]:=by
 have e:=(Ext.refl W).alloc (.cells #[.bool b,.slice A n c,.bool b',.slice A' n' c'] t);refine⟨_,2,rfl,Nat.le_refl _,Aa,fun _=>⟨W.heap.size,0,rfl,Nat.zero_le _,fun j hj=>?_⟩⟩;have hc:∀ i,(W.alloc (.cells #[.bool b,.slice A n c,.bool b',.slice A' n' c'] t)).cell? ⟨W.heap.size,i,none⟩=_:=fun i=>cell_of_row _ W.heap.size i _ t (0,0) (heap_alloc_new W _);have hj2:j < 2:=by simpa using hj
 match j,hj2 with
 | 0,_=>exact⟨#[.bool b,.slice A n c],rfl,fun i hi=>by
   match i,hi with
   | 0,_=>exact hc 0
   | 1,_=>exact hc 1,hx.kd e.kd⟩
 | 1,_=>exact⟨#[.bool b',.slice A' n' c'],rfl,fun i hi=>by
   match i,hi with
   | 0,_=>exact hc 2
   | 1,_=>exact hc 3,hy.kd e.kd⟩
theorem IG{n:Nat}:sz n<=1↔n < 4294967296:=by
 rw[Ef,Nh]
section
variable{P:Program}{ops:Array Oper}{Q:Exit->Act->World->Prop}{a0:Act}{W0:World}
 {k:Nat} {Λ:List Nat} {D:List Nat} {T:List (List Nat)} {EK:List Nat} {EV:List Value} {V:(Nat->Value)->Nat->Value} {F:Nat->(Nat->Value)->World->Prop}
def YS(P:Program)(ops:Array Oper)(EK:List Nat)(EV:List Value)(W0:World)(D:List Nat)(T:List (List Nat))(V:(Nat->Value)->Nat->Value)(F:Nat->(Nat->Value)->World->Prop)(i:Nat):Prop:=
 ∀ γ w,Ext W0 w->(∀ j,j∈T.getD i []->F j (E8 (j::T.getD j []) γ) w) ->
  match ops[i]? with
  | none=>False
  | some o=>((match o.guard with | none=>True | some (g,b)=>Bp T V γ g = .bool b) /\
   Gw P (fun v w'=>Ext w w'/\V (E8 (i::T.getD i []) (upd γ i v)) i=v/\F i (E8 (i::T.getD i []) (upd γ i v)) w') ((execOp (G5 EK EV D (Bp T V γ)) o).run P w)) \/
   ∃ g b,o.guard=some (g,b)/\Bp T V γ g = .bool (!b)/\(∀ t,o.op ≠ .alloc t)/\V (E8 (i::T.getD i []) (upd γ i undef)) i=undef/\F i (E8 (i::T.getD i []) (upd γ i undef)) w
theorem RG(c:KU ops k D T EK Λ){γ:Nat->Value}{L:Array Bool}{a:Act}{w:World}(h:Qa ops a0 W0 k D T V F γ L a w)
  {i:Nat} {o:Oper} (hi:i < k) (ho:ops[i]? = some o) (hT:∀ j∈T.getD i [],L.getD j false=true)
  {g:Nat} {b:Bool} (hgu:o.guard=some (g,b)) (hg':Bp T V γ g = .bool (!b)):Region.wanted o (yielded ops a.tmps)=false:=by
 unfold Region.wanted;rw[hgu];obtain⟨hgT,hgk⟩:=c.guard i o g b ho hi hgu;have hgo:ops[g]? = some (ops[g]'(Nat.lt_of_lt_of_le hgk c.hk)):=Array.getElem?_eq_getElem (Nat.lt_of_lt_of_le hgk c.hk);have hd:=c.dst g _ hgo hgk;have hm:=h.mine g hgk (hT g hgT);show(yielded ops a.tmps g==some b)=false;unfold yielded;rw[hgo];simp only[Option.bind_some,hd,hm];rw[hg'];cases b<;>rfl
theorem SY(c:KU ops k D T EK [])(hE:IB a0 EK EV)(hD:∀ d∈D,d < a0.tmps.size)(hmono:∀ i γ w w',i < k->Ext w w'->F i γ w->F i γ w')
  (hstep:∀ i,i < k->YS P ops EK EV W0 D T V F i)
  (htail:∀ γ w,Ext W0 w->(∀ i,i < k->F i (E8 (i::T.getD i []) γ) w)->(∀ i j,i < k->j < k->i≠j->Ez ops i->Ez ops j->Bp T V γ i≠Bp T V γ j)->wpList P ops Q (ops.toList.drop k) (AZ a0 (Bp T V γ) 0 D) w) :
  ∀(fuel:Nat) (γ:Nat->Value) (L:Array Bool) (a:Act) (w:World),(List.range ops.size).countP (fun i=>!L.getD i false)<=fuel->Qa ops a0 W0 k D T V F γ L a w->wpAny P .any ops Q fuel L a w:=by
 have hΛk:∀ j∈([]:List Nat),j < k:=fun j hj=>by cases hj
 intro fuel;induction fuel with
 | zero =>
  intro γ L a w hf h;have hall:∀ i,i < ops.size->L.getD i false=true:=by
   intro i hi;have:=List.countP_eq_zero.1 (Nat.le_zero.1 hf) i (List.mem_range.2 hi);simpa using this
  have hks:k=ops.size:=by
   rcases Nat.lt_or_ge k ops.size with hlt | hge
   ·have h1:=hall k hlt
    rw[h.low k (Nat.le_refl _)]at h1;cases h1
   ·exact Nat.le_antisymm c.hk hge
  have ha:a=AZ a0 (Bp T V γ) 0 D:=KJ c hD h (fun i hi=>hall i (Nat.lt_of_lt_of_le hi c.hk));rw[ha];exact EJ c (fun j hj => .inl (hΛk j hj)) 0 k 0 L _ w Aa (Nat.le_refl _) (Nat.le_refl _) h.size (fun j hj=>hall j Aa) (fun j hj=>h.low j hj) (htail γ w h.ext (fun i hi=>h.facts i hi (hall i Aa)) fun i j hi hj hne=>h.apart i j hi hj hne (hall i Aa) (hall j Aa))
 | succ fuel ih =>
  intro γ L a w hf h;by_cases hall:∀ i,i < k->L.getD i false=true
  ·have ha:a=AZ a0 (Bp T V γ) 0 D:=KJ c hD h hall
   have hcount:ops.size - k<=fuel+1:=by
    refine Nat.le_trans ?_ hf;have:(List.range' k (ops.size - k)).countP (fun i=>!L.getD i false)=ops.size - k:=by
     have h1:(List.range' k (ops.size - k)).countP (fun i=>!L.getD i false)=(List.range' k (ops.size - k)).length:=by
      rw[List.countP_eq_length];intro i hi;rw[List.mem_range'_1]at hi;simp[h.low i hi.1]
     rw[h1,List.length_range']
    rw[<-this];have hsub:(List.range' k (ops.size - k)).Sublist (List.range ops.size):=by
     rw[ET ops.size k c.hk];exact List.sublist_append_right _ _
    exact hsub.countP_le
   rw[ha];exact EJ c (fun j hj => .inl (hΛk j hj)) (ops.size - k) k (fuel+1) L _ w (by have:=c.hk;omega) hcount (Nat.le_refl _) h.size hall (fun j hj=>h.low j hj) (htail γ w h.ext (fun i hi=>h.facts i hi (hall i hi)) fun i j hi hj hne=>h.apart i j hi hj hne (hall i hi) (hall j hj))
  ·have hun:∀ j,j < ops.size->L.getD j true=L.getD j false:=fun j hj=>by
    rw[Array.getD_eq_getD_getElem?,Array.getD_eq_getD_getElem?,Array.getElem?_eq_getElem (by rw[h.size];exact hj)];rfl
   -- the Mx that is not listed may come up
   have hex:∃ i,i < k/\L.getD i false=false/\∀ j,j < i->L.getD j false=true:=by
    have:∃ i,i < k/\L.getD i false=false:=by
     obtain⟨i,hi⟩:=Classical.not_forall.1 hall;obtain⟨hi,hl⟩:=Classical.not_imp.1 hi;exact⟨i,hi,by simpa using hl⟩
    obtain⟨i,hi,hl⟩:=this;induction i using Nat.strongRecOn with
    | _ i ihi =>
     by_cases hj:∃ j,j < i/\L.getD j false=false
     ·obtain⟨j,hji,hjl⟩:=hj
      exact ihi j hji Aa hjl
     ·refine⟨i,hi,hl,fun j hji=>?_⟩
      cases hjl:L.getD j false with
      | true=>rfl
      | false=>exact absurd ⟨j,hji,hjl⟩ hj
   obtain⟨i0,hi0,hl0,hlow0⟩:=hex;have hi0s:i0 < ops.size:=Nat.lt_of_lt_of_le hi0 c.hk;have hi0o:ops[i0]? = some ops[i0]:=Array.getElem?_eq_getElem hi0s;have hr0:i0∈Region.ready .any ops L:=DN.2 ⟨hi0s,by rw[hun i0 hi0s];exact hl0,_,hi0o,fun e he hb=>hlow0 _ (c.edges i0 _ hi0o e he hb)⟩;refine⟨fun h0=>(by rw[h0]at hr0;cases hr0),fun i hi=>?_⟩;obtain⟨h1,h2,o,ho,he⟩:=DN.1 hi;rw[hun i h1]at h2;have hT:=c.up h.closed i o ho he
   have hik:i < k:=by
    rcases Nat.lt_or_ge i k with hlt | hge
    ·exact hlt
    ·exfalso
     exact hall fun j hj=>hT j (c.tail i hge h1 j Aa Ac)
   have hs:=hstep i hik γ w h.ext (fun j hj=>h.facts j (by
    have hjl:=hT j hj;rcases Nat.lt_or_ge j k with hlt | hge
    ·exact hlt
    ·rw[h.low j hge]at hjl;cases hjl) (hT j hj))
   rw[ho]at hs;have hcnt:(List.range ops.size).countP (fun j=>!(L.setIfInBounds i true).getD j false)<=fuel:=by
    have hiL:i < L.size:=by rw[h.size];exact h1
    have hlt:(List.range ops.size).countP (fun j=>!(L.setIfInBounds i true).getD j false) < (List.range ops.size).countP (fun j=>!L.getD j false):=by
     have hle:∀(l:List Nat),l.countP (fun j=>!(L.setIfInBounds i true).getD j false)<=l.countP (fun j=>!L.getD j false):=fun l =>
      List.countP_mono_left fun j _ hj=>by
       rw[BV hiL]at hj
       split at hj
       ·simp at hj
       ·exact hj
     have hspl:List.range ops.size=List.range i ++ i::List.range' (i+1) (ops.size - i - 1):=by
      rw[ET ops.size i Aa,show ops.size - i=(ops.size - i - 1)+1 from Aa,List.range'_succ];simp
     rw[hspl,List.countP_append,List.countP_append,List.countP_cons,List.countP_cons];have a1:=hle (List.range i);have a2:=hle (List.range' (i+1) (ops.size - i - 1));rw[BV hiL,if_pos rfl,h2];simp only[Bool.not_true,Bool.not_false,if_true,Bool.false_eq_true,if_false];omega
    omega
   rcases hs with⟨hg,hu⟩ | ⟨g,b,hgd,hgv,hna,hv,hF⟩
   ·unfold wpOp
    rw[ho];show if _ then _ else _;rw[if_pos (Jv c h hik ho hT hg)];refine .inl (Gw.wp (RB hu) (Ll c hE h hik ho hT) fun v w' hvw=>?_);obtain⟨⟨q1,q2,q3⟩,q4⟩:=hvw;exact ih (upd γ i v) _ _ w' hcnt (MW c hD hmono h hik ho h2 he q1 q2 q3 q4)
   ·unfold wpOp
    rw[ho];show if _ then _ else _;rw[if_neg (by rw[RG c h hik ho hT hgd hgv];decide)];exact ih (upd γ i undef) _ _ w hcnt (MW c hD hmono h hik ho h2 he (Ext.refl w) hv hF fun⟨t,ht⟩=>absurd ht (hna t))
end
def YG(P:Program)(ops:Array Oper)(EK:List Nat)(EV:List Value)(W0:World)(D:List Nat)(T:List (List Nat))(VL:List ((Nat->Value)->Value))(FL:(Nat->Value)->World->List Prop)(i:Nat):Prop:=
 ∀ γ w,Ext W0 w->(∀ j,j∈T.getD i []->gF FL γ w j) ->
  match ops[i]? with
  | none=>False
  | some o=>((match o.guard with | none=>True | some (g,b)=>gV VL γ g = .bool b) /\
   ∀ R:Value->World->Prop,WE (∀ v w',Ext w w'->gV VL (upd γ i v) i=v->gF FL (upd γ i v) w' i->R v w')->Gw P R ((execOp (G5 EK EV D (gV VL γ)) o).run P w)) \/
   ∃ g b,o.guard=some (g,b)/\gV VL γ g = .bool (!b)/\(∀ t,o.op ≠ .alloc t)/\gV VL (upd γ i undef) i=undef/\gF FL (upd γ i undef) w i
section
variable{P:Program}{ops:Array Oper}{Q:Exit->Act->World->Prop}{a0:Act}{W0:World}
theorem kQ{id:Nat}(k:Nat)(D:List Nat)(EK:List Nat)(EV:List Value)(VL:List ((Nat->Value)->Value))(FL:(Nat->Value)->World->List Prop)
  (hstep:Av k (YG P ops EK EV W0 D (NR ops) VL FL))
  (htail:∀ γ w,Ext W0 w->Av k (fun i=>gF FL γ w i)->wpList P ops Q (ops.toList.drop k) (AZ a0 (gV VL γ) 0 D) w)
  (hmono:Av k (fun i=>∀ γ w w',Ext w w'->gF FL γ w i->gF FL γ w' i):=by exact V4)
  (hE:IB a0 EK EV:=by exact Kg) (hm:P.follows .mixedOrders=true:=by kernel_rfl) (hc:LB ops k D (NR ops) EK []=true:=by kernel_rfl) (hD:D.all (fun d=>Nat.blt d a0.tmps.size)=true:=by rfl)
  (hT:(List.range k).all (fun i=>((NR ops).getD i []).all fun j=>Nat.blt j i&&((NR ops).getD j []).all fun m=>((NR ops).getD i []).contains m)=true:=by kernel_rfl)
  (hloc:Av k (Oe (NR ops) VL FL):=by exact Kw) :
  (Code.region id ops true).wp P Q a0 W0:=by
 obtain⟨T,hTe⟩:∃ T,T=NR ops:=⟨_,rfl⟩
 rw[<-hTe]at hstep hc hT hloc;have c:=Mg hc;have hT':∀ i,i < k->∀ j∈T.getD i [],j < i/\∀ m∈T.getD j [],m∈T.getD i []:=fun i hi j hj=>by
  have:=List.all_eq_true.1 (List.all_eq_true.1 hT i (List.mem_range.2 hi)) j hj;simp only[Bool.and_eq_true,Nat.blt_eq,List.all_eq_true]at this;exact⟨this.1,fun m hm=>by simpa using this.2 m hm⟩
 have hF:∀ i,(Array.replicate ops.size false).getD i false=false:=fun i=>by
  rw[Array.getD_eq_getD_getElem?,Array.getElem?_replicate];split<;>rfl
 have msk:∀(l:List Nat) (γ:Nat->Value) j,l.contains j=true->E8 l γ j=γ j:=fun l γ j h=>by unfold E8;rw[if_pos h]
 have lV:∀ i,i < k->∀ γ,gV VL (E8 (i::T.getD i []) γ) i=gV VL γ i:=fun i hi γ=>(hloc.get i hi _ _ fun j hj=>msk _ γ j hj).1;have lF:∀ i,i < k->∀ γ w,gF FL (E8 (i::T.getD i []) γ) w i=gF FL γ w i:=fun i hi γ w=>(hloc.get i hi _ _ fun j hj=>msk _ γ j hj).2 w;have pv:∀ γ i,i < k->Bp T (fun γ i=>gV VL γ i) γ i=gV VL γ i:=fun γ i hi=>lV i hi γ;have pe:∀ γ,G5 EK EV D (Bp T (fun γ i=>gV VL γ i) γ)=G5 EK EV D (gV VL γ):=fun γ=>by
  funext x
  cases x with
  | tmp t =>
   rw[Iy hE,Iy hE];cases hd:D.idxOf? t with
   | none=>rfl
   | some j =>
    obtain⟨hlt,_⟩:=List.findIdx?_eq_some_iff_getElem.1 (show D.findIdx? (· == t)=some j from hd);exact pv γ j (by rw[<-c.hlen];exact hlt)
  | const v=>rfl
  | global g=>rfl
  | func f=>rfl
 refine wp_region_any hm ?_;refine SY (W0:=W0) (V:=fun γ i=>gV VL γ i) (F:=fun i γ w=>gF FL γ w i) c hE (fun d hd=>by simpa[Nat.blt_eq] using List.all_eq_true.1 hD d hd) (fun i γ w w' hi=>hmono.get i hi γ w w') (fun i hi γ w he hf=>?_)
  (fun γ w he hf hap=>?_) ops.size (fun _=>undef) _ _ _ ?_ ?_
 ·have hs:=hstep.get i hi γ w he (fun j hj=>by
   have h1:=hT' i hi j hj;rw[<-lF j Aa γ w];exact hf j hj)
  cases ho:ops[i]? with
  | none=>rw[ho]at hs;exact hs
  | some o =>
   rw[ho]at hs;rcases hs with⟨h1,h2⟩ | ⟨g,b,h1,h2,h3,h4,h5⟩
   ·refine .inl ⟨?_,?_⟩
    ·cases hg:o.guard with
     | none=>trivial
     | some p =>
      obtain⟨g,b⟩:=p;rw[hg]at h1;have:=c.guard i o g b ho hi hg;exact(pv γ g this.2).trans h1
    ·rw[pe]
     have e:(fun v w'=>Ext w w'/\gV VL (E8 (i::T.getD i []) (upd γ i v)) i=v/\gF FL (E8 (i::T.getD i []) (upd γ i v)) w' i)=(fun v w'=>Ext w w'/\gV VL (upd γ i v) i=v/\gF FL (upd γ i v) w' i):=by
      funext v w'
      rw[lV i hi,lF i hi]
     rw[e];exact h2 _ (fun v w' a b c=>⟨a,b,c⟩)
   ·refine .inr ⟨g,b,h1,?_,h3,?_,?_⟩
    ·have:=c.guard i o g b ho hi h1
     exact(pv γ g this.2).trans h2
    ·exact(lV i hi _).trans h4
    ·show gF FL (E8 (i::T.getD i []) (upd γ i undef)) w i
     rw[lF i hi];exact h5
 ·have h1:=htail γ w he (M3 fun i hi=>by rw[<-lF i hi γ w];exact hf i hi)
  have e:AZ a0 (Bp T (fun γ i=>gV VL γ i) γ) 0 D=AZ a0 (gV VL γ) 0 D:=by
   have key:∀(ds:List Nat) (i:Nat) (a:Act),i+ds.length<=k->AZ a (Bp T (fun γ i=>gV VL γ i) γ) i ds=AZ a (gV VL γ) i ds:=by
    intro ds;induction ds with
    | nil=>intro i a _;rfl
    | cons d ds ih =>
     intro i a hk;simp only[List.length_cons]at hk;show AZ (a.put (some d) (Bp T (fun γ i=>gV VL γ i) γ i)) _ (i+1) ds=AZ (a.put (some d) (gV VL γ i)) _ (i+1) ds;rw[pv γ i Aa];exact ih _ _ Aa
   exact key D 0 a0 (by rw[c.hlen];omega)
  rw[e];exact h1
 ·exact Nat.le_trans List.countP_le_length Ac
 ·have hN:∀ {p:Prop} i,(Array.replicate ops.size false).getD i false=true->p:=fun i h=>absurd ((hF i).symm.trans h) Ab
  exact⟨Ac,fun i o h=>hN i h,fun i _=>hF i,rfl,rfl,fun i _ h=>hN i h,fun t _=>rfl,(Ext.refl W0).drew,fun i _ h=>hN i h,fun i _ h=>hN i h,fun i _ _ _ _ h=>hN i h⟩
end
theorem PP{A:World->Prop}{B:(Nat->Value)->World->Prop}{H:(Nat->Value)->World->(Value->World->Prop)->Prop}{C:(Nat->Value)->World->(Value->World->Prop)->Prop}{X:(Nat->Value)->World->Prop}
  (h:∀ γ w,A w->∀ R,H γ w R->C γ w R) (γ:Nat->Value) (w:World) (a:A w) (_:B γ w):(True/\∀ R,H γ w R->C γ w R)\/X γ w := .inl ⟨trivial,fun R=>h γ w a R⟩
theorem WL(w:World)(t:TypeId){g:Nat}(hg:g=w.heap.size){b1 b2 b3 b4:Value}{A1 A2 A3 A4:Option Addr}{n1 n2 n3 n4 c1 c2 c3 c4:Nat}
  (h1:n1<=1000000000000/\n2<=1000000000000/\n3<=1000000000000/\n4<=1000000000000) :
  iZ (w.alloc (.cells #[b1,.slice A1 n1 c1,b2,.slice A2 n2 c2,b3,.slice A3 n3 c3,b4,.slice A4 n4 c4] t)) g [(n1,n2,n3,n4)]:=by
 subst hg;intro j hj;have hj2:j < 1:=by simpa using hj
 have hc:∀ i,(w.alloc (.cells #[b1,.slice A1 n1 c1,b2,.slice A2 n2 c2,b3,.slice A3 n3 c3,b4,.slice A4 n4 c4] t)).cell? ⟨w.heap.size,i,none⟩=_:=fun i=>cell_of_row _ w.heap.size i _ t (0,0) (heap_alloc_new w _)
 match j,hj2 with
 | 0,_=>exact⟨A1,c1,A2,c2,A3,c3,A4,c4,hc 1,hc 3,hc 5,hc 7,h1⟩
def PE(b:Nat)(w:World)(v:Value)(F:Nat->Rat):Prop:=∃ m,Ey b w v m/\m.length<=1000/\cz m=F
def gB(w:World)(v:Value)(F:Nat->Rat):Prop:=PE 0 w v F
theorem PE.ext{b:Nat}{w w':World}{v:Value}{F:Nat->Rat}(h:PE b w v F)(e:Ext w w'):PE b w' v F:=by obtain⟨m,a,c⟩:=h;exact⟨m,a.ext e,c⟩
theorem gB.ext{w w':World}{v:Value}{F:Nat->Rat}(h:gB w v F)(e:Ext w w'):gB w' v F:=PE.ext h e
theorem PE.low{b c:Nat}{w:World}{v:Value}{F:Nat->Rat}(h:PE b w v F)(hc:c<=b):PE c w v F:=by obtain⟨m,a,d⟩:=h;exact⟨m,CE.base_le a hc,d⟩
theorem PE.fp{b:Nat}{w:World}{v:Value}{F:Nat->Rat}(h:PE b w v F):gB w v F:=h.low (Nat.zero_le _)
theorem PE.upd{b:Nat}{G:List Nat}{w w':World}{v:Value}{F:Nat->Rat}(h:PE b w v F)(U:Cj G w w')(hG:∀ g∈G,g < b):PE b w' v F:=by
 obtain⟨m,a,d⟩:=h;exact⟨m,CE.upd a U hG fun _ _ q=>q.kd U.kd,d⟩
theorem AY.hzb{base:Nat}{w:World}{v:Value}{F:Nat->Rat}(h:AY base w v F)(hs:∀ i,qsz (F i)<=1099511627776):∃ l,Ey base w v l/\l.length=pl F/\cz l=F:=by
 obtain⟨l,h1,h2,h3⟩:=h;have e:=(show AY base w v F from⟨l,h1,h2,h3⟩).zs;subst h3;have hp:l.length=pl (cz l):=by
  obtain⟨l',k1,k2,k3,k4⟩:=e;obtain⟨A,c,rfl,-⟩:=h1;obtain⟨A',c',e',-⟩:=k1;injection e' with _ e' _;omega
 refine⟨l,?_,hp,rfl⟩;obtain⟨A,c,h1,h2,h3,h4⟩:=h1;refine⟨A,c,h1,h2,h3,fun h0=>?_⟩;obtain⟨g,o,a,b,q⟩:=h4 h0;refine⟨g,o,a,b,fun j hj=>?_⟩;obtain⟨cs,r1,r2,r3⟩:=q j hj;refine⟨cs,r1,r2,r3.has ?_⟩;have:=hs j;rw[Cb hj,Bz]at this;omega
theorem Kz.oldr{F W R:Nat->Rat}{D:List Rat}{m:Nat}{r:Rat}(e:Bool)(h:Kz F W R D m)(hr:r∈D):∃ W' R' m',Kz (if e then cv (cv F (cz (Cw r))) (cz (Cw r))else cv F (cz (Cw r))) W' R' D m'/\m'<=m+2:=by
 cases e
 ·exact⟨_,_,_,h.same hr,Aa⟩
 ·exact⟨_,_,_,(h.same hr).same hr,Aa⟩
theorem Kz.newr{F W R:Nat->Rat}{D:List Rat}{m:Nat}{r:Rat}(e:Bool)(h:Kz F W R D m)(hr:r∉D)(d1:r.num.natAbs < 4294967296)(d2:r.den < 4294967296):∃ W' R' m',Kz (if e then cv (cv F (cz (Cw r))) (cz (Cw r))else cv F (cz (Cw r))) W' R' (D ++ [r]) m'/\m'<=m+2:=by
 cases e
 ·exact⟨_,_,_,h.new hr d1 d2,Aa⟩
 ·exact⟨_,_,_,(h.new hr d1 d2).same Ac,Aa⟩
theorem XZ{r:Rat}(h1:r.num.natAbs < 4294967296)(h2:r.den < 4294967296)(i:Nat):qsz (cz (Cw r) i)<=1:=BO (ZI.cz _) Ab (by
 match i with
 | 0 =>
  have e0:(cz (Cw r) 0).num = -r.num:=by rw[Cb (by simp[Cw])];rfl
  rw[e0,Int.natAbs_neg,Nh];exact h1
 | 1 =>
  have e1:(cz (Cw r) 1).num=(r.den:Int):=by rw[Cb (by simp[Cw])];rfl
  rw[e1,Nh];simpa using h2
 | i+2=>rw[bO];decide)
end Go.Hp
namespace Go.Proofs.YtmhgnigpmompmaaGreat
open Go.RowKit Go.Hp
theorem Ng(v:Value)(F:Nat->Rat)(D M:Nat)(w:World)(hv:AY 0 w v F)(hR:Pg F D M):Bj 50 #[v] w (fun r w'=>NU w.heap.size 23 w' r (sqf F)):=by
 obtain⟨S,n,M1,T,h1⟩:=hR.sim;obtain⟨S2,h2⟩:=hR.chn;exact YH v F (sqf F) S n M1 T S2 D M w hv h1 rfl h2
theorem Ya(v:Value)(F:Nat->Rat)(D M:Nat)(w:World)(hv:AY 0 w v F)(hR:Pg F D M):Bj 67 #[v] w (fun r w'=>AC w' r (2^bx F)):=
 Ah.imp (Zm v F 1000 w hv hR.z hR.f hR.n0 hR.q Aa hR.pln) fun _ _ ⟨j,h1,h2⟩=>by rw[<-h1.bx];exact h2
theorem R9(v:Value)(F:Nat->Rat)(D M:Nat)(w:World)(hv:AY 0 w v F)(hR:Pg F D M):Bj 52 #[v] w (fun r w'=>Kj w' r (-(2:Rat)^bx F) ((2:Rat)^bx F)):=by
 have hb:=fun X (x:Ext w X)=>Ya v F D M X (hv.ext x) hR;have hbx:=O5 hR.q;obtain⟨j,hj⟩:∃ j,j=bx F:=⟨_,rfl⟩
 rw[<-hj]at hb hbx ⊢;have hz:=Jj j;have hq:=(PY j).1;obtain⟨A0,c0,rfl,-⟩:=hv.shape;have HC:=Ad (Au hb (Au (show sz ((2:Int)^j).natAbs<=1099511627776 by omega) (show qsz ((2:Rat)^j)<=274877906944 by omega)));clear hb hbx hj hz hq hv hR
 go_enter Tryz.func52,Tryz.ntmps52
 obtain⟨W1,eW1,ez,y1⟩:=Be.made w 30 #[.bool false,.slice none 0 0,.bool false,.slice none 0 0,.bool false,.slice none 0 0,.bool false,.slice none 0 0] (by simp[Ag])
 go_upto_region 1 with(fail)
 rw[<-eW1];clear eW1;have hx:=y1;clear y1
 go_wp2_with fail
 refine AR (HC.out.1 _ hx) ?_;rintro r2 w2 hr2 hx2;obtain⟨b5,A5,n5,c5,rfl⟩:=hr2.cells;have H2:=Ad (hr2.has HC.out.2.1);clear hr2;replace ez:=ez.ext hx2;replace hx:=hx.trans hx2;clear hx2
 go_wp2_with fail
 refine AR (GY _ _ _ H2.out) ?_;rintro r3 w3 hr3 hx3;rw[Kr]at hr3;obtain⟨b6,A6,n6,c6,b7,A7,n7,c7,rfl⟩:=hr3.cells;replace ez:=ez.ext hx3;replace hx:=hx.trans hx3;clear hx3;obtain⟨W4,eW4,eb,y4⟩:=Be.made w3 28 #[.bool b6,.slice A6 n6 c6,.bool b7,.slice A7 n7 c7] (by simp[Ag]);have hb4:=hr3.ext y4;have hgb:=ez.lt;replace ez:=ez.ext y4;replace hx:=hx.trans y4;clear y4;clear hr3 H2
 go_upto_region 2 with(fail)
 rw[<-eW4];clear eW4;generalize w3.heap.size=gb at *;have HB:=Ad (Au hb4 (hb4.has HC.out.2.2));clear hb4;have ceb:=eb.cells4;have feb:=eb.frozen;refine CV 3 [7,8,9] [3] [_] [(kv ?_),(fun γ=>γ 1),(kv ?_)] (fun γ w'=>[True,BQ w' (γ 1) (-(2:Rat)^j),True]) ?s1 ?_
 case s1 =>
  iterate 3 refine⟨?_,?_⟩
  trivial
  iterate 1 focus
   refine Ba fun _ w' he R hR=>?_;have hc:=he.cells;have cq0:=(eb.ext he).cells4;go_simp;exact Bi hR
  ·refine Ba fun _ w' he R hR=>?_
   go_simp;exact Bg (aQ _ _ w' (HB.out.2.ext he)) hR
  iterate 1 focus
   refine Ba fun _ w' he R hR=>?_;have hc:=he.cells;have cq0:=(eb.ext he).cells4;go_simp;exact Bi hR
 intro γ w5 hx5 hF;have p1:BQ w5 (γ 1) (-(2:Rat)^j):=Av.get hF 1 Ab;clear hF;simp only[Bd,Nat.reduceAdd];generalize γ 1=g1 at *;clear γ;obtain⟨b8,A8,n8,c8,b9,A9,n9,c9,rfl⟩:=p1.cells;have HF:=Ad (Au p1 (HB.out.1.ext hx5));clear ceb feb p1;replace ez:=ez.ext hx5;replace hx:=hx.trans hx5;clear hx5;have p1:=HF.out.1;have p2:=HF.out.2;clear HF;have cez:=ez.cells8;have fez:=ez.frozen;go_wp2;obtain⟨W6,eW,ez',U⟩:=ez.put8 (.bool b8) (.slice A8 n8 c8) (.bool b9) (.slice A9 n9 c9) (.bool b6) (.slice A6 n6 c6) (.bool b7) (.slice A7 n7 c7)
 rw[<-eW];clear eW ez;replace p1:=p1.kd U.kd;replace p2:=p2.kd U.kd;replace hx:=U.from_ hx Ak;have ez:=ez';clear U ez';clear cez fez;have cez:=ez.cells8;have fez:=ez.frozen;refine bodyPost_ret (v := .agg #[.bool b8,.slice A8 n8 c8,.bool b9,.slice A9 n9 c9,.bool b6,.slice A6 n6 c6,.bool b7,.slice A7 n7 c7]) (by simp[results,Tryz.results52,go_sem,cez]) rfl ?_;exact Ah.mk ⟨_,_,_,_,_,_,_,_,_,_,_,_,_,_,_,_,rfl,p1,p2⟩ hx
def V7(F:Nat->Rat)(x:Int)(r:Value):Prop:=r = .tuple #[.int .i64 (if D7 F=0 then x else 0),.int .i64 (D7 F)]
theorem Yo(v:Value)(l:List Int)(D M:Nat)(w:World)(hv:Ey 0 w v l)(hn:l.length<=1000000)(hR:D7 (cz l)=0->Pg (cz l) D M) :
  Bj 17 #[v] w (fun r _=>V7 (cz l) (rc (sqf (cz l)) (-(2:Rat)^bx (cz l)) ((2:Rat)^bx (cz l))) r):=by
 have HV:=Ad (Au hv hR);obtain⟨A,c,rfl⟩:=hv.len;clear hv hR;obtain⟨X0,hX0⟩:∃ X,X=rc (sqf (cz l)) (-(2:Rat)^bx (cz l)) ((2:Rat)^bx (cz l)):=⟨_,rfl⟩
 rw[<-hX0];have HX0:=Ad hX0;clear hX0
 go_enter Tryz.func17,Tryz.ntmps17
 go_wp2_with fail
 refine AR (Tp _ l _ HV.out.1 hn) ?_;rintro r2 w2 ⟨u,rfl,hu1,hu2⟩ hx;obtain⟨E,hE⟩:∃ E,E=D7 (cz l):=⟨_,rfl⟩
 have hc:=Fv (cz l);rw[<-hE]at hu1 hu2 hc ⊢;have HE:=Ad hE;clear hE;have fin:E≠0->∀ {W:World},Ext w W->Ah w (fun r _=>V7 (cz l) X0 r) (.returned (.tuple #[.int .i64 0,.int .i64 E])) W:=fun hne W h=>Ah.mk (by unfold V7;rw[<-HE.out,if_neg hne]) h;have Hfin:=Ad fin;clear fin;rcases hc with⟨-,hc⟩ | ⟨-,hc⟩ | ⟨h0,hp,-,hc⟩
 ·subst hc
  clear hu1 hu2;go_wp2;refine bodyPost_ret (v := .tuple #[.int .i64 0,.int .i64 5]) (by simp[results,Tryz.results17,go_sem]) rfl ?_;exact Hfin.out Ab hx
 ·subst hc
  clear hu1 hu2;go_wp2;refine bodyPost_ret (v := .tuple #[.int .i64 0,.int .i64 7]) (by simp[results,Tryz.results17,go_sem]) rfl ?_;exact Hfin.out Ab hx
 subst hc;have hR:=HV.out.2 HE.out.symm;have hu:=hu1 rfl;have hlim:=hR.lim;have hbx:=O5 hR.q;obtain⟨A1,c1,rfl,-⟩:=hu.shape;have HU:=Ad (Au hu hR);clear hu1 hu2 hR h0 hu;have h22:=Ext.refl w2;obtain⟨j,hj⟩:∃ j,j=bx (cz l):=⟨_,rfl⟩
 have hqj:=PY j;rw[<-hj]at hbx;have HJ:=Ad (Au hj (Au hqj hbx));clear hqj
 go_wp2_with fail
 refine AR (R9 _ (cz l) D M _ HU.out.1 HU.out.2) ?_;rintro r3 w3 hr3 hx3;obtain⟨b1,B1,m1,k1,b2,B2,m2,k2,b3,B3,m3,k3,b4,B4,m4,k4,rfl,hi1,hi2⟩:=hr3;rw[<-hj]at hi1 hi2;clear hj;replace hx:=hx.trans hx3;replace h22:=h22.trans hx3;clear hx3;obtain⟨W4,eW4,eb,y4⟩:=Be.made w3 30 #[.bool b1,.slice B1 m1 k1,.bool b2,.slice B2 m2 k2,.bool b3,.slice B3 m3 k3,.bool b4,.slice B4 m4 k4] (by simp[Ag]);have H3:=Ad (Au ((hi1.has (by have:=HJ.out.2.1.2;omega)).ext y4) (Au ((hi2.has (by have:=HJ.out.2.1.1;omega)).ext y4) (hx.trans y4)))
 clear hi1 hi2;replace hx:=hx.trans y4;replace h22:=h22.trans y4;clear y4
 go_upto_region 5 with(fail)
 rw[<-eW4];clear eW4;generalize w3.heap.size=gb at *;have ceb:=eb.cells8;have feb:=eb.frozen;have HW:=Ad (show AY 0 W4 (.slice A1 (pl (cz l)) c1) (cz l)from HU.out.1.ext h22);refine CV 6 [16,17,18,19,20,21] [0,5] [_,_] [(kv ?_),(fun γ=>γ 1),(kv ?_),(kv ?_),(kv ?_),(kv ?_)] (fun γ w'=>[True,NU 0 23 w' (γ 1) (sqf (cz l)),True,True,True,True]) ?s2 ?_
 case s2 =>
  iterate 6 refine⟨?_,?_⟩
  trivial
  iterate 1 focus
   refine Ba fun _ w' he R hR=>?_;have hc:=he.cells;go_simp;exact Bi hR
  ·refine Ba fun _ w' he R hR=>?_
   go_simp;exact Bg (F:=fun r w''=>NU 0 23 w'' (r) (sqf (cz l))) (Ah.imp (Ng _ (cz l) D M w' (HW.out.ext he) HU.out.2) fun _ _ h=>h.lower (Nat.zero_le _)) hR
  iterate 4 focus
   refine Ba fun _ w' he R hR=>?_;have hc:=he.cells;have cq0:=(eb.ext he).cells8;go_simp;exact Bi hR
 intro γ w5 hx5 hF;have p1:NU 0 23 w5 (γ 1) (sqf (cz l)):=Av.get hF 1 Ab;clear hF;simp only[Bd,Nat.reduceAdd];generalize γ 1=g1 at *;clear γ;have HP1:=Ad p1;obtain⟨cA,cn,cc,rfl⟩:=p1.cell;have hlim:=HU.out.2.lim;have hin:Bj 51 #[.agg #[.slice cA cn cc],.agg #[.bool b1,.slice B1 m1 k1,.bool b2,.slice B2 m2 k2],.agg #[.bool b3,.slice B3 m3 k3,.bool b4,.slice B4 m4 k4]] w5 (fun r _=>r = .int .i64 X0):=by
  obtain⟨S,hC⟩:=HU.out.2.chn;have hq:=HJ.out.2;have h9:D*(M+100000+1)<=900*(M+100000+1):=Nat.mul_le_mul_right _ hlim.2;have:=gM _ _ _ (sqf (cz l)) (-(2:Rat)^j) ((2:Rat)^j) 0 S D M 100000 (kn (sqf (cz l))) w5 HP1.out (H3.out.1.ext hx5) (H3.out.2.1.ext hx5) hC HU.out.2.k Aa Aa Aa;have e:((V (Gp (sqf (cz l)) (pd (sqf (cz l))) (kn (sqf (cz l)))) (-(2:Rat)^j):Nat):Int) - (V (Gp (sqf (cz l)) (pd (sqf (cz l))) (kn (sqf (cz l)))) ((2:Rat)^j):Nat)=X0:=by
   rw[HX0.out,<-HJ.out.1];exact La HU.out.2.k _ _
  rw[e]at this;exact this
 have HI:=Ad hin;clear hin p1
 go_wp2_with fail
 refine AR HI.out ?_;rintro r6 w6 rfl hx6;have hx7:=(hx.trans hx5).trans hx6;clear hx5 hx6;have HF:=Ad (show V7 (cz l) X0 (.tuple #[.int .i64 X0,.int .i64 0]) by unfold V7;rw[<-HE.out];rfl);go_wp2;refine bodyPost_ret (v := .tuple #[.int .i64 X0,.int .i64 0]) (by simp[results,Tryz.results17,go_sem]) rfl ?_;exact Ah.mk HF.out hx7
theorem QD(v u0:Value)(l:List Int)(p q:Rat)(D M t:Nat)(w:World)(hv:Ey 0 w v l)(hu0:V8 w u0 p q)(hn:l.length<=1000000)(hR:D7 (cz l)=0->Pg (cz l) D M)(hp:qsz p<=t)(hq:qsz q<=t)(ht:t<=10000000) :
  Bj 16 #[v,u0] w (fun r _=>Ir (cz l) p q r):=by
 have HV:=Ad (Au hv (Au hR (Au hp hq)));obtain⟨A,c,rfl⟩:=hv.len;obtain⟨b1,B1,m1,k1,b2,B2,m2,k2,b3,B3,m3,k3,b4,B4,m4,k4,rfl,hi1,hi2⟩:=hu0;have hsg:=F4 (p:=p) (q:=q);have HI:=Ad (Au hi1 (Au hi2 (show qsz p+qsz q < 274877906944 by omega)));clear hv hR hi1 hi2;obtain⟨X0,hX0⟩:∃ X,X=rc (sqf (cz l)) p q:=⟨_,rfl⟩
 have HX0:=Ad hX0;clear hX0
 go_enter Tryz.func16,Tryz.ntmps16
 obtain⟨W1,eW1,eb,y1⟩:=Be.made w 30 #[.bool b1,.slice B1 m1 k1,.bool b2,.slice B2 m2 k2,.bool b3,.slice B3 m3 k3,.bool b4,.slice B4 m4 k4] (by simp[Ag])
 go_upto_region 1 with(fail)
 rw[<-eW1];clear eW1;have hx:=y1;clear y1
 go_wp2_with fail
 refine AR (Tp _ l _ (HV.out.1.ext hx) hn) ?_;rintro r2 w2 ⟨u,rfl,hu1,hu2⟩ hx2;replace eb:=eb.ext hx2;replace hx:=hx.trans hx2;clear hx2;obtain⟨E,hE⟩:∃ E,E=D7 (cz l):=⟨_,rfl⟩
 have hc:=Fv (cz l);rw[<-hE]at hu1 hu2 hc ⊢;have HE:=Ad hE;clear hE;have fin:E≠0->∀ {W:World},Ext w W->Ah w (fun r _=>Ir (cz l) p q r) (.returned (.tuple #[.int .i64 0,.int .i64 E])) W:=fun hne W h=>Ah.mk (by unfold Ir;rw[<-HE.out,if_neg (fun z=>hne z.1),if_neg hne]) h;have Hfin:=Ad fin;clear fin;rcases hc with⟨-,hc⟩ | ⟨-,hc⟩ | ⟨h0,hpl,-,hc⟩
 ·subst hc
  clear hu1 hu2;go_wp2;refine bodyPost_ret (v := .tuple #[.int .i64 0,.int .i64 5]) (by simp[results,Tryz.results16,go_sem]) rfl ?_;exact Hfin.out Ab hx
 ·subst hc
  clear hu1 hu2;go_wp2;refine bodyPost_ret (v := .tuple #[.int .i64 0,.int .i64 7]) (by simp[results,Tryz.results16,go_sem]) rfl ?_;exact Hfin.out Ab hx
 subst hc;have hR:=HV.out.2.1 HE.out.symm;have hu:=hu1 rfl;obtain⟨A1,c1,rfl,-⟩:=hu.shape;have HU:=Ad (Au hu hR);clear hu1 hu2 hR h0 hu;have h22:=Ext.refl w2;have ceb:=eb.cells8;have feb:=eb.frozen
 go_wp2_with fail
 refine AR (WV _ _ p q _ (HI.out.1.ext hx) (HI.out.2.1.ext hx) HI.out.2.2) ?_;rintro r3 w3 rfl hx3;clear ceb feb;replace eb:=eb.ext hx3;replace hx:=hx.trans hx3;replace h22:=h22.trans hx3;clear hx3;generalize Eb (p - q)=m at *;by_cases hqp:q < p
 ·rw[decide_eq_true hqp]at hsg
  have HF:=Ad (show Ir (cz l) p q (.tuple #[.int .i64 0,.int .i64 2]) by unfold Ir;rw[<-HE.out,if_neg (fun z=>by have:=z.2;grind),if_pos rfl,if_neg Af]);go_wp2;refine bodyPost_ret (v := .tuple #[.int .i64 0,.int .i64 2]) (by simp[results,Tryz.results16,go_sem]) rfl ?_;exact Ah.mk HF.out hx
 rw[decide_eq_false hqp]at hsg;have HW:=Ad (HU.out.1.ext h22);have ceb:=eb.cells8;have feb:=eb.frozen
 go_upto_region 6 with(fail)
 refine CV 6 [21,22,23,24,25,26] [0,3] [_,_] [(kv ?_),(fun γ=>γ 1),(kv ?_),(kv ?_),(kv ?_),(kv ?_)] (fun γ w'=>[True,NU 0 23 w' (γ 1) (sqf (cz l)),True,True,True,True]) ?s1 ?_
 case s1 =>
  iterate 6 refine⟨?_,?_⟩
  trivial
  iterate 1 focus
   refine Ba fun _ w' he R hR=>?_;have hc:=he.cells;go_simp;exact Bi hR
  ·refine Ba fun _ w' he R hR=>?_
   go_simp;exact Bg (F:=fun r w''=>NU 0 23 w'' (r) (sqf (cz l))) (Ah.imp (Ng _ (cz l) D M w' (HW.out.ext he) HU.out.2) fun _ _ h=>h.lower (Nat.zero_le _)) hR
  iterate 4 focus
   refine Ba fun _ w' he R hR=>?_;have hc:=he.cells;have cq0:=(eb.ext he).cells8;go_simp;exact Bi hR
 intro γ w5 hx5 hF;have p1:NU 0 23 w5 (γ 1) (sqf (cz l)):=Av.get hF 1 Ab;clear hF;simp only[Bd,Nat.reduceAdd];generalize γ 1=g1 at *;clear γ;have HP1:=Ad p1;obtain⟨cA,cn,cc,rfl⟩:=p1.cell;have hlim:=HU.out.2.lim;have hin:Bj 51 #[.agg #[.slice cA cn cc],.agg #[.bool b1,.slice B1 m1 k1,.bool b2,.slice B2 m2 k2],.agg #[.bool b3,.slice B3 m3 k3,.bool b4,.slice B4 m4 k4]] w5 (fun r _=>r = .int .i64 X0):=by
  obtain⟨S,hC⟩:=HU.out.2.chn;have h9:D*(M+t+1)<=900*(M+t+1):=Nat.mul_le_mul_right _ hlim.2;have:=gM _ _ _ (sqf (cz l)) p q 0 S D M t (kn (sqf (cz l))) w5 HP1.out (HI.out.1.ext (hx.trans hx5)) (HI.out.2.1.ext (hx.trans hx5)) hC HU.out.2.k HV.out.2.2.1 HV.out.2.2.2 Aa;have e:((V (Gp (sqf (cz l)) (pd (sqf (cz l))) (kn (sqf (cz l)))) p:Nat):Int) - (V (Gp (sqf (cz l)) (pd (sqf (cz l))) (kn (sqf (cz l)))) q:Nat)=X0:=by
   rw[HX0.out];exact La HU.out.2.k _ _
  rw[e]at this;exact this
 have HIN:=Ad hin;clear hin p1
 go_wp2_with fail
 refine AR HIN.out ?_;rintro r6 w6 rfl hx6;have hx7:=(hx.trans hx5).trans hx6;clear hx5 hx6;have HF:=Ad (show Ir (cz l) p q (.tuple #[.int .i64 X0,.int .i64 0]) by unfold Ir;rw[<-HE.out,if_pos ⟨rfl,Af⟩,if_pos rfl,if_pos Af,HX0.out]);go_wp2;refine bodyPost_ret (v := .tuple #[.int .i64 X0,.int .i64 0]) (by simp[results,Tryz.results16,go_sem]) rfl ?_;exact Ah.mk HF.out hx7
theorem Mk(v:Value)(l:List Int)(D M N:Nat)(w:World)(hv:Ey 0 w v l)(hn:l.length<=1000000)(hR:D7 (cz l)=0->Pg (cz l) D M)
  (hdeep:D7 (cz l)=0->∀ d p q,Hp.Node (-(2:Rat)^bx (cz l)) ((2:Rat)^bx (cz l)) d p q->N<=d->rc (sqf (cz l)) p q<=1) (hN:N<=1000000000) (hD:D<=30) :
  Bj 25 #[v] w (fun r w'=>Yv w.heap.size 30 (cz l) N r w'):=by
 have HV:=Ad (Au hv (Au hR hdeep));obtain⟨A,c,rfl⟩:=hv.len;clear hv hR hdeep
 go_enter Tryz.func25,Tryz.ntmps25
 go_wp2_with fail
 refine AR (Tp _ l _ HV.out.1 hn) ?_;rintro r2 w2 ⟨u,rfl,hu1,hu2⟩ hx;obtain⟨E,hE⟩:∃ E,E=D7 (cz l):=⟨_,rfl⟩
 have hc:=Fv (cz l);rw[<-hE]at hu1 hu2 hc ⊢;have HE:=Ad hE;clear hE;have fin:E≠0->∀ {W:World},Ext w W->Ah w (fun r w'=>Yv w.heap.size 30 (cz l) N r w') (.returned (.tuple #[.slice none 0 0,.int .i64 E])) W:=fun hne W h=>Ah.mk ⟨_,by rw[<-HE.out],fun e=>absurd (HE.out.trans e) hne,fun _=>rfl⟩ h;have Hfin:=Ad fin;clear fin;rcases hc with⟨-,hc⟩ | ⟨-,hc⟩ | ⟨h0,hpl,-,hc⟩
 ·subst hc
  clear hu1 hu2;go_wp2;refine bodyPost_ret (v := .tuple #[.slice none 0 0,.int .i64 5]) (by simp[results,Tryz.results25,go_sem]) rfl ?_;exact Hfin.out Ab hx
 ·subst hc
  clear hu1 hu2;go_wp2;refine bodyPost_ret (v := .tuple #[.slice none 0 0,.int .i64 7]) (by simp[results,Tryz.results25,go_sem]) rfl ?_;exact Hfin.out Ab hx
 subst hc;have hR:=HV.out.2.1 HE.out.symm;have hu:=hu1 rfl;obtain⟨A1,c1,rfl,-⟩:=hu.shape;have HU:=Ad (Au hu hR);clear hu1 hu2 hR h0 hu
 go_wp2_with fail
 refine AR (Ng _ (cz l) D M _ HU.out.1 HU.out.2) ?_;rintro r3 w3 hr3 hx3;have hsz3:=hx3.size;have hszx:=hx.size;obtain⟨cA,cn,cc,rfl⟩:=hr3.cell;have HU3:=Ad (HU.out.1.ext hx3);have HC:=Ad hr3;replace hx:=hx.trans hx3;clear hx3;clear hr3
 go_wp2_with fail
 refine AR (R9 _ (cz l) D M _ HU3.out HU.out.2) ?_;rintro r4 w4 hr4 hx4;have hsz4:=hx4.size;obtain⟨b1,B1,m1,k1,b2,B2,m2,k2,b3,B3,m3,k3,b4,B4,m4,k4,rfl⟩:=hr4.cells;have HI:=Ad hr4;have HX4:=Ad (hx.trans hx4);clear hr4;have hcall:Calls Tryz.prog 64 #[.agg #[.slice cA cn cc],.slice none 0 0,.agg #[.bool b1,.slice B1 m1 k1,.bool b2,.slice B2 m2 k2,.bool b3,.slice B3 m3 k3,.bool b4,.slice B4 m4 k4]] w4
   (Tx w3.heap.size 30 w4 (.slice none 0 0) ([] ++ iso (rc (sqf (cz l))) N (-(2:Rat)^bx (cz l)) ((2:Rat)^bx (cz l)))):=by
  obtain⟨S,hC⟩:=HU.out.2.chn;have hbx:=O5 HU.out.2.q;have hqj:=PY (bx (cz l));have hM:=HU.out.2.lim.1;have hpos:=BP (bx (cz l));have hPQ : -(2:Rat)^bx (cz l) < (2:Rat)^bx (cz l):=by grind
  have hsf:=HU.out.2.sf;have h9:D*(M+(3*100000+N+4)+1)<=30*(M+(3*100000+N+4)+1):=Nat.mul_le_mul_right _ hD;have hdp:=HV.out.2.2 HE.out.symm;have hnodes:=Oy hsf hPQ hdp N 0 _ _ (Hp.Node.root _ _) Aa;have hlen:(iso (rc (sqf (cz l))) N (-(2:Rat)^bx (cz l)) ((2:Rat)^bx (cz l))).length<=1000:=by
   have h1:=hnodes.2.1;have h2:rc (sqf (cz l)) (-(2:Rat)^bx (cz l)) ((2:Rat)^bx (cz l))<=1000:=by
    rw[<-La HU.out.2.k];unfold rts;have h3:=bM (Gp (sqf (cz l)) (pd (sqf (cz l))) (kn (sqf (cz l)))) (-(2:Rat)^bx (cz l));rw[Et]at h3;obtain⟨K0,q1,q2⟩:=GG hC.f (Bw hC.f) hC.z (CU hC.z) hC.s hC.d;rw[q1.uniq HU.out.2.k]at q2;have:=hC.e;omega
   omega
  exact VT w3 _ (sqf (cz l)) _ _ _ S D M (kn (sqf (cz l))) N 100000 HC.out hC HU.out.2.k hPQ Aa Aa hdp (fun d p q hn=>hsf.nonneg (Std.le_of_lt (hn.within hPQ).2.1)) Aa
   N 0 _ _ _ _ [] w4 (Hp.Node.root _ _) Aa Aa hx4 (HI.out.has Aa Aa) (Ep.nil _ _ _) (by simpa using hlen)
 have HK:=Ad hcall;clear hcall
 go_wp2_with fail
 refine Calls.mono HK.out ?_;rintro e w5 ⟨r5,rfl,hown,U,-⟩;have hx5:Ext w w5:=U.from_ HX4.out (fun g hg=>by simp[blk,Value.ownBlock]at hg);have HF:=Ad (show Yv w.heap.size 30 (cz l) N (.tuple #[r5,.int .i64 0]) w5 from⟨r5,by rw[<-HE.out],fun _=>Ep.lower hown Aa,fun e=>absurd HE.out.symm e⟩);clear hown U hx hx4;go_wp2;refine bodyPost_ret (v := .tuple #[r5,.int .i64 0]) (by simp[results,Tryz.results25,go_sem]) rfl ?_
 exact Ah.mk HF.out hx5
set_option maxRecDepth 20000 in
theorem iJ(v:Value)(ns:List Int)(w:World)(hv:Rf w v ns)(hn:ns.length<=1000)(hs:∀ n∈ns,-4294967296 < n/\n < 4294967296):Bj 21 #[v] w (fun r w'=>LZ w.heap.size w' r ns):=by
 obtain⟨g,c,rfl,h1,h2,h3⟩:=hv;have H3:=Ad (Au h3 hs);clear h3 hs
 go_enter Tryz.func21,Tryz.ntmps21
 go_wp2
 go_loopw [3,4] (fun ov iv wr=>∃ (k:Nat),k<=ns.length/\iv = .int .i64 k/\Dq w.heap.size 26 wr ov (ns.take k)/\Ext w wr) (fun _ iv _=>ns.length - (intOf iv).toNat)
 case atStart=>exact⟨0,Nat.zero_le _,rfl,BH.nil _ _ _ _ _,Ext.refl _⟩
 case round =>
  obtain⟨k,hk,rfl,hown,hx⟩:=hrel;have Hown0:=Ad hown;clear hown;by_cases hkl:k < ns.length
  ·have q0:=hx.cell (H3.out.1 k hkl)
   obtain⟨m,hm⟩:∃ m,m=ns[k]:=⟨_,rfl⟩
   rw[<-hm]at q0;have hb:=H3.out.2 ns[k] (List.getElem_mem hkl);rw[<-hm]at hb;have Hm:=Ad hm;clear hm
   go_wp2_with fail
   refine AR (kY m _ hb.1 hb.2) ?_;rintro r w2 hr hx2;obtain⟨b5,A5,n5,c5,rfl⟩:=hr.cells;have Hr:=Ad hr;clear hr;have hown:=Hown0.out.ext hx2;have Hown:=Ad hown;clear hown;replace hx:=hx.trans hx2;have hsz:=hx.size;have hlk:(ns.take k).length<=1000:=Nat.le_trans (List.length_take_le _ _) Aa;clear hx2 q0 Hown0
   go_wp2_with (at_builtin;refine AO rfl _ _ 22 rfl u3 (.slice (some ⟨w2.heap.size,0,none⟩) 1 1) rfl rfl (KZ w2 w.heap.size _ _ _ _ _ Hown.out Hr.out (by first | (rw[Bb];omega) | omega) hsz rfl) ?_)
   first | intro v' w5 hown U | rintro v' w5 ⟨hown,U⟩
   replace hx:=(Hown.out.ext ((Ext.refl w2).alloc _)).from_ U (hx.alloc _) (Nat.le_refl _);have Hown':=Ad hown;clear hown U;go_wp2
   go_roundw
   case rel=>exact⟨k+1,Aa,by go_num,by
    rw[List.take_succ_eq_append_getElem hkl,<-Hm.out];exact Hown'.out,hx⟩
   case measure=>simp[intOf]<;>omega
  ·obtain rfl:k=ns.length:=by omega
   have hq:=Dq.row Hown0.out;rw[List.take_of_length_le (Nat.le_refl _)]at hq;have Hq:=Ad hq;clear hq Hown0;go_wp2
   go_ret
   exact Ah.mk Hq.out hx
theorem Si(x y:Int)(w:World)(h1 : -4294967296 < x/\x < 4294967296)(h2 : -4294967296 < y/\y < 4294967296):Bj 45 #[.int .i64 x,.int .i64 y] w (fun r w'=>Kj w' r (x:Rat) (y:Rat)):=by
 go_enter Tryz.func45,Tryz.ntmps45
 obtain⟨W1,eW1,ez,y1⟩:=Be.made w 30 #[.bool false,.slice none 0 0,.bool false,.slice none 0 0,.bool false,.slice none 0 0,.bool false,.slice none 0 0] (by simp[Ag])
 go_upto_region 1 with(fail)
 rw[<-eW1];clear eW1;have hx:=y1;clear y1
 go_wp2_with fail
 refine AR (lC x _ Aa Aa) ?_;rintro r2 w2 hr2 hx2;obtain⟨b5,A5,n5,c5,b6,A6,n6,c6,rfl⟩:=hr2.cells;have H2:=Ad hr2;clear hr2;have hgz:=ez.lt;replace ez:=ez.ext hx2;replace hx:=hx.trans hx2;clear hx2
 go_wp2_with fail
 refine AR (lC y _ Aa Aa) ?_;rintro r3 w3 hr3 hx3;obtain⟨b7,A7,n7,c7,b8,A8,n8,c8,rfl⟩:=hr3.cells;have p1:=H2.out.ext hx3;replace ez:=ez.ext hx3;replace hx:=hx.trans hx3;clear hx3;have cez:=ez.cells8;have fez:=ez.frozen;go_wp2;obtain⟨W6,eW,ez',U⟩:=ez.put8 (.bool b5) (.slice A5 n5 c5) (.bool b6) (.slice A6 n6 c6) (.bool b7) (.slice A7 n7 c7) (.bool b8) (.slice A8 n8 c8);rw[<-eW];clear eW ez;replace p1:=p1.kd U.kd
 replace hr3:=hr3.kd U.kd;replace hx:=U.from_ hx Ak;have ez:=ez';clear U ez';clear cez fez;have cez:=ez.cells8;have fez:=ez.frozen;refine bodyPost_ret (v := .agg #[.bool b5,.slice A5 n5 c5,.bool b6,.slice A6 n6 c6,.bool b7,.slice A7 n7 c7,.bool b8,.slice A8 n8 c8]) (by simp[results,Tryz.results45,go_sem,cez]) rfl ?_;exact Ah.mk ⟨_,_,_,_,_,_,_,_,_,_,_,_,_,_,_,_,rfl,p1,hr3⟩ hx
theorem UF(v u:Value)(p q p' q':Rat)(w:World)(hv:Kj w v p q)(hu:Kj w u p' q'):Bj 33 #[v,u] w (fun r _=>r = .bool (decide (p=p'/\q=q'))):=by
 obtain⟨b1,A1,n1,c1,b2,A2,n2,c2,b3,A3,n3,c3,b4,A4,n4,c4,rfl,i1,i2⟩:=hv;obtain⟨d1,B1,m1,k1,d2,B2,m2,k2,d3,B3,m3,k3,d4,B4,m4,k4,rfl,j1,j2⟩:=hu;have H:=Ad (Au i1 (Au i2 (Au j1 j2)));clear i1 i2 j1 j2
 go_enter Tryz.func33,Tryz.ntmps33
 obtain⟨W1,eW1,ea,y1⟩:=Be.made w 30 #[.bool b1,.slice A1 n1 c1,.bool b2,.slice A2 n2 c2,.bool b3,.slice A3 n3 c3,.bool b4,.slice A4 n4 c4] (by simp[Ag]);obtain⟨W2,eW2,eb,y2⟩:=Be.made W1 30 #[.bool d1,.slice B1 m1 k1,.bool d2,.slice B2 m2 k2,.bool d3,.slice B3 m3 k3,.bool d4,.slice B4 m4 k4] (by simp[Ag]);have s1:W1.heap.size=w.heap.size+1:=by rw[eW1,World.size_alloc]
 rw[s1]at eb;have hx:=y1.trans y2;replace ea:=ea.ext y2
 go_upto_region 1 with(fail)
 rw[<-eW1,<-eW2];clear eW1 eW2 y1 y2 s1;have cea:=ea.cells8;have fea:=ea.frozen;have ceb:=eb.cells8;have feb:=eb.frozen
 go_wp2_with fail
 refine AR (TY _ _ p p' _ (H.out.1.ext hx) (H.out.2.2.1.ext hx)) ?_;rintro r3 w3 rfl hx3;clear cea fea ceb feb;replace ea:=ea.ext hx3;replace eb:=eb.ext hx3;replace hx:=hx.trans hx3;clear hx3;by_cases hp:p=p'
 ·have hd:decide (p=p')=true:=decide_eq_true hp
  have hq:decide (p=p'/\q=q')=decide (q=q'):=by simp[hp]
  have HQ:=Ad hq;clear hq;rw[hd];have HP:=Ad hp;clear hp;have cea:=ea.cells8;have fea:=ea.frozen;have ceb:=eb.cells8;have feb:=eb.frozen
  go_wp2_with fail
  refine AR (TY _ _ q q' _ (H.out.2.1.ext hx) (H.out.2.2.2.ext hx)) ?_;rintro r4 w4 rfl hx4;generalize decide (q=q')=bb at *;go_wp2
  go_ret
  exact Ah.mk (show Value.bool bb = .bool (decide (p=p'/\q=q'))from by rw[HQ.out]) (hx.trans hx4)
 ·have hd:decide (p=p')=false:=decide_eq_false hp
  have hq:decide (p=p'/\q=q')=false:=decide_eq_false fun z=>hp z.1;have HQ:=Ad hq;clear hq;rw[hd];clear hp;go_wp2
  go_ret
  exact Ah.mk (show Value.bool false = .bool (decide (p=p'/\q=q'))from by rw[HQ.out]) hx
set_option maxRecDepth 20000 in
theorem Yk(w:World):Bj 12 #[] w (fun r _=>r = .bool true):=by
 have K1:=Ad (show ∀ x∈([-2,0,1]:List Int),sz x.natAbs<=1 by decide +kernel);have hcnt:∀ X v u,Ey 0 X v [-2,0,1]->V8 X u 0 2->Bj 16 #[v,u] X (fun r _=>r = .tuple #[.int .i64 1,.int .i64 0]):=fun X v u hv hu=>by
  refine Ah.imp (QD v u [-2,0,1] 0 2 _ 32768 10 X hv hu Ab (fun _=>G6.pg) (by decide +kernel) (by decide +kernel) Ab) fun r _ h=>?_;rw[h,G6.err,WX,aY.1,if_pos ⟨rfl,by decide +kernel⟩,if_pos rfl,if_pos (by decide +kernel)]
 have hiso:∀ X v,Ey 0 X v [-2,0,1]->Bj 25 #[v] X (fun r w'=>∃ c,r = .tuple #[c,.int .i64 0]/\Ep 0 30 w' c [(-4,0),(0,4)]):=fun X v hv=>by
  obtain⟨N,h1,h2⟩:∃ N,700000000<=N+1/\N+1<=1000000000:=⟨800000000,Aa,Aa⟩
  refine Ah.imp (Mk v [-2,0,1] _ 32768 (N+1) X hv Ab (fun _=>G6.pg) (fun _ d p q hn hd=>G6.deep d p q hn Aa) h2 (by have:=G6.chn.2;omega)) fun r w' ⟨c,e1,e2,_⟩=>?_;rw[G6.err]at e1;have:=e2 G6.err;rw[dZ]at this;exact⟨c,e1,this.lower (Nat.zero_le _)⟩
 have HC:=Ad (Au hcnt hiso);clear hcnt hiso
 go_enter Tryz.func12,Tryz.ntmps12
 go_wp2_with fail
 refine AR (iJ _ [-2,0,1] _ (Rf.new w _ [-2,0,1] Ab) Ab Ab) ?_;rintro r1 w1 h1 hx;have H1:=Ad (h1.has (fun x hx=>by have:=K1.out x hx;omega));clear h1;replace hx:=hx.a1
 go_wp2_with fail
 refine AR (Si 0 2 _ Aa Aa) ?_;rintro r2 w2 hr2 hx2;have H2:=Ad (Au (H1.out.ext hx2) (show V8 w2 r2 0 2 from hr2.has (by decide +kernel) (by decide +kernel)));clear hr2 H1;replace hx:=hx.trans hx2;clear hx2
 go_wp2_with fail
 refine AR (HC.out.1 _ _ _ H2.out.1 H2.out.2) ?_;rintro r3 w3 rfl hx3;have H3:=Ad (H2.out.1.ext hx3);clear H2;replace hx:=hx.trans hx3;clear hx3
 go_wp2_with fail
 refine AR (HC.out.2 _ _ H3.out) ?_;rintro r4 w4 ⟨c4,rfl,hown⟩ hx4;replace hx:=hx.trans hx4;clear hx4;obtain⟨A,c,rfl⟩:=hown.len;obtain⟨g,o,b1,A1,n1,c1,b2,A2,n2,c2,b3,A3,n3,c3,b4,A4,n4,c4,rfl,q0,q1,q2,q3,q4,q5,q6,q7,hi0⟩:=hown.at_ (j:=0) Ab;obtain⟨g',o',d1,B1,m1,k1,d2,B2,m2,k2,d3,B3,m3,k3,d4,B4,m4,k4,e1,s0,s1,s2,s3,s4,s5,s6,s7,hi1⟩:=hown.at_ (j:=1) Ab;cases e1;have HI:=Ad (Au (show Kj w4 _ (-4) 0 from hi0) (show Kj w4 _ 0 4 from hi1));clear hi0 hi1 hown H3
 rw[Nat.zero_mul,Nat.add_zero]at q0 q1 q2 q3 q4 q5 q6 q7;rw[Nat.one_mul]at s0 s1 s2 s3 s4 s5 s6 s7;have hl2:([(-4,0),(0,4)]:List (Rat×Rat)).length=2:=rfl;rw[hl2];clear hl2
 go_upto_region 4 with(fail)
 refine CV 27 [19,20,21,22,23,24,25,26,27,28,29,30,31,32,33,34,35,36,37,38,39,40,41,42,43,44,45] [3,2,5,4] [_,_,_,_] [(kv ?_),(kv ?_),(kv ?_),(kv ?_),(kv ?_),(kv ?_),(kv ?_),(kv ?_),(kv ?_),(kv ?_),(kv ?_),(kv ?_),(kv ?_),(kv ?_),(kv ?_),(kv ?_),(kv ?_),(kv ?_),(kv ?_),(fun γ=>γ 19),(kv (.bool true)),(kv ?_),(kv ?_),(kv ?_),(kv ?_),(kv ?_),(fun γ=>γ 26)] (fun γ w'=>[True,True,True,True,True,True,True,True,True,True,True,True,True,True,True,True,True,True,True,Kj w' (γ 19) (-4) 0,True,True,True,True,True,True,Kj w' (γ 26) 0 4]) ?s1 ?_
 case s1 =>
  iterate 27 refine⟨?_,?_⟩
  trivial
  iterate 3 focus
   refine Ba fun _ w' he R hR=>?_;have hc:=he.cells;go_simp;(try go_ints);(try(rw[if_neg Aa]));(try(rw[if_pos Aa]));(try go_simp);(try go_ints)
   exact Bi hR
  iterate 2 focus
   intro γ w' he hf;clear hf;refine⟨by trivial,?_⟩;intro R hR;have hc:=he.cells;go_simp;(try go_ints);(try(rw[if_neg Aa]));(try(rw[if_pos Aa]));(try go_simp);(try go_ints)
   exact Bi hR
  iterate 2 focus
   refine Ba fun _ w' he R hR=>?_;have hc:=he.cells;go_simp;(try go_ints);(try(rw[if_neg Aa]));(try(rw[if_pos Aa]));(try go_simp);(try go_ints)
   exact Bi hR
  iterate 2 focus
   intro γ w' he hf;clear hf;refine⟨by trivial,?_⟩;intro R hR;have hc:=he.cells;go_simp;(try go_ints);(try(rw[if_neg Aa]));(try(rw[if_pos Aa]));(try go_simp);(try go_ints)
   exact Bi hR
  iterate 2 focus
   refine Ba fun _ w' he R hR=>?_;have hc:=he.cells;go_simp;(try go_ints);(try(rw[if_neg Aa]));(try(rw[if_pos Aa]));(try go_simp);(try go_ints)
   exact Bi hR
  iterate 3 focus
   intro γ w' he hf;clear hf;refine⟨by trivial,?_⟩;intro R hR;have hc:=he.cells;go_simp;(try go_ints);(try(rw[if_neg Aa]));(try(rw[if_pos Aa]));(try go_simp);(try go_ints)
   exact Bi hR
  iterate 2 focus
   refine Ba fun _ w' he R hR=>?_;have hc:=he.cells;go_simp;(try go_ints);(try(rw[if_neg Aa]));(try(rw[if_pos Aa]));(try go_simp);(try go_ints)
   exact Bi hR
  iterate 3 focus
   intro γ w' he hf;clear hf;refine⟨by trivial,?_⟩;intro R hR;have hc:=he.cells;have cq0:=he.cell q0;have cq1:=he.cell q1;have cq2:=he.cell q2;have cq3:=he.cell q3;have cq4:=he.cell q4;have cq5:=he.cell q5;have cq6:=he.cell q6;have cq7:=he.cell q7;have cq8:=he.cell s0;have cq9:=he.cell s1;have cq10:=he.cell s2;have cq11:=he.cell s3;have cq12:=he.cell s4;have cq13:=he.cell s5;have cq14:=he.cell s6;have cq15:=he.cell s7
   go_simp;(try go_ints);(try(rw[if_neg Aa]));(try(rw[if_pos Aa]));(try go_simp);(try go_ints)
   exact Bi hR
  ·intro γ w' he hf;clear hf;refine⟨rfl,?_⟩;intro R hR
   go_simp;exact Bg (Si (-4) 0 w' Aa Aa) hR
  ·intro γ w' he hf;have f19:Kj w' (γ 19) (-4) 0:=hf 19 Ab;clear hf;refine⟨rfl,?_⟩;intro R hR
   go_simp;exact Jq (Ah.imp (UF _ _ (-4) 0 (-4) 0 w' (HI.out.1.ext he) f19) fun _ _ h=>h) hR
  iterate 2 focus
   refine Ba fun _ w' he R hR=>?_;have hc:=he.cells;go_simp;(try go_ints);(try(rw[if_neg Aa]));(try(rw[if_pos Aa]));(try go_simp);(try go_ints)
   exact Bi hR
  iterate 3 focus
   intro γ w' he hf;clear hf;refine⟨by trivial,?_⟩;intro R hR;have hc:=he.cells;have cq0:=he.cell q0;have cq1:=he.cell q1;have cq2:=he.cell q2;have cq3:=he.cell q3;have cq4:=he.cell q4;have cq5:=he.cell q5;have cq6:=he.cell q6;have cq7:=he.cell q7;have cq8:=he.cell s0;have cq9:=he.cell s1;have cq10:=he.cell s2;have cq11:=he.cell s3;have cq12:=he.cell s4;have cq13:=he.cell s5;have cq14:=he.cell s6;have cq15:=he.cell s7
   go_simp;(try go_ints);(try(rw[if_neg Aa]));(try(rw[if_pos Aa]));(try go_simp);(try go_ints)
   exact Bi hR
  ·intro γ w' he hf;clear hf;refine⟨rfl,?_⟩;intro R hR
   go_simp;exact Bg (Si 0 4 w' Aa Aa) hR
 intro γ w5 hx5 hF;have p19:Kj w5 (γ 19) (-4) 0:=Av.get hF 19 Ab;have p26:Kj w5 (γ 26) 0 4:=Av.get hF 26 Ab;clear hF;simp only[Bd,Nat.reduceAdd];generalize γ 19=g19 at *;generalize γ 26=g26 at *;clear γ;have H5:=Ad (Au (HI.out.2.ext hx5) p26);clear p19 p26 q0 q1 q2 q3 q4 q5 q6 q7 s0 s1 s2 s3 s4 s5 s6 s7
 go_wp2_with fail
 refine AR (UF _ _ 0 4 0 4 _ H5.out.1 H5.out.2) ?_;rintro r6 w6 rfl hx6;have hx7:=(hx.trans hx5).trans hx6;have hd:decide ((0:Rat)=0/\(4:Rat)=4)=true:=decide_eq_true ⟨rfl,rfl⟩;rw[hd];clear hx hx5 hx6 hd;go_wp2
 go_ret
 exact Ah.mk rfl hx7
open Go.Deep Go.ChangeShapes Go.ChangeAt
theorem Wx{H:Type}(d:DataW H):1<=Rows.uptoBulk d:=by
 cases d with
 | lit l=>cases l<;>simp[Rows.uptoBulk]
 | nil=>simp[Rows.uptoBulk]
 | ptr d=>simp[Rows.uptoBulk]
 | slice elems spare=>simp[Rows.uptoBulk]
 | agg parts=>simp[Rows.uptoBulk]
 | iface t d=>simp[Rows.uptoBulk]
 | map entries=>simp[Rows.uptoBulk]
 | held h=>simp[Rows.uptoBulk]
theorem Dl{H:Type}{d:DataW H}{l:List (DataW H)}(h:d∈l):Rows.uptoBulk d<=Rows.uptoBulkAll l:=by
 induction l with
 | nil=>cases h
 | cons x r ih =>
  simp only[Rows.uptoBulkAll];cases List.mem_cons.1 h with
  | inl e=>subst e;omega
  | inr e=>have:=ih e;omega
theorem NH{H:Type}(l:List (DataW H)):l.length<=Rows.uptoBulkAll l:=by
 induction l with
 | nil=>simp[Rows.uptoBulkAll]
 | cons x r ih=>have:=Wx x;simp only[Rows.uptoBulkAll,List.length_cons];omega
section
variable{H:Type}{enc:TypeId×Value->H}{w:World}{spare:Nat->Bool}{held:Bool}
theorem SN{fuel:Nat}{cs:List Value}{x:DataW H×List MemPlace}(h:DataW.trod enc Tryz.prog w 0 spare held fuel 24 cs=some x):∃ A n c,cs=[.slice A n c]/\n<=Rows.uptoBulk x.1:=by
 rcases open_ints Tryz.underlying24 Tryz.underlying113 FB h with⟨rfl,_⟩ | ⟨a,n,c,zs,rfl,_,hl,hm,hz,rfl,hcell,hwz⟩
 ·exact⟨none,0,0,rfl,Aa⟩
 ·have hzl:n<=zs.length:=by rw[hz];split<;>omega
  refine⟨some a,n,c,rfl,?_⟩;have h1:=NH (H:=H) (lits .u32 (zs.take n));have h2:(lits (H:=H) .u32 (zs.take n)).length=n:=by simp[lits];omega
  simp only[Rows.uptoBulk];omega
set_option maxRecDepth 100000 in
theorem Mh{fuel:Nat}{cs:List Value}{x:DataW H×List MemPlace}(h:DataW.trod enc Tryz.prog w 0 spare held fuel 26 cs=some x):∃ b A n c,cs=[b,.slice A n c]/\n<=Rows.uptoBulk x.1:=by
 obtain⟨y0,y1,n,rfl,hl,h0,h1⟩:=trod_struct2 Tryz.underlying26 h;rw[show Tryz.prog.cellsOf 26=2 from by kernel_rfl]at hl
 match cs,hl with
 | [c0,c1],_ =>
  rw[show Tryz.prog.cellsOf 24=1 from by kernel_rfl]at h1;obtain⟨A,m,c,e1,hd⟩:=SN h1;simp at e1;subst e1;refine⟨c0,A,m,c,rfl,?_⟩;have:=Dl (d:=y1.1) (l:=[y0.1,y1.1]) Ac;simp only[Rows.uptoBulk];omega
end
set_option maxRecDepth 20000 in
theorem YT(g c:Nat)(ls:List (Nat×Nat×Nat×Nat))(w:World)(hn:ls.length<=1000)(hc:ls.length<=c)(hv:iZ w g ls) :
  Bj 14 #[.slice (some ⟨g,0,none⟩) ls.length c] w (fun r _=>gU ls r):=by
 have HV:=Ad hv;clear hv
 go_enter Tryz.func14,Tryz.ntmps14
 go_wp2
 go_loopw [3] (fun iv wr=>∃ i:Nat,i<=ls.length/\iv = .int .i64 (i:Nat)/\(∀ j (h:j < ls.length),j < i->ls[j].1+ls[j].2.1+ls[j].2.2.1+ls[j].2.2.2<=12)/\Ext w wr) (fun iv _=>ls.length - (intOf iv).toNat)
 case atStart=>exact⟨0,Nat.zero_le _,rfl,fun j h h'=>Aa,Ext.refl _⟩
 case round =>
  obtain⟨i,hi,rfl,hst,hx⟩:=hrel;have Hst:=Ad hst;clear hst;by_cases hil:i < ls.length
  ·obtain⟨A1,c1,A2,c2,A3,c3,A4,c4,q1,q2,q3,q4,b1,b2,b3,b4⟩:=HV.out i hil
   obtain⟨m,hm⟩:∃ m,m=ls[i]:=⟨_,rfl⟩
   rw[<-hm]at q1 q2 q3 q4 b1 b2 b3 b4;have HM:=Ad hm;clear hm;obtain⟨m1,m2,m3,m4⟩:=m;simp only at q1 q2 q3 q4 b1 b2 b3 b4;replace q1:=hx.cell q1;replace q2:=hx.cell q2;replace q3:=hx.cell q3;replace q4:=hx.cell q4;go_wp2;refine CV 34 [10,11,12,13,14,15,16,17,18,19,20,21,22,23,24,25,26,27,28,29,30,31,32,33,34,35,36,37,38,39,40,41,42,43] [0,3] [_,_] [(kv ?_),(kv ?_),(kv ?_),(kv ?_),(kv ?_),(kv ?_),(kv ?_),(kv ?_),(kv ?_),(kv ?_),(kv ?_),(kv ?_),(kv ?_),(kv ?_),(kv ?_),(kv ?_),(kv ?_),(kv ?_),(kv ?_),(kv ?_),(kv ?_),(kv ?_),(kv ?_),(kv ?_),(kv ?_),(kv ?_),(kv ?_),(kv ?_),(kv ?_),(kv ?_),(kv ?_),(kv ?_),(kv ?_),(kv ?_)] (fun γ w'=>[True,True,True,True,True,True,True,True,True,True,True,True,True,True,True,True,True,True,True,True,True,True,True,True,True,True,True,True,True,True,True,True,True,True]) ?s1 ?_
   case s1 =>
    iterate 34 refine⟨?_,?_⟩
    trivial
    iterate 34 focus
     refine Ba fun _ w' he R hR=>?_;have hc:=he.cells;have cq0:=he.cell q1;have cq1:=he.cell q2;have cq2:=he.cell q3;have cq3:=he.cell q4;go_simp;(try go_ints);(try(rw[if_neg Aa]));(try(rw[if_pos Aa]));(try go_simp);(try go_ints)
     exact Bi hR
   intro γ w5 hx5 hF;clear hF;simp only[Bd,Nat.reduceAdd];clear γ;replace hx:=hx.trans hx5;by_cases hlong:12 < m1+m2+m3+m4
   ·go_wp2
    go_ret
    exact Ah.mk ⟨false,rfl,fun h=>by cases h⟩ hx
   ·go_wp2
    go_roundw
    case rel=>exact⟨i+1,Aa,by go_num,fun j h1 h2=>by
     rcases Nat.lt_or_ge j i with h | h
     ·exact Hst.out j h1 h
     ·obtain rfl:j=i:=by omega
      rw[<-HM.out];show m1+m2+m3+m4<=12;omega,hx⟩
    case measure=>simp[intOf]<;>omega
  ·obtain rfl:i=ls.length:=by omega
   go_wp2
   go_ret
   exact Ah.mk ⟨true,rfl,fun _ p hp=>by
    obtain⟨j,hj,rfl⟩:=List.getElem_of_mem hp;exact Hst.out j hj hj⟩ hx
variable{H:Type}{enc:TypeId×Value->H}{w:World}{spare:Nat->Bool}{held:Bool}
set_option maxRecDepth 100000 in
theorem JJ{fuel:Nat}{cs:List Value}{x:DataW H×List MemPlace}(h:DataW.trod enc Tryz.prog w 0 spare held fuel 28 cs=some x):∃ b A n c b' A' n' c',cs=[b,.slice A n c,b',.slice A' n' c']/\n<=Rows.uptoBulk x.1/\n'<=Rows.uptoBulk x.1:=by
 obtain⟨y0,y1,n,rfl,hl,h0,h1⟩:=trod_struct2 Tryz.underlying28 h;rw[show Tryz.prog.cellsOf 28=4 from by kernel_rfl]at hl
 match cs,hl with
 | [c0,c1,c2,c3],_ =>
  rw[show Tryz.prog.cellsOf 26=2 from by kernel_rfl]at h0 h1;obtain⟨b,A,m,c,e0,hd⟩:=Mh h0;obtain⟨b',A',m',c',e1,hd'⟩:=Mh h1;simp at e0 e1;obtain⟨rfl,rfl⟩:=e0;obtain⟨rfl,rfl⟩:=e1;have k0:=Dl (d:=y0.1) (l:=[y0.1,y1.1]) Ac;have k1:=Dl (d:=y1.1) (l:=[y0.1,y1.1]) Ac;refine⟨_,A,m,c,_,A',m',c',rfl,?_,?_⟩<;>simp only[Rows.uptoBulk]<;>omega
set_option maxRecDepth 100000 in
theorem ZK{fuel:Nat}{cs:List Value}{x:DataW H×List MemPlace}(h:DataW.trod enc Tryz.prog w 0 spare held fuel 30 cs=some x):∃ r1 r2:Raw,∃ cs':Array Value,cs=cs'.toList/\cs'.size=8/\jN w (.agg cs') r1 r2/\r1.2.1.length<=Rows.uptoBulk x.1/\r1.2.2.2.length<=Rows.uptoBulk x.1/\r2.2.1.length<=Rows.uptoBulk x.1/\r2.2.2.2.length<=Rows.uptoBulk x.1:=by
 obtain⟨y0,y1,n,rfl,hl,h0,h1⟩:=trod_struct2 Tryz.underlying30 h;rw[show Tryz.prog.cellsOf 30=8 from by kernel_rfl]at hl
 match cs,hl with
 | [c0,c1,c2,c3,c4,c5,c6,c7],_ =>
  rw[show Tryz.prog.cellsOf 28=4 from by kernel_rfl]at h0 h1;obtain⟨_,_,_,_,_,_,_,_,t1,t2,t3⟩:=JJ h0;obtain⟨_,_,_,_,_,_,_,_,u1,u2,u3⟩:=JJ h1;have k0:=Dl (d:=y0.1) (l:=[y0.1,y1.1]) Ac;have k1:=Dl (d:=y1.1) (l:=[y0.1,y1.1]) Ac;obtain⟨r,cs1,e1,f1,g1⟩:=Mm h0;obtain⟨s,cs2,e2,f2,g2⟩:=Mm h1;obtain⟨A,k,c,A',k',c',q1,q2,q3⟩:=g1;obtain⟨B,m,d,B',m',d',p1,p2,p3⟩:=g2;cases q1;cases p1;simp at e1 e2 t1 u1;obtain⟨rfl,rfl,rfl,rfl⟩:=e1
  obtain⟨rfl,rfl,rfl,rfl⟩:=e2;simp at t1 u1;have g1:EC w (.agg #[.bool r.1,.slice A k c,.bool r.2.2.1,.slice A' k' c']) r:=⟨_,_,_,_,_,_,rfl,q2,q3⟩
  have g2:EC w (.agg #[.bool s.1,.slice B m d,.bool s.2.2.1,.slice B' m' d']) s:=⟨_,_,_,_,_,_,rfl,p2,p3⟩
  obtain⟨rfl,rfl,-,-⟩:=g1.lens;obtain⟨rfl,rfl,-,-⟩:=g2.lens;exact⟨r,s,#[_,_,_,_,_,_,_,_],rfl,rfl,⟨_,_,_,_,_,_,_,_,_,_,_,_,rfl,g1,g2⟩,by simp only[Rows.uptoBulk];omega⟩
end Go.Proofs.YtmhgnigpmompmaaGreat
namespace Go.Proofs.YtmhgnigpmompmaaGreat
open Go.RowKit Go.Hp
theorem Yn(v u:Value)(F:Nat->Rat)(r:Rat)(w:World)(hv:gB w v F)(hu:Ey 0 w u (Cw r))(hF:Bn F)(hq:∀ i,qsz (F i)<=100)(hp:pl F<=100)(h1:r.num.natAbs < 4294967296)(h2:r.den < 4294967296) :
  Bj 23 #[v,u] w (fun x w'=>PE w.heap.size w' x (cv F (cz (Cw r)))):=by
 obtain⟨m,hm,hl,rfl⟩:=hv;have hL:=XZ h1 h2;have e2:(m.length+(Cw r).length)*(100+1+1)<=1002*102:=Nat.mul_le_mul_right _ (by show m.length+2<=1002;omega);refine Ah.imp (ZC v u m (Cw r) 100 1 w hm hu hq hL Aa Aa (by show 2<=_;omega)) fun x w' h=>?_;have hq2:∀ i,qsz (cv (cz m) (cz (Cw r)) i)<=102:=fun i=>Uj (n:=100) (ZI.cz m) (ZI.cz _) ((AB (Ae.cz m)).mono hp) Ab hq hL i;obtain⟨k,a1,a2,a4⟩:=h.hzb fun i=>Nat.le_trans (hq2 i) Ab
 refine⟨k,a1,?_,a4⟩;have:=R4 (Ae.cz m) hF.n r;omega
set_option maxRecDepth 20000 in
theorem VV(v:Value)(l:List Raw)(bs:List Nat)(sq:Nat)(x y:Raw)(w:World)(h:kU w v l bs sq x y)(hlb:l.length<=1048576)(hbb:bs.length<=1048576)(hrb:∀ r∈l,r.2.1.length<=1048576/\r.2.2.2.length<=1048576)
  (hib:x.2.1.length<=1048576/\x.2.2.2.length<=1048576/\y.2.1.length<=1048576/\y.2.2.2.length<=1048576) :
  Bj 4 #[v] w (fun r _=>r = .bool true):=by
 obtain⟨A,ca,E,ce,b1,A1,c1,b2,A2,c2,b3,A3,c3,b4,A4,c4,rfl,hP,hE,hsq,r1,r2⟩:=h;obtain⟨n1,hn1⟩:∃ n,n=x.2.1.length:=⟨_,rfl⟩
 obtain⟨n2,hn2⟩:∃ n,n=x.2.2.2.length:=⟨_,rfl⟩
 obtain⟨n3,hn3⟩:∃ n,n=y.2.1.length:=⟨_,rfl⟩
 obtain⟨n4,hn4⟩:∃ n,n=y.2.2.2.length:=⟨_,rfl⟩
 rw[<-hn1,<-hn2]at r1;rw[<-hn3,<-hn4]at r2;rw[<-hn1,<-hn2,<-hn3,<-hn4]at hib ⊢;obtain⟨p,hp⟩:∃ p,p=Ju x:=⟨_,rfl⟩
 obtain⟨q,hq⟩:∃ q,q=Ju y:=⟨_,rfl⟩
 have hr1:∀ k,n1<=k->n2<=k->1<=k->k<=274877906944->BN w (.agg #[.bool b1,.slice A1 n1 c1,.bool b2,.slice A2 n2 c2]) p/\qsz p<=k:=fun k h1 h2 h3 h4=>by
  rw[hp];exact r1.hasN Aa Aa h3 h4
 have hr2:∀ k,n3<=k->n4<=k->1<=k->k<=274877906944->BN w (.agg #[.bool b3,.slice A3 n3 c3,.bool b4,.slice A4 n4 c4]) q/\qsz q<=k:=fun k h1 h2 h3 h4=>by
  rw[hq];exact r2.hasN Aa Aa h3 h4
 have HR:=Ad (Au hr1 hr2);have HA:=Ad (Au hP (Au hE hrb));clear hr1 hr2 r1 r2 hp hq hn1 hn2 hn3 hn4 x y hP hE hrb
 go_enter Tryz.func4,Tryz.ntmps4
 obtain⟨W1,eW1,ez,hx⟩:=Be.made w 46 #[.slice A l.length ca,.slice E bs.length ce,.int .u8 (sq:Int),.bool b1,.slice A1 n1 c1,.bool b2,.slice A2 n2 c2,.bool b3,.slice A3 n3 c3,.bool b4,.slice A4 n4 c4] (by simp[Ag])
 go_upto_region 1 with(fail)
 rw[<-eW1];clear eW1;generalize w.heap.size=gz at *
 go_wp2_with fail
 refine AR (Yk _) ?_;rintro r w3 rfl hx3;replace ez:=ez.ext hx3;replace hx:=hx.trans hx3;clear hx3;have cez:=ez.cells11;by_cases h4:(l.length:Int) > 4
 ·go_wp2
  go_ret
  exact Ah.mk rfl hx
 go_wp2_with fail
 refine AR (YT w3.heap.size 1 [(n1,n2,n3,n4)] _ Ac Ac (WL w3 _ rfl Aa)) ?_;rintro r5 w5 ⟨b,rfl,hb⟩ hx5;have hx5:=hx5.a1;clear cez;replace ez:=ez.ext hx5;replace hx:=hx.trans hx5;clear hx5;have Hb:=Ad hb;clear hb;cases b with
 | false =>
  go_wp2
  go_ret
  exact Ah.mk rfl hx
 | true =>
 have hs1:=Hb.out rfl (n1,n2,n3,n4) Ac;simp only at hs1;obtain⟨i1,s1⟩:=HR.out.1 12 Aa Aa Aa Aa;obtain⟨i2,s2⟩:=HR.out.2 12 Aa Aa Aa Aa;have HI:=Ad (Au i1 (Au i2 (Au s1 s2)));clear i1 i2 s1 s2 HR Hb hs1;have cez:=ez.cells11;have hsq9:(sq:Int)<=255:=by omega
 go_wp2_with fail
 refine AR (iJ _ [(sq:Int)+1,0,1] _ (Rf.new w5 _ [(sq:Int)+1,0,1] Ac) Ac (by intro n hn;simp at hn;omega)) ?_;rintro r6 w6 hr6 hx6;have hx6:=hx6.a1;have hF:gB w6 r6 (cz (Gq (sq+1))):=⟨_,hr6.has (fun n hn=>Nat.le_trans (IG.2 (show n.natAbs < 4294967296 by simp at hn;omega)) Ab),by show 3<=_;omega,rfl⟩
 clear cez hr6;replace ez:=ez.ext hx6;replace hx:=hx.trans hx6;clear hx6;have hgz:=ez.lt;have hK:=Kz.start (c:=sq+1) Aa Aa;have HB:=Ad hx;have hyb:=Ext.refl w6;go_wp2
 go_loopw [3,4,5] (fun fv rv iv wr=>∃ (i m:Nat) (F W R:Nat->Rat) (D:List Rat),i<=l.length/\iv = .int .i64 (i:Nat)/\gB wr fv F/\DL w6.heap.size 28 wr rv D/\Kz F W R D m/\m<=2*i/\D.length<=i/\Be wr gz 46 #[.slice A l.length ca,.slice E bs.length ce,.int .u8 (sq:Int),.bool b1,.slice A1 n1 c1,.bool b2,.slice A2 n2 c2,.bool b3,.slice A3 n3 c3,.bool b4,.slice A4 n4 c4]/\Ext w6 wr) (fun _ _ iv _=>l.length - (intOf iv).toNat)
 case atStart=>exact⟨0,0,_,_,_,[],Aa,rfl,hF,BH.nil 4 BQ _ _ _,hK,Aa,Ac,ez,Ext.refl _⟩
 case round =>
  clear hF hK ez hyb hx;obtain⟨i,m,F,W,R,D,hi,rfl,hF,hown,hK,hm,hD,ez,hy⟩:=hrel;obtain⟨AD,cD,rfl⟩:=hown.len;have hx:=HB.out.trans hy;by_cases hil:i < l.length
  ·as_aux_lemma =>
   obtain⟨g,o,d1,D1,k1,e1,d2,D2,k2,e2,rfl,q0,q1,q2,q3,hq⟩:=(HA.out.1.ext hx).el (j:=i) hil;have hlen:=HA.out.2.2 l[i] (List.getElem_mem hil);obtain⟨r,hre⟩:∃ r,r=Ju l[i]:=⟨_,rfl⟩
   have hqq:=(hq.hasN (k:=1048576) Aa Aa Aa Aa).1;rw[<-hre]at hqq;have HQ:=Ad hqq;have HF:=Ad (Au hF (Au hown hK));clear hq hlen hre hqq hF hown hK;have cez:=ez.cells11
   go_wp2_with fail
   refine AR (Lg _ r wr HQ.out) ?_;rintro r7 w7 hr7 hx7;obtain⟨b5,A5,n5,c5,b6,A6,n6,c6,rfl,z1,z2⟩:=hr7;clear cez q0 q1 q2 q3;have hxa:=hx7;replace ez:=ez.ext hx7;replace hy:=hy.trans hx7;replace hx:=hx.trans hx7;clear hx7;have hn5:n5=sz r.num.natAbs:=by
    obtain⟨A9,c9,e9,-⟩:=z1.form;injection e9 with e9;have:=congrArg (fun a=>a[1]?) e9;simp at this;exact this.2.1
   have hn6:n6=sz r.den:=by
    obtain⟨A9,c9,e9,-⟩:=z2.form;injection e9 with e9;have:=congrArg (fun a=>a[1]?) e9;simp at this;exact this.2.1
   have HN:=Ad (Au hn5 hn6);clear hn5 hn6;have hgw:=hy.size;obtain⟨W8,eW8,er,y8⟩:=Be.made w7 28 #[.bool b5,.slice A5 n5 c5,.bool b6,.slice A6 n6 c6] (by simp[Ag]);have HZ0:=Ad (Au (z1.ext y8) (Au (z2.ext y8) (show BQ W8 (.agg #[.bool b5,.slice A5 n5 c5,.bool b6,.slice A6 n6 c6]) r from⟨_,_,_,_,_,_,_,_,rfl,z1.ext y8,z2.ext y8⟩)));clear z1 z2;have hgr:=ez.lt;have hxb:=hxa.trans y8;clear hxa;replace ez:=ez.ext y8
   replace hy:=hy.trans y8;replace hx:=hx.trans y8;clear y8
   go_upto_region 11 with(fail)
   rw[<-eW8];clear eW8;generalize w7.heap.size=gr at *;have cer:=er.cells4;have fer:=er.frozen;by_cases hb5:(n5:Int) > 1
   ·go_wp2
    go_ret
    exact Ah.mk rfl hx
   by_cases hb6:(n6:Int) > 1
   ·go_wp2
    go_ret
    exact Ah.mk rfl hx
   have hz0:sz r.num.natAbs<=1:=by have:=HN.out.1;omega
   have hz1:r.num.natAbs < 4294967296:=IG.1 hz0;have hz2:r.den < 4294967296:=IG.1 (by have:=HN.out.2;omega);have HZ:=Ad (Au HZ0.out.1 (Au (HZ0.out.2.1.has (Nat.le_trans (IG.2 (show((r.den:Int)).natAbs < 4294967296 by omega)) Ab)) (Au HZ0.out.2.2 (Au hz0 (Au hz1 hz2)))));clear hz0 hz1 hz2 HZ0 HN;have HFF:=Ad (Au (HF.out.1.ext hxb) (Au (DL.ext HF.out.2.1 hxb) HF.out.2.2));clear HF hxb HQ;have HK:=Ad (Au HFF.out.2.2 (Au (show m<=6 by omega) (show D.length<=4 by omega)))
   have hqF:∀ i,qsz (F i)<=100:=fun i=>Nat.le_trans (HK.out.1.q (by have:=HK.out.2.1;omega) HK.out.2.2 i) Ab;have hpF:pl F<=100:=by have:=HK.out.1.pF;have:=HK.out.2.1;omega
   have hPF:=HK.out.1.s.pos;have hqG:∀ i,qsz (cv F (cz (Cw r)) i)<=100:=fun i=>Nat.le_trans (Uj (n:=100) hPF.z (ZI.cz _) ((AB hPF.f).mono hpF) Ab (fun i=>HK.out.1.q (by have:=HK.out.2.1;omega) HK.out.2.2 i) (XZ HZ.out.2.2.2.2.1 HZ.out.2.2.2.2.2) i) Ab;have hpG:pl (cv F (cz (Cw r)))<=100:=by rw[R4 hPF.f hPF.n];have:=HK.out.1.pF;have:=HK.out.2.1;omega
   have HPF:=Ad (Au hPF (Au hqF (Au hpF (Au (hPF.mul (MJ r)) (Au hqG hpG)))));clear hqF hpF hPF hqG hpG
   go_upto_region 13 with(fail)
   refine CV 8 [64,65,66,67,68,69,70,71] [3,6] [_,_] [(kv ?_),(kv ?_),(kv ?_),(fun γ=>γ 3),(kv ?_),(kv ?_),(fun γ=>γ 6),(fun γ=>γ 7)] (fun γ w'=>[True,True,True,AC w' (γ 3) (-r.num),True,True,Ey 0 w' (γ 6) (Cw r),PE W8.heap.size w' (γ 7) (cv F (cz (Cw r)))]) ?s1 ?_
   case s1 =>
    iterate 8 refine⟨?_,?_⟩
    trivial
    iterate 3 focus
     refine Ba fun _ w' he R hR=>?_;have hc:=he.cells;have cq0:=(er.ext he).cells4;go_simp;exact Bi hR
    ·refine Ba fun _ w' he R hR=>?_
     have h9:=Qr _ _ w' ((HZ.out.1.ext (he)).has (Nat.le_trans HZ.out.2.2.2.1 Ab));go_simp;refine AR h9 ?_;rintro v w2 hv hx;exact⟨v,rfl,hR v w2 hx rfl hv⟩
    iterate 2 focus
     refine Ba fun _ w' he R hR=>?_;have hc:=he.cells;have cq0:=(er.ext he).cells4;go_simp;exact Bi hR
    ·refine FO fun γ w' he hf R hR=>?_;have f3:AC w' (γ 3) (-r.num):=hf 3 Ab;clear hf
     have hd9:=HZ.out.2.1.ext (he);obtain⟨b9,A9,n9,c9,h3⟩:=f3.cells;have hn9:=HZ.out.2.2.2.1;have f9:Bh w' (.agg #[.bool b9,.slice A9 n9 c9]) (-r.num):=by rw[<-h3];exact f3.has (Nat.le_trans (by rw[Int.natAbs_neg];exact hn9) Ab)
     go_simp;exact hR _ _ ((Ext.refl _).alloc _) rfl (Ey.two f9 hd9)
    ·refine FO fun γ w' he hf R hR=>?_;have f6:Ey 0 w' (γ 6) (Cw r):=hf 6 Ab;clear hf
     have hs9:=he.size;have h9:=Yn _ _ F r w' (HFF.out.1.ext he) f6 HPF.out.1 HPF.out.2.1 HPF.out.2.2.1 HZ.out.2.2.2.2.1 HZ.out.2.2.2.2.2;go_simp;refine AR h9 ?_;rintro v w2 hv hx;exact⟨v,rfl,hR v w2 hx rfl (hv.low hs9)⟩
   intro γ w9 hx9 hF;have p3:AC w9 (γ 3) (-r.num):=Av.get hF 3 Ab;have p6:Ey 0 w9 (γ 6) (Cw r):=Av.get hF 6 Ab;have p7:PE W8.heap.size w9 (γ 7) (cv F (cz (Cw r))):=Av.get hF 7 Ab;clear hF;simp only[Bd,Nat.reduceAdd];generalize γ 3=g3 at *;generalize γ 6=g6 at *;generalize γ 7=g7 at *;clear γ;have HF1:=Ad p7;clear p3 p6 p7;have hx9':=hx9;replace ez:=ez.ext hx9;replace er:=er.ext hx9;replace hy:=hy.trans hx9
   replace hx:=hx.trans hx9;clear hx9;have HO:=Ad (DL.ext HFF.out.2.1 hx9')
   go_upto_region 14 with(fail)
   have cez:=ez.cells11;have cer:=er.cells4;have fer:=er.frozen
   go_cut [85] (fun bv wx=>∃ e:Bool,bv = .bool e/\wx=w9)
   case first =>
    by_cases hib2:(i:Int) < bs.length
    ·obtain⟨g2,o2,rfl,q0,hq0⟩:=(HA.out.2.1.ext hx).at_ (j:=i) Aa
     obtain⟨be,hbe⟩:∃ b,b=bs[i]:=⟨_,rfl⟩
     rw[<-hbe]at q0 hq0;clear hbe;rcases Nat.mod_two_eq_zero_or_one be with hm2 | hm2
     ·have hm3:Int.tmod (be:Int) 2=0:=by show((be % 2:Nat):Int)=0;omega
      go_wp2
      go_meet
      case rel=>exact⟨false,by simp[hm3],rfl⟩
     ·have hm3:Int.tmod (be:Int) 2=1:=by show((be % 2:Nat):Int)=1;omega
      go_wp2
      go_meet
      case rel=>exact⟨true,by simp[hm3],rfl⟩
    ·go_wp2
     go_meet
     case rel=>exact⟨false,by simp[hib2],rfl⟩
   case rest =>
   obtain⟨e,rfl,hw9⟩:=hcut;rw[hw9];clear hw9
   go_upto_if 85 with(fail)
   go_cut [3] (fun fv wx'=>PE W8.heap.size wx' fv (if e then cv (cv F (cz (Cw r))) (cz (Cw r))else cv F (cz (Cw r)))/\Ext w9 wx')
   case first =>
    cases e with
    | false =>
     go_wp2
     go_meet
     case rel=>exact⟨HF1.out,Ext.refl _⟩
    | true =>
     have hz9:=Ad (Au (HZ.out.1.ext hx9') (Au (HZ.out.2.1.ext hx9') (Au (HZ.out.2.2.1.ext hx9') HZ.out.2.2.2)));clear HZ;have HZ:=Ad hz9.out;clear hz9
     go_wp2_with fail
     refine CV 8 [86,87,88,89,90,91,92,93] [3,6] [_,_] [(kv ?_),(kv ?_),(kv ?_),(fun γ=>γ 3),(kv ?_),(kv ?_),(fun γ=>γ 6),(fun γ=>γ 7)] (fun γ w'=>[True,True,True,AC w' (γ 3) (-r.num),True,True,Ey 0 w' (γ 6) (Cw r),PE W8.heap.size w' (γ 7) (cv (cv F (cz (Cw r))) (cz (Cw r)))]) ?s2 ?_
     case s2 =>
      iterate 8 refine⟨?_,?_⟩
      trivial
      iterate 3 focus
       refine Ba fun _ w' he R hR=>?_;have hc:=he.cells;have cq0:=(er.ext he).cells4;go_simp;exact Bi hR
      ·refine Ba fun _ w' he R hR=>?_
       have h9:=Qr _ _ w' ((HZ.out.1.ext (he)).has (Nat.le_trans HZ.out.2.2.2.1 Ab));go_simp;refine AR h9 ?_;rintro v w2 hv hx;exact⟨v,rfl,hR v w2 hx rfl hv⟩
      iterate 2 focus
       refine Ba fun _ w' he R hR=>?_;have hc:=he.cells;have cq0:=(er.ext he).cells4;go_simp;exact Bi hR
      ·refine FO fun γ w' he hf R hR=>?_;have f3:AC w' (γ 3) (-r.num):=hf 3 Ab;clear hf
       have hd9:=HZ.out.2.1.ext (he);obtain⟨b9,A9,n9,c9,h3⟩:=f3.cells;have hn9:=HZ.out.2.2.2.1;have f9:Bh w' (.agg #[.bool b9,.slice A9 n9 c9]) (-r.num):=by rw[<-h3];exact f3.has (Nat.le_trans (by rw[Int.natAbs_neg];exact hn9) Ab)
       go_simp;exact hR _ _ ((Ext.refl _).alloc _) rfl (Ey.two f9 hd9)
      ·refine FO fun γ w' he hf R hR=>?_;have f6:Ey 0 w' (γ 6) (Cw r):=hf 6 Ab;clear hf
       have hs9:=(hx9'.trans he).size;have h9:=Yn _ _ (cv F (cz (Cw r))) r w' (HF1.out.fp.ext he) f6 HPF.out.2.2.2.1 HPF.out.2.2.2.2.1 HPF.out.2.2.2.2.2 HZ.out.2.2.2.2.1 HZ.out.2.2.2.2.2;go_simp;refine AR h9 ?_;rintro v w2 hv hx;exact⟨v,rfl,hR v w2 hx rfl (hv.low hs9)⟩
     intro γ w10 hx10 hF;have p3:AC w10 (γ 3) (-r.num):=Av.get hF 3 Ab;have p6:Ey 0 w10 (γ 6) (Cw r):=Av.get hF 6 Ab;have p7:PE W8.heap.size w10 (γ 7) (cv (cv F (cz (Cw r))) (cz (Cw r))):=Av.get hF 7 Ab;clear hF;simp only[Bd,Nat.reduceAdd];generalize γ 3=g3 at *;generalize γ 6=g6 at *;generalize γ 7=g7 at *;clear γ;have HF2:=Ad p7;clear p3 p6 p7;go_wp2
     go_meet
     case rel=>exact⟨HF2.out,hx10⟩
   case rest =>
   clear cez cer fer;obtain⟨hF3,hx11⟩:=hcut;have HF3:=Ad hF3;have HO3:=Ad (DL.ext HO.out hx11);clear hF3 HF1 HO;replace HZ:=Ad (Au (HZ.out.1.ext (hx9'.trans hx11)) (Au (HZ.out.2.1.ext (hx9'.trans hx11)) (Au (HZ.out.2.2.1.ext (hx9'.trans hx11)) HZ.out.2.2.2)));have hbl:=Ad (fun g hg=>(BH.blk_ge HFF.out.2.1 g hg).2);have hmm:=HK.out.1;replace ez:=ez.ext hx11;replace er:=er.ext hx11;replace hy:=hy.trans hx11
   replace hx:=hx.trans hx11;clear hx11;clear hx9';go_wp2
   go_loopw [7,8] (fun tv kv wr2=>∃ k:Nat,k<=D.length/\kv = .int .i64 (k:Nat)/\tv = .bool (decide (¬ r∈D.take k))/\Ext wc wr2) (fun _ kv _=>D.length - (intOf kv).toNat)
   case atStart=>exact⟨0,Aa,rfl,Ac,Ext.refl _⟩
   case round =>
    obtain⟨k,hk,rfl,rfl,hy2⟩:=hrel;by_cases hkl:k < D.length
    ·as_aux_lemma =>
     obtain⟨g3,o3,d3,D3,k3,e3,d4,D4,k4,e4,rfl,-,s0,s1,s2,s3,hq3⟩:=(DL.ext HO3.out hy2).at_ (j:=k) hkl;have hmem:=List.getElem_mem hkl;obtain⟨t,hte⟩:∃ t,t=D[k]:=⟨_,rfl⟩
     rw[<-hte]at hq3 hmem;have hts:t.num.natAbs < 4294967296/\t.den < 4294967296:=HK.out.1.dn t hmem;have hq1:∀(z:Rat),z.num.natAbs < 4294967296->z.den < 4294967296->qsz z<=2:=fun z a1 a2=>by
      have b1:=IG.2 a1;have b2:=IG.2 a2;unfold qsz;omega
     have htake:D.take (k+1)=D.take k ++ [t]:=by rw[List.take_succ_eq_append_getElem hkl,hte]
     have ht2:=hq1 t hts.1 hts.2;have hr2:=hq1 r HZ.out.2.2.2.2.1 HZ.out.2.2.2.2.2;have hcmp:∀ X,Ext wr X->Bj 20 #[.agg #[.bool d3,.slice D3 k3 e3,.bool d4,.slice D4 k4 e4],.agg #[.bool b5,.slice A5 n5 c5,.bool b6,.slice A6 n6 c6]] X (fun o _=>o = .int .i64 (Eb (t - r))):=fun X hX =>
      JH _ _ t r X ((hq3.ext hX).has Aa) ((HZ.out.2.2.1.ext (hy2.trans hX)).has Aa) Aa
     have HC:=Ad (Au hcmp (Au hmem htake));have er2:=er.ext hy2;clear hcmp hq3 hmem hte hts hq1 htake ht2 hr2;by_cases hr:r∈D.take k
     ·have hd:decide (¬ r∈D.take k)=false:=by simp[hr]
      have hd2:decide (¬ r∈D.take (k+1))=false:=by rw[HC.out.2.2];simp[hr]
      have HD2:=Ad hd2;rw[hd];clear hd hd2 hr
      go_upto_region 20 with(fail)
      have hx14:=hy2.drew;clear s0 s1 s2 s3 er2
      go_region
      go_wp2
      go_roundw
      case rel=>exact⟨k+1,Aa,by go_num,by rw[HD2.out],hx14⟩
      case measure=>simp[intOf];omega
     ·have hd:decide (¬ r∈D.take k)=true:=by simp[hr]
      have hd2:decide (¬ r∈D.take (k+1))=(Eb (t - r) != 0):=by
       rw[HC.out.2.2];by_cases htr:t=r
       ·subst htr
        have e0:Eb (t - t)=0:=Km.2 Af;rw[e0];exact decide_eq_false Ac
       ·have e0:Eb (t - r)≠0:=fun h=>htr (by have:=Km.1 h;grind)
        have e1:¬ r=t:=fun h=>htr h.symm;have e2:(Eb (t - r) != 0)=true:=bne_iff_ne.2 e0;rw[e2];exact decide_eq_true (by simp[hr,e1])
      have HD2:=Ad hd2;rw[hd];clear hd hd2 hr;obtain⟨cer20,cer21,cer22,cer23⟩:=er2.cells4;have fer2:=er2.frozen
      go_upto_region 20 with(fail)
      refine CV 9 [100,101,102,103,104,105,106,107,108] [7,4,8,6] [_,_,_,_] [(kv ?_),(kv ?_),(kv ?_),(kv ?_),(kv ?_),(kv ?_),(kv ?_),(kv (.int .i64 (Eb (t - r)))),(kv ?_)] (fun γ w'=>[True,True,True,True,True,True,True,True,True]) ?s3 ?_
      case s3 =>
       iterate 9 refine⟨?_,?_⟩
       trivial
       iterate 2 focus
        refine Ba fun _ w' he R hR=>?_;have hc:=he.cells;go_simp;exact Bi hR
       iterate 5 focus
        intro γ w' he hf;clear hf;refine⟨by trivial,?_⟩;intro R hR;have hc:=he.cells;have cq0:=he.cell s0;have cq1:=he.cell s1;have cq2:=he.cell s2;have cq3:=he.cell s3;have cq4:=he.cell cer20;have cq5:=he.cell cer21;have cq6:=he.cell cer22;have cq7:=he.cell cer23;go_simp;(try go_ints);(try(rw[if_neg Aa]));(try(rw[if_pos Aa]));(try go_simp);(try go_ints)
        exact Bi hR
       ·intro γ w' he hf;clear hf;refine⟨rfl,?_⟩;intro R hR
        go_simp;exact Jq (HC.out.1 w' he) hR
       iterate 1 focus
        intro γ w' he hf;clear hf;refine⟨by trivial,?_⟩;intro R hR;have hc:=he.cells;go_simp;(try go_ints);(try(rw[if_neg Aa]));(try(rw[if_pos Aa]));(try go_simp);(try go_ints)
        exact Bi hR
      intro γ w13 hx13 hF;clear hF;simp only[Bd,Nat.reduceAdd];clear γ;have hx14:=hy2.trans hx13;clear s0 s1 s2 s3 er2 cer20 cer21 cer22 cer23 fer2;go_wp2
      go_roundw
      case rel=>exact⟨k+1,Aa,by go_num,by rw[HD2.out],hx14⟩
      case measure=>simp[intOf];omega
    ·obtain rfl:k=D.length:=by omega
     rw[List.take_length];have hyw:=hy.trans hy2;have hxw:=hx.trans hy2;have hF4:=HF3.out.ext hy2;have hO4:=DL.ext HO3.out hy2;have ez2:=ez.ext hy2;by_cases hr:r∈D
     ·as_aux_lemma =>
      have hd:decide (¬ r∈D)=false:=by simp[hr]
      obtain⟨W',R',m',hK',hm'⟩:=Kz.oldr e HK.out.1 hr;have HE:=Ad (Au hF4.fp (Au hO4 (Au hK' (Au hm' ez2))));rw[hd];clear hd hr hF4 hO4 hK' ez2 ez er;go_wp2
      go_roundw
      case rel=>exact⟨i+1,m',_,W',R',D,Aa,by go_num,HE.out.1,HE.out.2.1,HE.out.2.2.1,by have:=HE.out.2.2.2.1;omega,Aa,HE.out.2.2.2.2,hyw⟩
      case measure=>simp[intOf];omega
     ·as_aux_lemma =>
      have hd:decide (¬ r∈D)=true:=by simp[hr]
      obtain⟨W',R',m',hK',hm'⟩:=Kz.newr e HK.out.1 hr HZ.out.2.2.2.2.1 HZ.out.2.2.2.2.2;have HE:=Ad (Au hF4 (Au hO4 (Au hK' (Au hm' (Au ez2 (HZ.out.2.2.1.ext hy2))))));have er2:=er.ext hy2;have hsz:=hyw.size;have hD4:=HK.out.2.2;rw[hd];clear hd hr hF4 hO4 hK' ez2 ez er;obtain⟨cer20,cer21,cer22,cer23⟩:=er2.cells4;have fer2:=er2.frozen
      go_wp2_with (at_builtin;refine AO rfl _ _ 43 rfl (.slice AD D.length cD) (.slice (some ⟨wr.heap.size,0,none⟩) 1 1) rfl rfl (Vu wr w6.heap.size _ _ _ D r HE.out.2.1 HE.out.2.2.2.2.2 Aa hsz rfl) ?_)
      intro v' w13 hown U;have xa:Ext wr (wr.alloc (.cells #[.bool b5,.slice A5 n5 c5,.bool b6,.slice A6 n6 c6] 28)):=(Ext.refl wr).alloc _;have hown0:=DL.ext HE.out.2.1 xa;have hy13:=hown0.from_ U (hyw.trans xa) (Nat.le_refl _);have ez13:=hown0.box U (HE.out.2.2.2.2.1.ext xa) hgz;have hF13:=(HE.out.1.ext xa).upd U hbl.out;have HG:=Ad (Au hF13.fp (Au hown (Au HE.out.2.2.1 (Au HE.out.2.2.2.1 ez13))))
      clear hown hown0 U ez13 hF13 er2 cer20 cer21 cer22 cer23 fer2 xa;go_wp2
      go_roundw
      case rel=>exact⟨i+1,m',_,W',R',D ++ [r],Aa,by go_num,HG.out.1,HG.out.2.1,HG.out.2.2.1,by have:=HG.out.2.2.2.1;omega,Dn,HG.out.2.2.2.2,hy13⟩
      case measure=>simp[intOf];omega
  ·as_aux_lemma =>
   obtain rfl:i=l.length:=by omega
   have hl4:l.length<=4:=by omega
   have HF:=Ad (Au hF (Au hown (Au hK (Au (show m<=8 by omega) (show D.length<=4 by omega)))));have hiv:∀ X,Ext w X->BN X (.agg #[.bool b1,.slice A1 n1 c1,.bool b2,.slice A2 n2 c2]) p/\BN X (.agg #[.bool b3,.slice A3 n3 c3,.bool b4,.slice A4 n4 c4]) q:=fun X hX=>⟨HI.out.1.ext hX,HI.out.2.1.ext hX⟩
   have hcz:∀(z:Rat),z.num.natAbs < 4294967296->z.den < 4294967296->qsz z<=2:=fun z a1 a2=>by
    have b1:=IG.2 a1;have b2:=IG.2 a2;unfold qsz;omega
   have HZ:=Ad (Au hiv hcz);have HX:=Ad hx;have hD4:D.length<=4:=by omega
   clear hF hown hK hiv hcz hx hi;have cez:=ez.cells11;go_wp2
   go_loopw [9,10] (fun cv kv wr2=>∃ k:Nat,k<=D.length/\kv = .int .i64 (k:Nat)/\cv = .int .i64 (cnt (D.take k) p q)/\Ext wr wr2) (fun _ kv _=>D.length - (intOf kv).toNat)
   case atStart=>exact⟨0,Aa,rfl,by simp[cnt],Ext.refl _⟩
   case round =>
    obtain⟨k,hk,rfl,rfl,hy2⟩:=hrel;have hx2:=HX.out.trans hy2;have ez2:=ez.ext hy2;by_cases hkl:k < D.length
    ·as_aux_lemma =>
     obtain⟨g3,o3,d3,D3,k3,e3,d4,D4,k4,e4,rfl,-,s0,s1,s2,s3,hq3⟩:=(DL.ext HF.out.2.1 hy2).at_ (j:=k) hkl;have hmem:=List.getElem_mem hkl;obtain⟨t,hte⟩:∃ t,t=D[k]:=⟨_,rfl⟩
     rw[<-hte]at hq3 hmem;have hts:=HF.out.2.2.1.dn t hmem;have ht2:=HZ.out.2 t hts.1 hts.2;have htake:cnt (D.take (k+1)) p q=cnt (D.take k) p q+if p < t/\t<=q then 1 else 0:=by rw[List.take_succ_eq_append_getElem hkl,<-hte,MB]
     have hcb:=KO (D.take k) p q;have hlt:(D.take k).length<=4:=by rw[List.length_take];omega
     obtain⟨S,hS⟩:∃ S,S=cnt (D.take k) p q:=⟨_,rfl⟩
     rw[<-hS]at htake hcb ⊢;have hc1:∀ X,Ext wr X->Bj 20 #[.agg #[.bool b1,.slice A1 n1 c1,.bool b2,.slice A2 n2 c2],.agg #[.bool d3,.slice D3 k3 e3,.bool d4,.slice D4 k4 e4]] X (fun o _=>o = .int .i64 (Eb (p - t))):=fun X hX =>
      JH _ _ p t X (HZ.out.1 X (hx2.trans hX)).1 ((hq3.ext hX).has Aa) (by have:=HI.out.2.2.1;omega)
     have hc2:∀ X,Ext wr X->Bj 20 #[.agg #[.bool d3,.slice D3 k3 e3,.bool d4,.slice D4 k4 e4],.agg #[.bool b3,.slice A3 n3 c3,.bool b4,.slice A4 n4 c4]] X (fun o _=>o = .int .i64 (Eb (t - q))):=fun X hX =>
      JH _ _ t q X ((hq3.ext hX).has Aa) (HZ.out.1 X (hx2.trans hX)).2 (by have:=HI.out.2.2.2;omega)
     have HC:=Ad (Au hc1 hc2);have HT:=Ad htake;clear hc1 hc2 hq3 hmem hte hts ht2 htake hS;have cez:=ez2.cells11;by_cases hpt:p < t
     ·as_aux_lemma =>
      have hd1:decide (Eb (p - t) < 0)=true:=decide_eq_true (GR.2 hpt);have HD:=Ad hd1;clear hd1
      go_upto_region 27 with(fail)
      refine CV 19 [121,122,123,124,125,126,127,128,129,130,131,132,133,134,135,136,137,138,139] [1,4,10] [_,_,_] [(kv ?_),(kv ?_),(kv ?_),(kv ?_),(kv ?_),(kv ?_),(kv ?_),(kv (.int .i64 (Eb (p - t)))),(kv (.bool true)),(kv (.bool true)),(kv ?_),(kv ?_),(kv ?_),(kv ?_),(kv ?_),(kv ?_),(kv ?_),(kv (.int .i64 (Eb (t - q)))),(kv ?_)] (fun γ w'=>[True,True,True,True,True,True,True,True,True,True,True,True,True,True,True,True,True,True,True]) ?s4 ?_
      case s4 =>
       iterate 19 refine⟨?_,?_⟩
       trivial
       iterate 7 focus
        refine Ba fun _ w' he R hR=>?_;have hc:=he.cells;have cq0:=(ez2.ext he).cells11;have cq1:=he.cell s0;have cq2:=he.cell s1;have cq3:=he.cell s2;have cq4:=he.cell s3;go_simp;(try go_ints);(try(rw[if_neg Aa]));(try(rw[if_pos Aa]));(try go_simp);(try go_ints)
        exact Bi hR
       ·refine Ba fun _ w' he R hR=>?_
        go_simp;exact Jq (HC.out.1 w' he) hR
       ·refine Ba fun _ w' he R hR=>?_
        have hc:=he.cells;go_simp
        (try go_ints);(try(rw[if_neg Aa]));(try(rw[if_pos Aa]));(try go_simp);(try go_ints)
        refine hR _ _ (Ext.refl _) ?_ trivial;rw[HD.out];rfl
       ·refine Ba fun _ w' he R hR=>?_
        have hc:=he.cells;go_simp
        (try go_ints);(try(rw[if_neg Aa]));(try(rw[if_pos Aa]));(try go_simp);(try go_ints)
        exact Bi hR
       iterate 7 focus
        intro γ w' he hf;clear hf;refine⟨by trivial,?_⟩;intro R hR;have hc:=he.cells;have cq0:=(ez2.ext he).cells11;have cq1:=he.cell s0;have cq2:=he.cell s1;have cq3:=he.cell s2;have cq4:=he.cell s3;go_simp;(try go_ints);(try(rw[if_neg Aa]));(try(rw[if_pos Aa]));(try go_simp);(try go_ints)
        exact Bi hR
       ·intro γ w' he hf;clear hf;refine⟨rfl,?_⟩;intro R hR
        go_simp;exact Jq (HC.out.2 w' he) hR
       iterate 1 focus
        intro γ w' he hf;clear hf;refine⟨by trivial,?_⟩;intro R hR;have hc:=he.cells;go_simp;(try go_ints);(try(rw[if_neg Aa]));(try(rw[if_pos Aa]));(try go_simp);(try go_ints)
        exact Bi hR
      intro γ w13 hx13 hF;clear hF;simp only[Bd,Nat.reduceAdd];clear γ;have hx14:=hy2.trans hx13;clear s0 s1 s2 s3 cez ez2;by_cases htq:t<=q
      ·have hd2:decide (Eb (t - q)<=0)=true:=decide_eq_true (ED.2 htq)
       have hval:S+1=cnt (D.take (k+1)) p q:=by rw[HT.out,if_pos ⟨hpt,htq⟩]
       have HV:=Ad hval;clear hval hpt htq;go_wp2
       go_roundw
       case rel=>exact⟨k+1,Aa,by go_num,by rw[<-HV.out],hx14⟩
       case measure=>simp[intOf];omega
      ·have hd2:decide (Eb (t - q)<=0)=false:=decide_eq_false (fun h=>htq (ED.1 h))
       have hval:S=cnt (D.take (k+1)) p q:=by rw[HT.out,if_neg (fun h=>htq h.2),Int.add_zero]
       have HV:=Ad hval;clear hval hpt htq;go_wp2
       go_roundw
       case rel=>exact⟨k+1,Aa,by go_num,by rw[<-HV.out],hx14⟩
       case measure=>simp[intOf];omega
     ·as_aux_lemma =>
      have hd1:decide (Eb (p - t) < 0)=false:=decide_eq_false (fun h=>hpt (GR.1 h));have HD:=Ad hd1;clear hd1;have hval:S=cnt (D.take (k+1)) p q:=by rw[HT.out,if_neg (fun h=>hpt h.1),Int.add_zero]
      have HV:=Ad hval;clear hval hpt
      go_upto_region 27 with(fail)
      refine kQ 19 [121,122,123,124,125,126,127,128,129,130,131,132,133,134,135,136,137,138,139] [1,4,10] [_,_,_] [(kv ?_),(kv ?_),(kv ?_),(kv ?_),(kv ?_),(kv ?_),(kv ?_),(kv (.int .i64 (Eb (p - t)))),(kv (.bool false)),(kv (.bool false)),(kv (undef)),(kv (undef)),(kv (undef)),(kv (undef)),(kv (undef)),(kv (undef)),(kv (undef)),(kv (undef)),(kv (undef))] (fun γ w'=>[True,True,True,True,True,True,True,True,True,True,True,True,True,True,True,True,True,True,True]) ?s5 ?_
      case s5 =>
       iterate 19 refine⟨?_,?_⟩
       trivial
       iterate 7 focus
        refine PP fun _ w' he R hR=>?_;have hc:=he.cells;have cq0:=(ez2.ext he).cells11;have cq1:=he.cell s0;have cq2:=he.cell s1;have cq3:=he.cell s2;have cq4:=he.cell s3;go_simp;(try go_ints);(try(rw[if_neg Aa]));(try(rw[if_pos Aa]));(try go_simp);(try go_ints)
        exact Bi hR
       ·refine PP fun _ w' he R hR=>?_
        go_simp;exact Jq (HC.out.1 w' he) hR
       ·refine PP fun _ w' he R hR=>?_
        have hc:=he.cells;go_simp
        (try go_ints);(try(rw[if_neg Aa]));(try(rw[if_pos Aa]));(try go_simp);(try go_ints)
        refine hR _ _ (Ext.refl _) ?_ trivial;rw[HD.out];rfl
       ·refine PP fun _ w' he R hR=>?_
        have hc:=he.cells;go_simp
        (try go_ints);(try(rw[if_neg Aa]));(try(rw[if_pos Aa]));(try go_simp);(try go_ints)
        exact Bi hR
       ·exact fun γ w' he hf => .inr ⟨_,_,rfl,rfl,(by intro t h;cases h),rfl,trivial⟩
       ·exact fun γ w' he hf => .inr ⟨_,_,rfl,rfl,(by intro t h;cases h),rfl,trivial⟩
       ·exact fun γ w' he hf => .inr ⟨_,_,rfl,rfl,(by intro t h;cases h),rfl,trivial⟩
       ·exact fun γ w' he hf => .inr ⟨_,_,rfl,rfl,(by intro t h;cases h),rfl,trivial⟩
       ·exact fun γ w' he hf => .inr ⟨_,_,rfl,rfl,(by intro t h;cases h),rfl,trivial⟩
       ·exact fun γ w' he hf => .inr ⟨_,_,rfl,rfl,(by intro t h;cases h),rfl,trivial⟩
       ·exact fun γ w' he hf => .inr ⟨_,_,rfl,rfl,(by intro t h;cases h),rfl,trivial⟩
       ·exact fun γ w' he hf => .inr ⟨_,_,rfl,rfl,(by intro t h;cases h),rfl,trivial⟩
       ·exact fun γ w' he hf => .inr ⟨_,_,rfl,rfl,(by intro t h;cases h),rfl,trivial⟩
      intro γ w13 hx13 hF;clear hF;simp only[Bd,Nat.reduceAdd];clear γ;have hx14:=hy2.trans hx13;clear s0 s1 s2 s3 cez ez2;go_wp2
      go_roundw
      case rel=>exact⟨k+1,Aa,by go_num,by rw[<-HV.out],hx14⟩
      case measure=>simp[intOf];omega
    ·as_aux_lemma =>
     obtain rfl:k=D.length:=by omega
     rw[List.take_length];have hKK:=HF.out.2.2.1;have hm8:=HF.out.2.2.2.1;have hD4':=HF.out.2.2.2.2;obtain⟨mf,hmf,hml,hme⟩:=HF.out.1;have hpg:=hKK.pg hm8 hD4';have herr:=hKK.err hm8 hD4';have hDp:=(hKK.chn hm8 hD4').2;have hiso:=hKK.iso hm8 hD4';have h1:∀ X,Ext wr X->Bj 17 #[u3] X (fun r _=>r = .tuple #[.int .i64 (D.length:Nat),.int .i64 0]):=fun X hX=>by
      refine Ah.imp (Yo u3 mf _ 2000 X (Ey.ext hmf (hy2.trans hX)) Aa (fun _=>by rw[hme];exact hpg)) fun r _ h=>?_;unfold V7 at h;rw[h,hme,herr,if_pos rfl,hKK.total]
     have h2:∀ X,Ext wr X->Bj 25 #[u3] X (fun r w'=>∃ c,r = .tuple #[c,.int .i64 0]/\Ep 0 30 w' c (iso (rc (sqf F)) 1000 (-(2:Rat)^bx F) ((2:Rat)^bx F))):=fun X hX=>by
      refine Ah.imp (Mk u3 mf _ 2000 1000 X (Ey.ext hmf (hy2.trans hX)) Aa (fun _=>by rw[hme];exact hpg) (fun _ d a b hn hd=>by rw[hme]at hn ⊢;exact hKK.deep hm8 hD4' d a b hn hd) Aa Aa) fun r w' ⟨c,e1,e2,_⟩=>?_;rw[hme,herr]at e1;have:=e2 (by rw[hme];exact herr);rw[hme]at this;exact⟨c,e1,this.lower (Nat.zero_le _)⟩
     have h3:∀ X,Ext wr X->Bj 16 #[u3,.agg #[.bool b1,.slice A1 n1 c1,.bool b2,.slice A2 n2 c2,.bool b3,.slice A3 n3 c3,.bool b4,.slice A4 n4 c4]] X (fun r _=>∃ cN cE:Int,r = .tuple #[.int .i64 cN,.int .i64 cE]/\(p<=q->cN=cnt D p q/\cE=0)):=fun X hX=>by
      have hv:=HZ.out.1 X ((HX.out.trans hy2).trans hX);refine Ah.imp (QD u3 _ mf p q _ 2000 12 X (Ey.ext hmf (hy2.trans hX)) ⟨_,_,_,_,_,_,_,_,_,_,_,_,_,_,_,_,rfl,hv.1,hv.2⟩ Aa (fun _=>by rw[hme];exact hpg) HI.out.2.2.1 HI.out.2.2.2 Aa) fun r _ h=>?_;unfold Ir at h;refine⟨_,_,h,fun hpq=>?_⟩;rw[hme,herr,if_pos ⟨rfl,hpq⟩,if_pos rfl,if_pos hpq,hKK.s.sqf,hKK.s.c p q hpq];exact⟨rfl,rfl⟩
     have h4c:∀ X,Ext wr X->Bj 20 #[.agg #[.bool b1,.slice A1 n1 c1,.bool b2,.slice A2 n2 c2],.agg #[.bool b3,.slice A3 n3 c3,.bool b4,.slice A4 n4 c4]] X (fun o _=>o = .int .i64 (Eb (p - q))):=fun X hX=>by
      have hv:=HZ.out.1 X ((HX.out.trans hy2).trans hX);exact JH _ _ p q X hv.1 hv.2 (by have:=HI.out.2.2;omega)
     obtain⟨L,hLL⟩:∃ L,L=iso (rc (sqf F)) 1000 (-(2:Rat)^bx F) ((2:Rat)^bx F):=⟨_,rfl⟩
     rw[<-hLL]at h2 hiso;have HC:=Ad (Au h1 (Au h2 (Au h3 h4c)));have HL:=Ad hiso;have hLlen:=hiso.1;have HD:=Ad hKK;clear h1 h2 h3 h4c hiso hLL hKK hm8 hD4' hmf hml hme hpg herr hDp
     go_wp2_with fail
     refine AR (HC.out.1 _ (Ext.refl _)) ?_;rintro r15 w15 rfl hx15
     go_wp2_with fail
     refine AR (HC.out.2.1 _ hx15) ?_;rintro r16 w16 ⟨c16,rfl,hownL⟩ hx16;have hx17:=hx15.trans hx16;obtain⟨AL,cL,rfl⟩:=hownL.len;rw[hLlen];have HO:=Ad (Au (show Ep 0 30 w16 (.slice AL D.length cL) L from hLlen▸hownL) (DL.ext HF.out.2.1 (hy2.trans hx17)));have ez3:=ez.ext (hy2.trans hx17);clear hownL hx15 hx16 ez2 ez;have cez:=ez3.cells11
     go_wp2_with fail
     refine AR (HC.out.2.2.1 _ hx17) ?_;rintro r18 w18 ⟨cN,cE,rfl,hcN⟩ hx18;have hx19:=hx17.trans hx18;have ez4:=ez3.ext hx18;clear cez ez3;have cez:=ez4.cells11
     go_upto_region 34 with(fail)
     go_cut [195] (fun bv wx=>bv = .bool false/\Ext w18 wx)
     case first =>
      go_wp2_with fail
      refine AR (HC.out.2.2.2 _ hx19) ?_;rintro r19 w19 rfl hx20;clear cez;by_cases hpq:p<=q
      ·have hd1:decide (Eb (p - q)<=0)=true:=decide_eq_true (ED.2 hpq)
       obtain⟨rfl,rfl⟩:=hcN hpq;clear hpq;go_wp2
       go_meet
       case rel=>exact⟨Ac,hx20⟩
      ·have hd1:decide (Eb (p - q)<=0)=false:=decide_eq_false (fun h=>hpq (ED.1 h))
       clear hcN hpq;go_wp2
       go_meet
       case rel=>exact⟨Ac,hx20⟩
     case rest =>
     obtain⟨rfl,hx21⟩:=hcut;have hx22:=hx18.trans hx21;clear cez hcN ez4 hx18 hx21;go_wp2
     go_loopw [17] (fun iv wa=>∃ i:Nat,i<=D.length/\iv = .int .i64 (i:Nat)/\Ext w16 wa) (fun iv _=>D.length - (intOf iv).toNat)
     case atStart=>exact⟨0,Aa,rfl,hx22⟩
     case round =>
      obtain⟨i,hi,rfl,hy3⟩:=hrel;by_cases hil2:i < D.length
      ·as_aux_lemma =>
       have hmem:=HL.out.2.1 (L[i]'(Aa)) (List.getElem_mem _);obtain⟨g,o,y1,Y1,m1,z1,y2,Y2,m2,z2,y3,Y3,m3,z3,y4,Y4,m4,z4,rfl,q0,q1,q2,q3,q4,q5,q6,q7,hi0⟩:=(Ep.ext HO.out.1 hy3).at_ (j:=i) Aa;obtain⟨lo,hlo⟩:∃ x,x=(L[i]'(Aa)).1:=⟨_,rfl⟩
       obtain⟨up,hup⟩:∃ x,x=(L[i]'(Aa)).2:=⟨_,rfl⟩
       rw[<-hlo,<-hup]at hi0 hmem;obtain⟨y1',Y1',m1',z1',y2',Y2',m2',z2',y3',Y3',m3',z3',y4',Y4',m4',z4',ei0,lo0,up0⟩:=hi0;cases ei0;have HQ:=Ad (Au lo0 (Au up0 (Au hmem (Au hlo hup))));clear lo0 up0 hmem hlo hup;go_wp2
       go_loopw [18,19] (fun cv kv wb=>∃ k:Nat,k<=D.length/\kv = .int .i64 (k:Nat)/\cv = .int .i64 (cnt (D.take k) lo up)/\Ext wr wb) (fun _ kv _=>D.length - (intOf kv).toNat)
       case atStart=>exact⟨0,Aa,rfl,by simp[cnt],Ext.refl _⟩
       case round =>
        obtain⟨k,hk,rfl,rfl,hy4⟩:=hrel;by_cases hkl:k < D.length
        ·as_aux_lemma =>
         obtain⟨g3,o3,d3,D3,k3,e3,d4,D4,k4,e4,rfl,-,s0,s1,s2,s3,hq3⟩:=(DL.ext HO.out.2 (hy3.trans hy4)).at_ (j:=k) hkl;have hmem:=List.getElem_mem hkl;obtain⟨t,hte⟩:∃ t,t=D[k]:=⟨_,rfl⟩
         rw[<-hte]at hq3 hmem;have hts:=HD.out.dn t hmem;have ht2:=HZ.out.2 t hts.1 hts.2;have htake:cnt (D.take (k+1)) lo up=cnt (D.take k) lo up+if lo < t/\t<=up then 1 else 0:=by rw[List.take_succ_eq_append_getElem hkl,<-hte,MB]
         have hcb:=KO (D.take k) lo up;have hlt:(D.take k).length<=4:=by rw[List.length_take];omega
         obtain⟨S,hS⟩:∃ S,S=cnt (D.take k) lo up:=⟨_,rfl⟩
         rw[<-hS]at htake hcb ⊢;have hc1:∀ X,Ext wr X->Bj 20 #[.agg #[.bool y1,.slice Y1 m1 z1,.bool y2,.slice Y2 m2 z2],.agg #[.bool d3,.slice D3 k3 e3,.bool d4,.slice D4 k4 e4]] X (fun o _=>o = .int .i64 (Eb (lo - t))):=fun X hX =>
          JH _ _ lo t X ((HQ.out.1.ext (hy4.trans hX)).has (Nat.le_trans HQ.out.2.2.1.2.1 Ab)) ((hq3.ext hX).has Aa) (by have:=HQ.out.2.2.1.2.1;omega)
         have hc2:∀ X,Ext wr X->Bj 20 #[.agg #[.bool d3,.slice D3 k3 e3,.bool d4,.slice D4 k4 e4],.agg #[.bool y3,.slice Y3 m3 z3,.bool y4,.slice Y4 m4 z4]] X (fun o _=>o = .int .i64 (Eb (t - up))):=fun X hX =>
          JH _ _ t up X ((hq3.ext hX).has Aa) ((HQ.out.2.1.ext (hy4.trans hX)).has (Nat.le_trans HQ.out.2.2.1.2.2 Ab)) (by have:=HQ.out.2.2.1.2.2;omega)
         have HC2:=Ad (Au hc1 hc2);have HT:=Ad htake;clear hc1 hc2 hq3 hmem hte hts ht2 htake hS;replace q0:=hy4.cell q0;replace q1:=hy4.cell q1;replace q2:=hy4.cell q2;replace q3:=hy4.cell q3;replace q4:=hy4.cell q4;replace q5:=hy4.cell q5;replace q6:=hy4.cell q6;replace q7:=hy4.cell q7;by_cases hpt:lo < t
         ·as_aux_lemma =>
          have hd1:decide (Eb (lo - t) < 0)=true:=decide_eq_true (GR.2 hpt);have HDD:=Ad hd1;clear hd1
          go_upto_region 43 with(fail)
          refine CV 23 [208,209,210,211,212,213,214,215,216,217,218,219,220,221,222,223,224,225,226,227,228,229,230] [13,17,4,19] [_,_,_,_] [(kv ?_),(kv ?_),(kv ?_),(kv ?_),(kv ?_),(kv ?_),(kv ?_),(kv ?_),(kv ?_),(kv (.int .i64 (Eb (lo - t)))),(kv (.bool true)),(kv (.bool true)),(kv ?_),(kv ?_),(kv ?_),(kv ?_),(kv ?_),(kv ?_),(kv ?_),(kv ?_),(kv ?_),(kv (.int .i64 (Eb (t - up)))),(kv ?_)] (fun γ w'=>[True,True,True,True,True,True,True,True,True,True,True,True,True,True,True,True,True,True,True,True,True,True,True]) ?s6 ?_
          case s6 =>
           iterate 23 refine⟨?_,?_⟩
           trivial
           iterate 9 focus
            refine Ba fun _ w' he R hR=>?_;have hc:=he.cells;have cq0:=he.cell q0;have cq1:=he.cell q1;have cq2:=he.cell q2;have cq3:=he.cell q3;have cq4:=he.cell q4;have cq5:=he.cell q5;have cq6:=he.cell q6;have cq7:=he.cell q7;have cq8:=he.cell s0;have cq9:=he.cell s1;have cq10:=he.cell s2;have cq11:=he.cell s3;go_simp;(try go_ints);(try(rw[if_neg Aa]));(try(rw[if_pos Aa]));(try go_simp);(try go_ints)
            exact Bi hR
           ·refine Ba fun _ w' he R hR=>?_
            go_simp;exact Jq (HC2.out.1 w' he) hR
           ·refine Ba fun _ w' he R hR=>?_
            have hc:=he.cells;go_simp
            (try go_ints);(try(rw[if_neg Aa]));(try(rw[if_pos Aa]));(try go_simp);(try go_ints)
            refine hR _ _ (Ext.refl _) ?_ trivial;rw[HDD.out];rfl
           ·refine Ba fun _ w' he R hR=>?_
            have hc:=he.cells;go_simp
            (try go_ints);(try(rw[if_neg Aa]));(try(rw[if_pos Aa]));(try go_simp);(try go_ints)
            exact Bi hR
           iterate 9 focus
            intro γ w' he hf;clear hf;refine⟨by trivial,?_⟩;intro R hR;have hc:=he.cells;have cq0:=he.cell q0;have cq1:=he.cell q1;have cq2:=he.cell q2;have cq3:=he.cell q3;have cq4:=he.cell q4;have cq5:=he.cell q5;have cq6:=he.cell q6;have cq7:=he.cell q7;have cq8:=he.cell s0;have cq9:=he.cell s1;have cq10:=he.cell s2;have cq11:=he.cell s3;go_simp;(try go_ints);(try(rw[if_neg Aa]));(try(rw[if_pos Aa]));(try go_simp);(try go_ints)
            exact Bi hR
           ·intro γ w' he hf;clear hf;refine⟨rfl,?_⟩;intro R hR
            go_simp;exact Jq (HC2.out.2 w' he) hR
           iterate 1 focus
            intro γ w' he hf;clear hf;refine⟨by trivial,?_⟩;intro R hR;have hc:=he.cells;go_simp;(try go_ints);(try(rw[if_neg Aa]));(try(rw[if_pos Aa]));(try go_simp);(try go_ints)
            exact Bi hR
          intro γ w25 hx25 hF;clear hF;simp only[Bd,Nat.reduceAdd];clear γ;have hx26:=hy4.trans hx25;clear s0 s1 s2 s3 q0 q1 q2 q3 q4 q5 q6 q7;by_cases htq:t<=up
          ·have hd2:decide (Eb (t - up)<=0)=true:=decide_eq_true (ED.2 htq)
           have hval:S+1=cnt (D.take (k+1)) lo up:=by rw[HT.out,if_pos ⟨hpt,htq⟩]
           have HV:=Ad hval;clear hval hpt htq;go_wp2
           go_roundw
           case rel=>exact⟨k+1,Aa,by go_num,by rw[<-HV.out],hx26⟩
           case measure=>simp[intOf];omega
          ·have hd2:decide (Eb (t - up)<=0)=false:=decide_eq_false (fun h=>htq (ED.1 h))
           have hval:S=cnt (D.take (k+1)) lo up:=by rw[HT.out,if_neg (fun h=>htq h.2),Int.add_zero]
           have HV:=Ad hval;clear hval hpt htq;go_wp2
           go_roundw
           case rel=>exact⟨k+1,Aa,by go_num,by rw[<-HV.out],hx26⟩
           case measure=>simp[intOf];omega
         ·as_aux_lemma =>
          have hd1:decide (Eb (lo - t) < 0)=false:=decide_eq_false (fun h=>hpt (GR.1 h));have HDD:=Ad hd1;clear hd1;have hval:S=cnt (D.take (k+1)) lo up:=by rw[HT.out,if_neg (fun h=>hpt h.1),Int.add_zero]
          have HV:=Ad hval;clear hval hpt
          go_upto_region 43 with(fail)
          refine kQ 23 [208,209,210,211,212,213,214,215,216,217,218,219,220,221,222,223,224,225,226,227,228,229,230] [13,17,4,19] [_,_,_,_] [(kv ?_),(kv ?_),(kv ?_),(kv ?_),(kv ?_),(kv ?_),(kv ?_),(kv ?_),(kv ?_),(kv (.int .i64 (Eb (lo - t)))),(kv (.bool false)),(kv (.bool false)),(kv (undef)),(kv (undef)),(kv (undef)),(kv (undef)),(kv (undef)),(kv (undef)),(kv (undef)),(kv (undef)),(kv (undef)),(kv (undef)),(kv (undef))] (fun γ w'=>[True,True,True,True,True,True,True,True,True,True,True,True,True,True,True,True,True,True,True,True,True,True,True]) ?s7 ?_
          case s7 =>
           iterate 23 refine⟨?_,?_⟩
           trivial
           iterate 9 focus
            refine PP fun _ w' he R hR=>?_;have hc:=he.cells;have cq0:=he.cell q0;have cq1:=he.cell q1;have cq2:=he.cell q2;have cq3:=he.cell q3;have cq4:=he.cell q4;have cq5:=he.cell q5;have cq6:=he.cell q6;have cq7:=he.cell q7;have cq8:=he.cell s0;have cq9:=he.cell s1;have cq10:=he.cell s2;have cq11:=he.cell s3;go_simp;(try go_ints);(try(rw[if_neg Aa]));(try(rw[if_pos Aa]));(try go_simp);(try go_ints)
            exact Bi hR
           ·refine PP fun _ w' he R hR=>?_
            go_simp;exact Jq (HC2.out.1 w' he) hR
           ·refine PP fun _ w' he R hR=>?_
            have hc:=he.cells;go_simp
            (try go_ints);(try(rw[if_neg Aa]));(try(rw[if_pos Aa]));(try go_simp);(try go_ints)
            refine hR _ _ (Ext.refl _) ?_ trivial;rw[HDD.out];rfl
           ·refine PP fun _ w' he R hR=>?_
            have hc:=he.cells;go_simp
            (try go_ints);(try(rw[if_neg Aa]));(try(rw[if_pos Aa]));(try go_simp);(try go_ints)
            exact Bi hR
           ·exact fun γ w' he hf => .inr ⟨_,_,rfl,rfl,(by intro t h;cases h),rfl,trivial⟩
           ·exact fun γ w' he hf => .inr ⟨_,_,rfl,rfl,(by intro t h;cases h),rfl,trivial⟩
           ·exact fun γ w' he hf => .inr ⟨_,_,rfl,rfl,(by intro t h;cases h),rfl,trivial⟩
           ·exact fun γ w' he hf => .inr ⟨_,_,rfl,rfl,(by intro t h;cases h),rfl,trivial⟩
           ·exact fun γ w' he hf => .inr ⟨_,_,rfl,rfl,(by intro t h;cases h),rfl,trivial⟩
           ·exact fun γ w' he hf => .inr ⟨_,_,rfl,rfl,(by intro t h;cases h),rfl,trivial⟩
           ·exact fun γ w' he hf => .inr ⟨_,_,rfl,rfl,(by intro t h;cases h),rfl,trivial⟩
           ·exact fun γ w' he hf => .inr ⟨_,_,rfl,rfl,(by intro t h;cases h),rfl,trivial⟩
           ·exact fun γ w' he hf => .inr ⟨_,_,rfl,rfl,(by intro t h;cases h),rfl,trivial⟩
           ·exact fun γ w' he hf => .inr ⟨_,_,rfl,rfl,(by intro t h;cases h),rfl,trivial⟩
           ·exact fun γ w' he hf => .inr ⟨_,_,rfl,rfl,(by intro t h;cases h),rfl,trivial⟩
          intro γ w25 hx25 hF;clear hF;simp only[Bd,Nat.reduceAdd];clear γ;have hx26:=hy4.trans hx25;clear s0 s1 s2 s3 q0 q1 q2 q3 q4 q5 q6 q7;go_wp2
          go_roundw
          case rel=>exact⟨k+1,Aa,by go_num,by rw[<-HV.out],hx26⟩
          case measure=>simp[intOf];omega
        ·as_aux_lemma =>
         obtain rfl:k=D.length:=by omega
         rw[List.take_length,HQ.out.2.2.1.1];have hy5:=hy3.trans hy4;clear q4 q5 q6 q7;replace q0:=hy4.cell q0;replace q1:=hy4.cell q1;replace q2:=hy4.cell q2;replace q3:=hy4.cell q3;rcases Nat.eq_zero_or_pos i with hi0 | hi0
         ·as_aux_lemma =>
          subst hi0;clear q0 q1 q2 q3
          go_upto_region 45 with(fail)
          refine kQ 20 [234,235,236,237,238,239,240,241,242,243,244,245,246,247,248,249,250,251,252,253] [18,17,13] [_,_,_] [(kv ?_),(kv ?_),(kv ?_),(kv ?_),(kv ?_),(kv ?_),(kv (undef)),(kv (undef)),(kv (undef)),(kv (undef)),(kv (undef)),(kv (undef)),(kv (undef)),(kv (undef)),(kv (undef)),(kv (undef)),(kv (undef)),(kv (undef)),(kv (undef)),(kv ?_)] (fun γ w'=>[True,True,True,True,True,True,True,True,True,True,True,True,True,True,True,True,True,True,True,True]) ?s8 ?_
          case s8 =>
           iterate 20 refine⟨?_,?_⟩
           trivial
           iterate 3 focus
            refine PP fun _ w' he R hR=>?_;have hc:=he.cells;go_simp;(try go_ints);(try(rw[if_neg Aa]));(try(rw[if_pos Aa]));(try go_simp);(try go_ints)
            exact Bi hR
           iterate 3 focus
            intro γ w' he hf;clear hf;refine .inl ⟨by trivial,?_⟩;intro R hR;have hc:=he.cells;go_simp;(try go_ints);(try(rw[if_neg Aa]));(try(rw[if_pos Aa]));(try go_simp);(try go_ints)
            exact Bi hR
           ·exact fun γ w' he hf => .inr ⟨_,_,rfl,rfl,(by intro t h;cases h),rfl,trivial⟩
           ·exact fun γ w' he hf => .inr ⟨_,_,rfl,rfl,(by intro t h;cases h),rfl,trivial⟩
           ·exact fun γ w' he hf => .inr ⟨_,_,rfl,rfl,(by intro t h;cases h),rfl,trivial⟩
           ·exact fun γ w' he hf => .inr ⟨_,_,rfl,rfl,(by intro t h;cases h),rfl,trivial⟩
           ·exact fun γ w' he hf => .inr ⟨_,_,rfl,rfl,(by intro t h;cases h),rfl,trivial⟩
           ·exact fun γ w' he hf => .inr ⟨_,_,rfl,rfl,(by intro t h;cases h),rfl,trivial⟩
           ·exact fun γ w' he hf => .inr ⟨_,_,rfl,rfl,(by intro t h;cases h),rfl,trivial⟩
           ·exact fun γ w' he hf => .inr ⟨_,_,rfl,rfl,(by intro t h;cases h),rfl,trivial⟩
           ·exact fun γ w' he hf => .inr ⟨_,_,rfl,rfl,(by intro t h;cases h),rfl,trivial⟩
           ·exact fun γ w' he hf => .inr ⟨_,_,rfl,rfl,(by intro t h;cases h),rfl,trivial⟩
           ·exact fun γ w' he hf => .inr ⟨_,_,rfl,rfl,(by intro t h;cases h),rfl,trivial⟩
           ·exact fun γ w' he hf => .inr ⟨_,_,rfl,rfl,(by intro t h;cases h),rfl,trivial⟩
           ·exact fun γ w' he hf => .inr ⟨_,_,rfl,rfl,(by intro t h;cases h),rfl,trivial⟩
           iterate 1 focus
            intro γ w' he hf;clear hf;refine .inl ⟨by trivial,?_⟩;intro R hR;have hc:=he.cells;go_simp;(try go_ints);(try(rw[if_neg Aa]));(try(rw[if_pos Aa]));(try go_simp);(try go_ints)
            exact Bi hR
          intro γ w27 hx27 hF;clear hF;simp only[Bd,Nat.reduceAdd];clear γ;have hx28:=hy5.trans hx27;go_wp2
          go_roundw
          case rel=>exact⟨0+1,Aa,by go_num,hx28⟩
          case measure=>simp[intOf];omega
         ·as_aux_lemma =>
          obtain⟨i',rfl⟩:∃ i',i=i'+1:=⟨i - 1,Aa⟩
          obtain⟨g',o',x1,X1,p1,v1,x2,X2,p2,v2,x3,X3,p3,v3,x4,X4,p4,v4,eg,-,-,-,-,Q4,Q5,Q6,Q7,hI0⟩:=(Ep.ext HO.out.1 hy5).at_ (j:=i') Aa;cases eg;obtain⟨x1',X1',p1',v1',x2',X2',p2',v2',x3',X3',p3',v3',x4',X4',p4',v4',ei1,-,up1⟩:=hI0;cases ei1;obtain⟨ul,hul⟩:∃ x,x=(L[i']'(Aa)).2:=⟨_,rfl⟩
          rw[<-hul]at up1;have hul2:=(HL.out.2.1 (L[i']'(Aa)) (List.getElem_mem _)).2.2;have hle:ul<=lo:=by
           have:=List.pairwise_iff_getElem.1 HL.out.2.2 i' (i'+1) Aa Aa Aa;rw[hul,HQ.out.2.2.2.1];exact this
          rw[<-hul]at hul2;have hc3:∀ X,Ext wr X->Bj 20 #[.agg #[.bool x3,.slice X3 p3 v3,.bool x4,.slice X4 p4 v4],.agg #[.bool y1,.slice Y1 m1 z1,.bool y2,.slice Y2 m2 z2]] X (fun o _=>o = .int .i64 (Eb (ul - lo))):=fun X hX =>
           JH _ _ ul lo X ((up1.ext hX).has (Nat.le_trans hul2 Ab)) ((HQ.out.1.ext (hy4.trans hX)).has (Nat.le_trans HQ.out.2.2.1.2.1 Ab)) (by have:=HQ.out.2.2.1.2.1;omega)
          have hd3:decide (Eb (ul - lo) > 0)=false:=decide_eq_false (fun h=>absurd (Sa.1 h) (Rat.not_lt.2 hle));have HC3:=Ad (Au hc3 hd3);clear hc3 hd3 hle hul hul2 up1
          go_upto_region 45 with(fail)
          refine CV 20 [234,235,236,237,238,239,240,241,242,243,244,245,246,247,248,249,250,251,252,253] [18,17,13] [_,_,_] [(kv ?_),(kv ?_),(kv ?_),(kv ?_),(kv (.bool true)),(kv (.bool true)),(kv ?_),(kv ?_),(kv (.int .i64 (i':Nat))),(kv ?_),(kv ?_),(kv ?_),(kv ?_),(kv ?_),(kv ?_),(kv ?_),(kv ?_),(kv (.int .i64 (Eb (ul - lo)))),(kv (.bool false)),(kv ?_)] (fun γ w'=>[True,True,True,True,True,True,True,True,True,True,True,True,True,True,True,True,True,True,True,True]) ?s9 ?_
          case s9 =>
           iterate 20 refine⟨?_,?_⟩
           trivial
           iterate 3 focus
            refine Ba fun _ w' he R hR=>?_;have hc:=he.cells;go_simp;(try go_ints);(try(rw[if_neg Aa]));(try(rw[if_pos Aa]));(try go_simp);(try go_ints)
            exact Bi hR
           iterate 1 focus
            intro γ w' he hf;clear hf;refine⟨by trivial,?_⟩;intro R hR;have hc:=he.cells;go_simp;exact Bi hR
           ·intro γ w' he hf;clear hf;refine⟨rfl,?_⟩;intro R hR
            have hc:=he.cells;go_simp
            (try go_ints);(try(rw[if_neg Aa]));(try(rw[if_pos Aa]));(try go_simp);(try go_ints)
            refine hR _ _ (Ext.refl _) ?_ trivial
            first | exact congrArg Value.bool (decide_eq_true Aa) | go_num | (congr 1;simp;done) | (congr 1;simp;omega) | (trace_state;fail)
           ·intro γ w' he hf;clear hf;refine⟨rfl,?_⟩;intro R hR
            have hc:=he.cells;go_simp
            (try go_ints);(try(rw[if_neg Aa]));(try(rw[if_pos Aa]));(try go_simp);(try go_ints)
            exact Bi hR
           iterate 2 focus
            intro γ w' he hf;clear hf;refine⟨by trivial,?_⟩;intro R hR;have hc:=he.cells;go_simp;exact Bi hR
           ·intro γ w' he hf;clear hf;refine⟨rfl,?_⟩;intro R hR
            have hc:=he.cells;go_simp
            (try go_ints);(try(rw[if_neg Aa]));(try(rw[if_pos Aa]));(try go_simp);(try go_ints)
            refine hR _ _ (Ext.refl _) ?_ trivial
            go_num
           iterate 8 focus
            intro γ w' he hf;clear hf;refine⟨by trivial,?_⟩;intro R hR;have hc:=he.cells;have cq0:=he.cell q0;have cq1:=he.cell q1;have cq2:=he.cell q2;have cq3:=he.cell q3;have cq4:=he.cell Q4;have cq5:=he.cell Q5;have cq6:=he.cell Q6;have cq7:=he.cell Q7;go_simp;(try go_ints);(try(rw[if_neg Aa]));(try(rw[if_pos Aa]));(try go_simp);(try go_ints)
            exact Bi hR
           ·intro γ w' he hf;clear hf;refine⟨rfl,?_⟩;intro R hR
            go_simp;exact Jq (HC3.out.1 w' he) hR
           ·intro γ w' he hf;clear hf;refine⟨rfl,?_⟩;intro R hR
            have hc:=he.cells;go_simp
            (try go_ints);(try(rw[if_neg Aa]));(try(rw[if_pos Aa]));(try go_simp);(try go_ints)
            refine hR _ _ (Ext.refl _) ?_ trivial;rw[HC3.out.2];rfl
           iterate 1 focus
            intro γ w' he hf;clear hf;refine⟨by trivial,?_⟩;intro R hR;have hc:=he.cells;go_simp;(try go_ints);(try(rw[if_neg Aa]));(try(rw[if_pos Aa]));(try go_simp);(try go_ints)
            exact Bi hR
          intro γ w27 hx27 hF;clear hF;simp only[Bd,Nat.reduceAdd];clear γ;have hx28:=hy5.trans hx27;go_wp2
          go_roundw
          case rel=>exact⟨i'+1+1,Aa,by go_num,hx28⟩
          case measure=>simp[intOf];omega
      ·obtain rfl:i=D.length:=by omega
       have hx23:=(HX.out.trans (hy2.trans hx17)).trans hy3;go_wp2
       go_ret
       exact Ah.mk rfl hx23
open Go.Deep Go.ChangeShapes Go.ChangeAt Go.Joins
section
variable{H:Type}{enc:TypeId×Value->H}{w:World}{spare:Nat->Bool}{held:Bool}
theorem Sw{fuel:Nat}{cs:List Value}{x:DataW H×List MemPlace}(h:DataW.trod enc Tryz.prog w 0 spare held fuel 44 cs=some x):∃ (A:Option Addr) (n c:Nat) (bs:List Nat),cs=[.slice A n c]/\n=bs.length/\Tn w (.slice A n c) bs/\n<=Rows.uptoBulk x.1:=by
 rcases open_ints Tryz.underlying44 Tryz.underlying5 FB h with⟨rfl,_⟩ | ⟨a,n,c,zs,rfl,_,hl,hm,hz,rfl,hcell,hwz⟩
 ·exact⟨none,0,0,[],rfl,rfl,CE.nil 1 lI 0 w,Nat.zero_le _⟩
 ·have hzl:n<=zs.length:=by rw[hz];split<;>omega
  have hw:∀ z∈zs,0<=z/\z < 256:=fun z hz=>by
   have:=hwz z hz;simp[Lit.wf]at this;have e1:IntKind.u8.min=0:=rfl;have e2:IntKind.u8.max=255:=rfl;omega
  have hlen:((zs.take n).map Int.toNat).length=n:=by simp;omega
  have h1:=NH (H:=H) (lits .u8 (zs.take n));have h2:(lits (H:=H) .u8 (zs.take n)).length=n:=by simp[lits];omega
  refine⟨some a,n,c,(zs.take n).map Int.toNat,rfl,hlen.symm,⟨some a,c,by rw[hlen],by rw[hlen];exact hl,GJ hm,fun h0=>?_⟩,by simp only[Rows.uptoBulk];omega⟩;rw[hlen]at h0;have key:∀ j (hj:j < n),w.cell? (a.add j)=some (.int .u8 (((zs.take n).map Int.toNat)[j]'(by rw[hlen];exact hj):Nat))/\((zs.take n).map Int.toNat)[j]'(by rw[hlen];exact hj) < 256:=fun j hj=>by
   have hjz:j < zs.length:=by omega
   have hb:=hw zs[j] (List.getElem_mem hjz);rw[hcell j hjz,List.getElem_map,List.getElem_take];rw[show zs.getD j 0=zs[j]from by rw[List.getD_eq_getElem?_getD,List.getElem?_eq_getElem hjz];rfl];exact⟨by congr 2;omega,Aa⟩
  obtain⟨b,off,spot⟩:=a;have hs:spot=none:=by
   have:=(key 0 h0).1;simpa[Addr.add] using World.cell?_spot this
  subst hs;refine⟨b,off,rfl,Nat.zero_le _,fun j hj=>⟨#[_],rfl,fun i hi=>?_,rfl,(key j Aa).2⟩⟩;obtain rfl:i=0:=by omega
  have:=(key j Aa).1;rw[IJ]at this;simpa using this
set_option maxRecDepth 100000 in
theorem XP{T fuel:Nat}{v:Value}{x:DataW H×List MemPlace}(hT:Tryz.prog.underlying T=some (.slice 28))(h:DataW.trod enc Tryz.prog w 0 spare held fuel T v.cells.toList=some x)(hv:∃ a n c,v = .slice a n c){l:List Raw}(hp:FZ w v l)(hb:Rows.uptoBulk x.1<=1048576):l.length<=1048576/\∀ x∈l,x.2.1.length<=1048576/\x.2.2.2.length<=1048576:=by
 obtain⟨a0,n0,c0,rfl⟩:=hv;obtain⟨A,cc,e1,g2,g3,g4⟩:=hp;rcases open_slice hT h with⟨hcs,_⟩ | ⟨a,n,c,m,k,D,Pl,hcs,_,hl,hm,hmm,rfl,hel⟩
 ·simp[Value.cells]at hcs
  obtain⟨rfl,rfl,rfl⟩:=hcs;have hl0:l=[]:=by injection e1 with _ h2 _;exact List.eq_nil_of_length_eq_zero h2.symm
  subst hl0;exact⟨Ac,fun x hx=>by simp at hx⟩
 ·simp[Value.cells]at hcs
  obtain⟨rfl,rfl,rfl⟩:=hcs;have hnl:n0=l.length:=by injection e1
  have hAa:A=some a:=by injection e1 with h1;exact h1.symm
  have hnm:n0<=m:=by rw[hmm];split<;>omega
  rw[show Tryz.prog.cellsOf 28=4 from by kernel_rfl]at hel;simp only[Rows.uptoBulk]at hb;have hlen:=NH (H:=H) ((List.range n0).map D);simp only[List.length_map,List.length_range]at hlen;refine⟨Aa,fun r hr=>?_⟩;obtain⟨j,hj,rfl⟩:=List.getElem_of_mem hr;obtain⟨g,o,hA2,_,hc⟩:=g4 Aa;obtain⟨cs,q1,q2,q3⟩:=hc j hj;obtain⟨cs',h1,h2⟩:=hel j Aa;obtain⟨_,h5,h6⟩:=World.cells?_some h1;rw[hAa]at hA2;injection hA2 with hA2
  subst hA2;have hD:=Dl (d:=D j) (l:=(List.range n0).map D) (List.mem_map.2 ⟨j,List.mem_range.2 Aa,rfl⟩);obtain⟨b,A1,m1,c1,b',A2,m2,c2,rfl,k1,k2⟩:=JJ h2;obtain⟨B1,p1,d1,B2,p2,d2,eq,dv1,dv2⟩:=q3;obtain rfl:=Ru eq;have t1:=q2 1 Aa;have t3:=q2 3 Aa;have u1:=h6 1 Aa;have u3:=h6 3 Aa;rw[IJ,IJ]at u1 u3;rw[t1]at u1;rw[t3]at u3;simp at u1 u3;obtain⟨_,_,f1,_⟩:=dv1;obtain⟨_,_,f2,_⟩:=dv2;have f1':p1=l[j].2.1.length:=by injection f1
  have f2':p2=l[j].2.2.2.length:=by injection f2
  have k1':m1<=Rows.uptoBulk (D j):=k1;have k2':m2<=Rows.uptoBulk (D j):=k2;omega
set_option maxRecDepth 100000 in
theorem TE{fuel:Nat}{cs:List Value}{x:DataW H×List MemPlace}(h:DataW.trod enc Tryz.prog w 0 spare held fuel 46 cs=some x)(hb:Rows.uptoBulk x.1<=1048576) :
  ∃ (l:List Raw) (bs:List Nat) (c:Nat) (r1 r2:Raw) (cs':Array Value),cs=cs'.toList/\cs'.size=11/\kU w (.agg cs') l bs c r1 r2/\l.length<=1048576/\bs.length<=1048576/\(∀ r∈l,r.2.1.length<=1048576/\r.2.2.2.length<=1048576) /\
   (r1.2.1.length<=1048576/\r1.2.2.2.length<=1048576/\r2.2.1.length<=1048576/\r2.2.2.2.length<=1048576):=by
 obtain⟨y0,y1,y2,y3,n,rfl,hl,h0,h1,h2,h3⟩:=trod_struct4 Tryz.underlying46 h;rw[show Tryz.prog.cellsOf 46=11 from by kernel_rfl]at hl;have k0:=Dl (d:=y0.1) (l:=[y0.1,y1.1,y2.1,y3.1]) Ac;have k1:=Dl (d:=y1.1) (l:=[y0.1,y1.1,y2.1,y3.1]) Ac;have k3:=Dl (d:=y3.1) (l:=[y0.1,y1.1,y2.1,y3.1]) Ac;simp only[Rows.uptoBulk]at hb;rw[show Tryz.prog.cellsOf 43=1 from by kernel_rfl]at h0;rw[show Tryz.prog.cellsOf 44=1 from by kernel_rfl]at h1
 rw[show Tryz.prog.cellsOf 5=1 from by kernel_rfl]at h2;rw[show Tryz.prog.cellsOf 30=8 from by kernel_rfl]at h3
 match cs,hl with
 | [c0,c1,c2,c3,c4,c5,c6,c7,c8,c9,c10],_ =>
  have h0:DataW.trod enc Tryz.prog w 0 spare held n 43 [c0]=some y0:=h0;have h1:DataW.trod enc Tryz.prog w 0 spare held n 44 [c1]=some y1:=h1;have h2:DataW.trod enc Tryz.prog w 0 spare held n 5 [c2]=some y2:=h2;have h3:DataW.trod enc Tryz.prog w 0 spare held n 30 [c3,c4,c5,c6,c7,c8,c9,c10]=some y3:=h3;have hv0:∃ a n c,c0 = .slice a n c:=by
   rcases open_slice Tryz.underlying43 h0 with⟨hcs,_⟩ | ⟨a,n,c,m,k,D,Pl,hcs,_⟩
   ·exact⟨_,_,_,by injection hcs⟩
   ·exact⟨_,_,_,by injection hcs⟩
  obtain⟨a0,n0,d0,rfl⟩:=hv0;obtain⟨l,hl⟩:=Vo Tryz.underlying43 (v := .slice a0 n0 d0) h0 ⟨_,_,_,rfl⟩;have hB:=XP Tryz.underlying43 (v := .slice a0 n0 d0) h0 ⟨_,_,_,rfl⟩ hl Aa;obtain⟨A1,n1,d1,bs,e1,rfl,hbs,hn1⟩:=Sw h1;obtain⟨z,e2,hx2,hw2⟩:=DataW.trod_int Tryz.underlying5 h2;obtain⟨r1,r2,cs3,e3,hs3,hI,q1,q2,q3,q4⟩:=ZK h3;obtain⟨b1,A1',c1',b2,A2,c2',b3,A3,c3',b4,A4,c4',e4,hr1,hr2⟩:=hI;cases e4;simp at e1 e2 e3
  obtain⟨rfl,rfl,rfl,rfl,rfl,rfl,rfl,rfl⟩:=e3;subst e1 e2;have hz:0<=z/\z < 256:=by
   simp[Lit.wf]at hw2;have e1:IntKind.u8.min=0:=rfl;have e2:IntKind.u8.max=255:=rfl;omega
  obtain⟨c,rfl⟩:∃ c:Nat,z=(c:Int):=⟨z.toNat,Aa⟩
  obtain rfl:n0=l.length:=by obtain⟨_,_,e,_⟩:=hl;injection e
  refine⟨l,bs,c,r1,r2,#[_,_,_,_,_,_,_,_,_,_,_],rfl,rfl,⟨_,_,_,_,_,_,_,_,_,_,_,_,_,_,_,_,rfl,hl,hbs,Aa,hr1,hr2⟩,hB.1,Aa,hB.2,Aa⟩
theorem MG{v:Value}{cs:Array Value}(h:v.cells.toList=cs.toList)(hs:cs.size=11):v = .agg cs:=by
 have hc:v.cells=cs:=Array.toList_inj.1 h;subst hc;cases v<;>first | rfl | (exfalso;simp[Value.cells]at hs)
end
open Go.WideShapes
open Go.ChangeMaps (open_string shut_string)
theorem own_:ownKnob Tryz.prog.godebug=none:=by kernel_rfl
theorem laidOut_:laidOutB Tryz.prog=true:=by kernel_rfl
set_option maxRecDepth 100000 in
theorem realrootsKnown_lifted(os:Os)(started:os.Started)(H:Type)(enc:TypeId×Value->H)(F:Stop.Interp) :
  ReturnsInHanded {} Tryz.checked os 4 .any ((Rows.OpenSpec.upto Rows.realrootsKnownSpec).pre6 enc Tryz.prog Tryz.f4 Rows.realrootsKnownUptoRow.domain false) (((Rows.OpenSpec.upto Rows.realrootsKnownSpec).at F).post enc Tryz.prog Tryz.f4 false true false false):=by
 refine returnsInHanded_of_cond (C:=Tryz.checked) (s:=Rows.OpenSpec.upto Rows.realrootsKnownSpec) (k:=Rows.uptoSmall) rfl own_ started FB Tryz.func4
  (OpenSpec.witness (enc:=enc) (C:=Tryz.checked) (s:=Rows.OpenSpec.upto Rows.realrootsKnownSpec) (k:=Rows.uptoSmall) rfl false ⟨#[],#[.agg #[.slice none 0 0,.slice none 0 0,.int .u8 0,.bool false,.slice none 0 0,.bool false,.slice none 0 0,.bool false,.slice none 0 0,.bool false,.slice none 0 0]],[]⟩ 8 FB FB FB
   (x:=([.agg [.nil,.nil,.lit (.int .u8 0),.agg [.agg [.agg [.lit (.bool false),.nil],.agg [.lit (.bool false),.nil]],.agg [.agg [.lit (.bool false),.nil],.agg [.lit (.bool false),.nil]]]]],[],[])) FB rfl FB) ?_
 intro W base args ds gs before hval hW _ hk _;have hW':=hW;obtain⟨p,q,hA0,hV,rfl,hfz,hnd⟩:=hW;have hA:DataW.TrodAll enc Tryz.prog W 0 (fun _=>true) true Tryz.f4.params.toList args.toList ds p:=hA0;rw[Tryz.params4]at hA hval;obtain⟨v0,d0,hargs,rfl,h0⟩:=trodAll_one hA;obtain rfl:args=#[v0]:=by cases args;simp_all
 obtain⟨rfl,rfl⟩:=trodVars_none hV;have lt0:∀ x∈p,x.block < W.heap.size:=by obtain⟨m,hm⟩:=h0;exact DataW.trod_lt m _ _ _ hm
 have hkk:=of_decide_eq_true hk;have hb0:Rows.uptoBulk d0<=1048576:=Nat.le_trans (Dl (d:=d0) (l:=[d0] ++ []) Ac) hkk;obtain⟨l,bs,sq,x,y,w0,g1,g2,g3,g4⟩:∃ l bs sq x y,kU W v0 l bs sq x y/\l.length<=1048576/\bs.length<=1048576/\(∀ r∈l,r.2.1.length<=1048576/\r.2.2.2.length<=1048576)/\(x.2.1.length<=1048576/\x.2.2.2.length<=1048576/\y.2.1.length<=1048576/\y.2.2.2.length<=1048576):=by
  obtain⟨m,hm⟩:=h0;obtain⟨l,bs,c,r1,r2,cs,e1,e2,e3,e4⟩:=TE hm hb0;exact⟨l,bs,c,r1,r2,by rw[MG e1 e2];exact e3,e4⟩
 clear hA0 hkk hk;refine(VV v0 l bs sq x y W w0 g1 g2 g3 g4).mono fun e W' ⟨v,he,hv,bel⟩=>?_;subst he hv;exact⟨_,rfl,_,_,_,[],_,[],hW',trodAll_mk1 (shut_bool Tryz.underlying4 _),(trodAll_cons_mk (Below.trod laidOut_ FB (of_decide_eq_true FB) h0 bel lt0) trodAll_mk0),rfl,bel.frame _,fun h=>by cases h⟩
theorem realrootsKnown_over:Rows.realrootsKnownUptoRow.holds Tryz.pinned (Rows.OpenSpec.upto Rows.realrootsKnownSpec):=
 OpenClaim.holds_of_cond 4 Tryz.f4 rfl rfl rfl rfl rfl rfl rfl ⟨rfl,rfl,rfl,rfl,rfl⟩ rfl rfl rfl rfl rfl FB Tryz.func4 FB
  (of_decide_eq_true FB) (by unfold Func.isWrapper;first | (rw[if_pos (by decide +kernel)];kernel_rfl) | (rw[if_neg (by decide +kernel)];exact⟨rfl,rfl⟩))
  (fun os started H enc _ F=>realrootsKnown_lifted os started H enc F)
theorem realrootsKnown_proved:Rows.RealrootsKnownUptoSaid:=realrootsKnown_over
end Go.Proofs.YtmhgnigpmompmaaGreat
