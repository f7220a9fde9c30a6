/- Lemmas. -/
import Derived.WalkKit
import Derived.Below
import Derived.Deep.Draws
import Derived.Orders
import Derived.Tactics
import Derived.Test.YtmhgnigpmompmaaGreatProg
import Derived.IntWalk
import Derived.Laws.BitsAllLaws
import Derived.Laws.AppendOwn
import Derived.WalkSpells
import Derived.Lib.Strings
import Derived.Lib.Slices
import Derived.Lib.Small
import Derived.Lib.Walk
import Derived.Lib.BitFns
import Derived.Lib.Hide
import Derived.Outline
import Derived.BigQuiet
import Derived.Deep.QuietTactic
import Derived.Deep.DeepCutAuto
import Derived.Deep.CutBlock
import Derived.Laws.MakeOwn
set_option linter.unusedVariables false
set_option linter.unusedSimpArgs false
set_option maxHeartbeats 16000000
namespace Go
theorem Au{p q:Prop}(h:p)(k:q):p/\q:=⟨h,k⟩
theorem Aa{p:Prop}(h:p:=by omega):p:=h
theorem Ac{p:Prop}(h:p:=by simp):p:=h
theorem Ab{p:Prop}(h:p:=by decide):p:=h
theorem Ad{p:Prop}(h:p:=by grind):p:=h
theorem Ak{p:Prop}(h:p:=by simp<;>omega):p:=h
theorem Dq{p:Prop}(h:p:=by simp;omega):p:=h
theorem j6{p:Prop}(h:p:=by rfl):p:=h
theorem Fy{p:Prop}(h:p:=by kernel_rfl):p:=h
end Go
namespace Go.Hp
open Go.RowKit
def Ext(w w':World):Prop:=Below w.heap.size w w'
section
variable{a w w':World}
theorem Ext.refl(w:World):Ext w w:=Below.refl _ _
theorem Ext.size(h:Ext a w):a.heap.size<=w.heap.size:=Below.size h
theorem Ext.trans{b c:World}(h:Ext a b)(k:Ext b c):Ext a c:=Below.trans h (Below.mono k h.size)
theorem Ext.alloc(h:Ext a w)(o:Obj):Ext a (w.alloc o):=Below.alloc h h.size o
theorem Ext.drew(h:Ext a w):Ext a w.drew:=Below.drew h
theorem Ext.drewN(h:Ext a w)(n:Nat):Ext a (w.drewN n):=by
 have h:Below a.heap.size a w:=h;exact⟨h.os,h.tape,h.output,h.size,h.block⟩
theorem Ext.setCell(h:Ext a w)(p:Addr)(u:Value)(hp:a.heap.size<=p.block):Ext a (w.setCell p u):=Below.setCell h hp u
theorem Ext.grown(h:Ext a w){row:Option Nat}(hg:w.grownBy w' row)(hr:∀ k,row=some k->a.heap.size<=k):Ext a w':=Below.grown h hg h.size hr
theorem Ext.cell(h:Ext a w){p:Addr}{v:Value}(hp:a.cell? p=some v):w.cell? p=some v:=
 (Below.cell h (World.block_lt_of_cell? a p hp)).trans hp
theorem Ext.cells(h:Ext a w):∀ b o,b < a.heap.size->w.cell? ⟨b,o,none⟩=a.cell? ⟨b,o,none⟩:=fun b o hb=>Below.cell (p:=⟨b,o,none⟩) h hb
theorem Ext.frozens(h:Ext a w):∀ b o,b < a.heap.size->w.frozen? ⟨b,o,none⟩=a.frozen? ⟨b,o,none⟩:=fun b o hb=>Below.frozen (p:=⟨b,o,none⟩) h hb
theorem Ext.blk(h:Ext a w){g:Nat}{o:Obj}(hg:a.heap[g]? = some o):w.heap[g]? = some o:=by
 have hlt:g < a.heap.size:=by
  rcases Nat.lt_or_ge g a.heap.size with hlt | hge
  ·exact hlt
  ·rw[Array.getElem?_eq_none hge]at hg;cases hg
 exact(Below.block h g hlt).trans hg
end
def Ai(w:World)(R:Value->World->Prop)(e:Ending)(w':World):Prop:=∃ v,e = .returned v/\R v w'/\Ext w w'
theorem Ai.mk{w w':World}{R:Value->World->Prop}{v:Value}(hr:R v w')(he:Ext w w'):Ai w R (.returned v) w':=⟨v,rfl,hr,he⟩
theorem Ai.imp{P:Program}{f:FuncId}{args:Array Value}{w:World}{R R':Value->World->Prop}(h:Calls P f args w (Ai w R))(hi:∀ v w',R v w'->R' v w'):Calls P f args w (Ai w R'):=
 h.mono fun _ _ ⟨v,he,hr,hx⟩=>⟨v,he,hi _ _ hr,hx⟩
def FP(w:World)(A:Option Addr)(ds:List Nat):Prop:=
 (∀ d∈ds,d < 4294967296)/\(0 < ds.length->∃ a,A=some a/\∀ j (h:j < ds.length),w.cell? (a.add j)=some (.int .u32 (ds[j]:Nat)))
theorem FP.ext{w w':World}{A:Option Addr}{ds:List Nat}(h:FP w A ds)(e:Ext w w'):FP w' A ds:=
 ⟨h.1,fun hl=>by obtain⟨a,ha,hc⟩:=h.2 hl;exact⟨a,ha,fun j hj=>e.cell (hc j hj)⟩⟩
def BH(w:World)(v:Value)(ds:List Nat):Prop:=
 ∃ A c,v = .slice A ds.length c/\ds.length<=c/\c<=9223372036854775807/\FP w A ds
theorem BH.ext{w w':World}{v:Value}{ds:List Nat}(h:BH w v ds)(e:Ext w w'):BH w' v ds:=by
 obtain⟨A,c,h1,h2,h3,h4⟩:=h;exact⟨A,c,h1,h2,h3,h4.ext e⟩
theorem J7{c:Nat}(h:c<=maxLen):c<=9223372036854775807:=by simpa[maxLen] using h
theorem BH.of_own{w:World}{base e n:Nat}{v:Value}{ds:List Nat}(h:w.ownsRow base e 1 v n (ds.map fun d=>Value.int .u32 (d:Nat)))(hd:∀ d∈ds,d < 4294967296):BH w v ds:=by
 have hl:ds.length=n:=by simpa using h.1
 subst hl;rcases h.2 with⟨rfl,h0⟩ | ⟨g,cap,cur,rfl,_,hg,hn,hm,hs,ht⟩
 ·exact⟨none,0,by rw[h0],Aa,Aa,hd,fun hh=>Aa⟩
 ·refine⟨_,cap,rfl,hn,J7 hm,hd,fun _=>⟨_,rfl,fun j hj=>?_⟩⟩
  exact h.cells (g:=g) rfl j _ (by rw[List.getElem?_map,List.getElem?_eq_getElem hj];rfl)
def dv(d:Nat):Value := .int .u32 (d:Nat)
def FJ(n:Nat):Array Value:=((List.replicate n 0).map dv).toArray
def BA(w:World)(g:Nat)(t:TypeId)(l:List Nat):Prop:=w.heap[g]? = some (.cells (l.map dv).toArray t (0,0))
section
variable{w w':World}{g:Nat}{t:TypeId}{l:List Nat}
theorem BA.lt(h:BA w g t l):g < w.heap.size:=by
 rcases Nat.lt_or_ge g w.heap.size with hlt | hge
 ·exact hlt
 ·unfold BA at h;rw[Array.getElem?_eq_none hge]at h;cases h
theorem BA.cell(h:BA w g t l){i:Nat}(hi:i < l.length):w.cell? ⟨g,i,none⟩=some (.int .u32 (l[i]:Nat)):=by
 rw[cell_of_row w g i _ t (0,0) h];simp[hi,dv]
theorem BA.frozen(h:BA w g t l)(i:Nat):w.frozen? ⟨g,i,none⟩=false:=by
 unfold BA at h;simp[World.frozen?,h]
theorem BA.new(w:World)(t:TypeId)(n:Nat):BA (w.alloc (.cells (FJ n) t)) w.heap.size t (List.replicate n 0):=heap_alloc_new w _
theorem BA.set_(h:BA w g t l)(i d:Nat):BA (w.setCell ⟨g,i,none⟩ (.int .u32 (d:Nat))) g t (l.set i d):=by
 unfold BA at h ⊢;simp[World.setCell,Array.getElem?_modify,h,List.map_set,dv]
theorem BA.setI(h:BA w g t l)(i d:Nat){z:Int}(hz:z=(d:Nat)):BA (w.setCell ⟨g,i,none⟩ (.int .u32 z)) g t (l.set i d):=by subst hz;exact h.set_ i d
theorem BA.ext(h:BA w g t l)(e:Ext w w'):BA w' g t l:=e.blk h
theorem BA.alloc(h:BA w g t l)(o:Obj):BA (w.alloc o) g t l:=(Below.heap_alloc w o g h.lt).trans h
theorem BA.far(h:BA w g t l){p:Addr}(hp:g≠p.block)(u:Value):BA (w.setCell p u) g t l:=(Below.heap_setCell w p u g hp).trans h
theorem BA.digv(h:BA w g t l)(hd:∀ d∈l,d < 4294967296){c:Nat}(hc:l.length<=c)(hm:c<=9223372036854775807):BH w (.slice (some ⟨g,0,none⟩) l.length c) l:=by
 refine⟨_,c,rfl,hc,hm,hd,fun _=>⟨_,rfl,fun j hj=>?_⟩⟩;have e:(⟨g,0,none⟩:Addr).add j=⟨g,j,none⟩:=by unfold Addr.add;split<;>simp_all
 rw[e];exact h.cell hj
end
theorem MC(n:Nat):madeCells #[Value.int .u32 0] n=FJ n:=by
 apply Array.ext
 ·simp[madeCells,FJ]
 ·intro i h1 h2
  simp[madeCells,FJ,dv,Nat.mod_one]
def PM(w:World)(v:Value)(neg:Bool)(ds:List Nat):Prop:=
 ∃ s,v = .agg #[.bool neg,s]/\BH w s ds
theorem PM.ext{w w':World}{v:Value}{neg:Bool}{ds:List Nat}(h:PM w v neg ds)(e:Ext w w'):PM w' v neg ds:=by
 obtain⟨s,h1,h2⟩:=h;exact⟨s,h1,h2.ext e⟩
def nv:List Nat->Nat
 | []=>0
 | d::ds=>d+4294967296*nv ds
def iv(neg:Bool)(ds:List Nat):Int:=if neg then -(nv ds:Int)else nv ds
def DK(w:World)(v:Value)(n l:Nat):Prop:=∃ ds,BH w v ds/\nv ds=n/\ds.length<=l
theorem DK.ext{w w':World}{v:Value}{n l:Nat}(h:DK w v n l)(e:Ext w w'):DK w' v n l:=by obtain⟨d,h1,h2⟩:=h;exact⟨d,h1.ext e,h2⟩
def Bt(w:World)(v:Value)(n:Nat):Prop:=∃ ds,BH w v ds/\nv ds=n/\(∀ h:ds≠[],ds.getLast h≠0)
theorem Bt.ext{w w':World}{v:Value}{n:Nat}(h:Bt w v n)(e:Ext w w'):Bt w' v n:=by obtain⟨d,h1,h2⟩:=h;exact⟨d,h1.ext e,h2⟩
def jS(neg:Bool)(ds:List Nat):Prop:=(∀ h:ds≠[],ds.getLast h≠0)/\(neg=true->ds≠[])
def Bj(w:World)(v:Value)(x:Int):Prop:=∃ neg ds,PM w v neg ds/\iv neg ds=x/\ds.length<=1099511627776
def AO(w:World)(v:Value)(x:Int):Prop:=∃ neg ds,PM w v neg ds/\iv neg ds=x/\jS neg ds
theorem Bj.ext{w w':World}{v:Value}{x:Int}(h:Bj w v x)(e:Ext w w'):Bj w' v x:=by
 obtain⟨n,d,h1,h2⟩:=h;exact⟨n,d,h1.ext e,h2⟩
theorem AO.ext{w w':World}{v:Value}{x:Int}(h:AO w v x)(e:Ext w w'):AO w' v x:=by
 obtain⟨n,d,h1,h2⟩:=h;exact⟨n,d,h1.ext e,h2⟩
def Bc(ds:List Nat):Prop:=∀ d∈ds,d < 4294967296
theorem Bc.nil:Bc []:=fun _ h=>by cases h
theorem Bc.cons{d:Nat}{ds:List Nat}(h:d < 4294967296)(hs:Bc ds):Bc (d::ds):=fun e he=>by
 rcases List.mem_cons.1 he with rfl | he
 ·exact h
 ·exact hs e he
theorem Bc.append{a b:List Nat}(ha:Bc a)(hb:Bc b):Bc (a ++ b):=fun e he=>by
 rcases List.mem_append.1 he with he | he
 ·exact ha e he
 ·exact hb e he
theorem Bc.left{a b:List Nat}(h:Bc (a ++ b)):Bc a:=fun e he=>h e (List.mem_append_left _ he)
theorem Bc.right{a b:List Nat}(h:Bc (a ++ b)):Bc b:=fun e he=>h e (List.mem_append_right _ he)
theorem Bc.take{a:List Nat}(h:Bc a)(n:Nat):Bc (a.take n):=fun e he=>h e (List.mem_of_mem_take he)
theorem Bc.drop{a:List Nat}(h:Bc a)(n:Nat):Bc (a.drop n):=fun e he=>h e (List.mem_of_mem_drop he)
theorem Bc.get{a:List Nat}(h:Bc a){i:Nat}(hi:i < a.length):a[i] < 4294967296:=h _ (List.getElem_mem hi)
theorem Bc.zeros(n:Nat):Bc (List.replicate n 0):=fun e he=>by rw[List.eq_of_mem_replicate he];decide
def bp(n:Nat):Nat:=4294967296^n
theorem IP:bp 0=1:=rfl
theorem BO(n:Nat):bp (n+1)=4294967296*bp n:=by unfold bp;rw[Nat.pow_succ,Nat.mul_comm]
theorem MQ(m n:Nat):bp (m+n)=bp m*bp n:=by unfold bp;rw[Nat.pow_add]
theorem Ia(n:Nat):0 < bp n:=Nat.pow_pos Ab
theorem Jf{m n:Nat}(h:m<=n):bp m<=bp n:=Nat.pow_le_pow_right Ab h
theorem bF:bp 1=4294967296:=rfl
theorem OD:bp 2=18446744073709551616:=by decide
theorem C9:nv []=0:=rfl
theorem Cm(d:Nat)(ds:List Nat):nv (d::ds)=d+4294967296*nv ds:=rfl
theorem NK(a b:List Nat):nv (a ++ b)=nv a+bp a.length*nv b:=by
 induction a with
 | nil=>simp[C9,IP]
 | cons d ds ih =>
  rw[List.cons_append,Cm,Cm,ih,List.length_cons,BO,Nat.mul_add,Nat.mul_assoc];omega
theorem Pw(a:List Nat)(d:Nat):nv (a ++ [d])=nv a+bp a.length*d:=by rw[NK,Cm,C9];rfl
theorem Ey{ds:List Nat}(h:Bc ds):nv ds < bp ds.length:=by
 induction ds with
 | nil=>exact Ia 0
 | cons d ds ih =>
  have h1:=ih (fun e he=>h e (List.mem_cons_of_mem _ he));have h2:=h d List.mem_cons_self;rw[Cm,List.length_cons,BO];omega
theorem Xf(n:Nat):nv (List.replicate n 0)=0:=by
 induction n with
 | zero=>rfl
 | succ n ih=>rw[List.replicate_succ,Cm,ih]
theorem Kb{ds:List Nat}{i:Nat}(hi:i < ds.length):nv (ds.take (i+1))=nv (ds.take i)+bp i*ds[i]:=by
 rw[List.take_succ_eq_append_getElem hi,Pw,List.length_take,Nat.min_eq_left Aa]
theorem Eo(ds:List Nat)(i:Nat)(hi:i<=ds.length):nv ds=nv (ds.take i)+bp i*nv (ds.drop i):=by
 have:=NK (ds.take i) (ds.drop i);rw[List.take_append_drop,List.length_take,Nat.min_eq_left hi]at this;exact this
theorem Ep{ds:List Nat}{i:Nat}(hi:i < ds.length):nv (ds.drop i)=ds[i]+4294967296*nv (ds.drop (i+1)):=by
 rw[List.drop_eq_getElem_cons hi,Cm]
theorem Bc.set{l:List Nat}(h:Bc l){d:Nat}(hd:d < 4294967296)(i:Nat):Bc (l.set i d):=fun e he=>by
 rcases List.mem_or_eq_of_mem_set he with he | rfl
 ·exact h e he
 ·exact hd
theorem BP{l:List Nat}{k d:Nat}(hk:k < l.length):nv ((l.set k d).take (k+1))=nv (l.take k)+bp k*d:=by
 have hk':k < (l.set k d).length:=by simpa using hk
 rw[Kb hk'];simp[List.take_set_of_le]
def dg(ds:List Nat)(k:Nat):Nat:=ds.getD k 0
theorem DN{ds:List Nat}{k:Nat}(h:k < ds.length):dg ds k=ds[k]:=by unfold dg;rw[List.getD_eq_getElem?_getD,List.getElem?_eq_getElem h];rfl
theorem LV{ds:List Nat}{k:Nat}(h:ds.length<=k):dg ds k=0:=by unfold dg;rw[List.getD_eq_getElem?_getD,List.getElem?_eq_none h];rfl
theorem BA.celld{w:World}{g:Nat}{t:TypeId}{l:List Nat}(h:BA w g t l){i:Nat}(hi:i < l.length):w.cell? ⟨g,i,none⟩=some (.int .u32 (dg l i:Nat)):=by rw[DN hi];exact h.cell hi
theorem AP(ds:List Nat)(k:Nat):nv (ds.take (k+1))=nv (ds.take k)+bp k*dg ds k:=by
 rcases Nat.lt_or_ge k ds.length with h | h
 ·rw[DN h,Kb h]
 ·rw[LV h,List.take_of_length_le Aa,List.take_of_length_le h];omega
theorem AZ{ds:List Nat}(h:Bc ds)(k:Nat):dg ds k < 4294967296:=by
 rcases Nat.lt_or_ge k ds.length with hl | hl
 ·rw[DN hl];exact h.get hl
 ·rw[LV hl];decide
theorem IA{L X Y p c x y:Nat}(h:L+c*p=X+Y):L+p*((x+y+c) % 4294967296)+(x+y+c) / 4294967296*(4294967296*p)=X+p*x+(Y+p*y):=by
 have e:(x+y+c) % 4294967296+4294967296*((x+y+c) / 4294967296)=x+y+c:=Nat.mod_add_div _ _;generalize (x+y+c) % 4294967296=r at *;generalize (x+y+c) / 4294967296=q at *;grind
def JH(ds:List Nat):Prop:=∀ h:ds≠[],ds.getLast h≠0
theorem JH.nil:JH []:=fun h=>absurd rfl h
theorem JH.len{ds:List Nat}(h:JH ds)(hl:0 < ds.length):bp (ds.length - 1)<=nv ds:=by
 have hne:ds≠[]:=fun e=>by rw[e]at hl;simp at hl
 have h1:=h hne;have h2:=List.dropLast_concat_getLast hne;rw[<-h2,Pw];have h3:bp (ds.dropLast ++ [ds.getLast hne]).length=bp ds.length:=by rw[h2]
 have h4:ds.dropLast.length=ds.length - 1:=by simp
 rw[h4];have h5:(ds.dropLast ++ [ds.getLast hne]).length - 1=ds.length - 1:=by rw[h2]
 rw[h5];have:bp (ds.length - 1)*1<=bp (ds.length - 1)*ds.getLast hne:=Nat.mul_le_mul_left _ Aa;omega
theorem JH.pos{ds:List Nat}(h:JH ds):nv ds=0↔ds=[]:=by
 constructor
 ·intro h0
  rcases Nat.eq_zero_or_pos ds.length with hl | hl
  ·exact List.eq_nil_of_length_eq_zero hl
  ·have:=h.len hl
   have:=Ia (ds.length - 1);omega
 ·rintro rfl;rfl
theorem QH:∀ {a b:List Nat},Bc a->Bc b->a.length=b.length->nv a=nv b->a=b
 | [],[],_,_,_,_=>rfl
 | x::a,y::b,ha,hb,hl,hv=>by
  rw[Cm,Cm]at hv;have h1:=ha x List.mem_cons_self;have h2:=hb y List.mem_cons_self;have h3:x=y:=by omega
  have h4:nv a=nv b:=by omega
  rw[h3,QH (fun e he=>ha e (List.mem_cons_of_mem _ he)) (fun e he=>hb e (List.mem_cons_of_mem _ he)) (by simpa using hl) h4]
 | [],_::_,_,_,hl,_=>by simp at hl
 | _::_,[],_,_,hl,_=>by simp at hl
theorem Jt{a b:List Nat}(da:Bc a)(tb:JH b)(h:a.length < b.length):nv a < nv b:=by
 have l1:=Ey da;have:=tb.len Aa;have:=Jf (show a.length<=b.length - 1 by omega);omega
theorem LW{a b:List Nat}(db:Bc b)(ta:JH a)(h:nv a<=nv b):a.length<=b.length:=by
 rcases Nat.lt_or_ge b.length a.length with hl | hl
 ·have:=Jt db ta hl;omega
 ·exact hl
theorem NU{a:List Nat}(ta:JH a){n:Nat}(h:nv a < bp n):a.length<=n:=by
 rcases Nat.lt_or_ge n a.length with hl | hl
 ·have:=ta.len Aa
  have:=Jf (show n<=a.length - 1 by omega);omega
 ·exact hl
def trim(ds:List Nat):List Nat:=(ds.reverse.dropWhile (· == 0)).reverse
theorem QL:trim []=[]:=rfl
theorem El(ds:List Nat):trim (ds ++ [0])=trim ds:=by simp[trim]
theorem J6(ds:List Nat)(d:Nat)(h:d≠0):trim (ds ++ [d])=ds ++ [d]:=by simp[trim,h]
theorem JW{p:List Nat->Prop}(h0:p [])(h1:∀ ds d,p ds->p (ds ++ [d])):∀ ds,p ds:=by
 intro ds;have:∀ n (ds:List Nat),ds.length=n->p ds:=by
  intro n;induction n with
  | zero=>intro ds h;rw[List.eq_nil_of_length_eq_zero h];exact h0
  | succ n ih =>
   intro ds h;have hne:ds≠[]:=fun e=>by rw[e]at h;simp at h
   rw[<-List.dropLast_concat_getLast hne];exact h1 _ _ (ih _ (by simp[h]))
 exact this _ ds rfl
theorem Gh:∀ ds,JH (trim ds):=by
 refine JW JH.nil fun ds d ih=>?_;by_cases h:d=0
 ·subst h;rw[El];exact ih
 ·rw[J6 _ _ h]
  intro hne;simpa using h
theorem GH:∀ ds,nv (trim ds)=nv ds:=by
 refine JW rfl fun ds d ih=>?_;by_cases h:d=0
 ·subst h;rw[El,ih,Pw,Nat.mul_zero,Nat.add_zero]
 ·rw[J6 _ _ h]
theorem Gq{ds:List Nat}(h:Bc ds):Bc (trim ds):=fun e he=>by
 unfold trim at he;exact h e (List.mem_reverse.1 (List.Sublist.mem (List.mem_reverse.1 he) (List.dropWhile_sublist _)))
theorem R9(ds:List Nat):(trim ds).length<=ds.length:=by
 unfold trim;rw[List.length_reverse];have:=(List.dropWhile_sublist (fun x:Nat=>x==0) (l:=ds.reverse)).length_le;rwa[List.length_reverse]at this
theorem Rf{ds:List Nat}(h:JH ds):trim ds=ds:=by
 revert h;refine JW (p:=fun ds=>JH ds->trim ds=ds) (fun _=>rfl) (fun ds d _ h=>?_) ds;refine J6 _ _ ?_;simpa using h Ac
theorem KP{ds:List Nat}{m:Nat}(hm:m<=ds.length)(hz:∀ j,m<=j->(h:j < ds.length)->ds[j]=0)(hlast:∀ h:m - 1 < ds.length,0 < m->ds[m - 1]≠0):ds.take m=trim ds:=by
 have h1:ds=ds.take m ++ List.replicate (ds.length - m) 0:=by
  apply List.ext_getElem
  ·simp;omega
  ·intro i h1 h2
   rw[List.getElem_append]
   split
   ·rename_i h;simp at h;simp
   ·rename_i h;simp at h;simp;exact hz i Aa h1
 have h2:∀ n (xs:List Nat),trim (xs ++ List.replicate n 0)=trim xs:=by
  intro n;induction n with
  | zero=>intro xs;simp
  | succ n ih=>intro xs;rw[List.replicate_succ',<-List.append_assoc,El,ih]
 rw[h1,h2];have h3:JH (ds.take m):=by
  intro hne;rcases Nat.eq_zero_or_pos m with h0 | h0
  ·subst h0;simp at hne
  ·rw[List.getLast_eq_getElem]
   simp only[List.length_take,Nat.min_eq_left hm,List.getElem_take];exact hlast Aa h0
 rw[Rf h3,<-h1]
theorem Q7(ds:List Nat):∃ m,trim ds=ds.take m:=by
 refine JW (p:=fun ds=>∃ m,trim ds=ds.take m) ⟨0,rfl⟩ (fun ds d ⟨m,hm⟩=>?_) ds;by_cases h:d=0
 ·subst h
  rw[El,hm];refine⟨min m ds.length,?_⟩;rw[List.take_append_of_le_length (Nat.min_le_right _ _),<-List.take_take,List.take_length]
 ·exact⟨ds.length+1,by rw[J6 _ _ h,List.take_of_length_le Ac]⟩
theorem FP.trim{w:World}{A:Option Addr}{ds:List Nat}(h:FP w A ds):FP w A (trim ds):=by
 refine⟨Gq h.1,fun hl=>?_⟩;have hle:=R9 ds;obtain⟨a,ha,hc⟩:=h.2 Aa;refine⟨a,ha,fun j hj=>?_⟩;obtain⟨m,hm⟩:=Q7 ds;rw[hc j Aa];simp only[hm,List.getElem_take]
section
variable{W V v1 v2 P Vl un un1 un2 Wl:Nat}
structure D5(W V v1 v2 P Vl un un1 un2 Wl:Nat):Prop where
 hV:V=(v1*4294967296+v2)*P+Vl
 hVl:Vl < P
 hv1:v1 < 4294967296
 hv2:v2 < 4294967296
 hv:4294967296<=2*v1
 hW:W=((un*4294967296+un1)*4294967296+un2)*P+Wl
 hWl:Wl < P
 hu2:un2 < 4294967296
 hu1:un1 < 4294967296
 hlt:W < 4294967296*V
theorem D5.vpos(h:D5 W V v1 v2 P Vl un un1 un2 Wl):0 < V:=by
 rcases Nat.eq_zero_or_pos V with h0 | h0
 ·have:=h.hlt;rw[h0]at this;omega
 ·exact h0
theorem D5.q_lt(h:D5 W V v1 v2 P Vl un un1 un2 Wl):W / V < 4294967296:=Nat.div_lt_of_lt_mul (by rw[Nat.mul_comm];exact h.hlt)
theorem D5.w_lt(h:D5 W V v1 v2 P Vl un un1 un2 Wl):W < ((un*4294967296+un1)*4294967296+un2+1)*P:=by
 have:=h.hW;have:=h.hWl;rw[Nat.add_mul _ 1,Nat.one_mul];omega
theorem D5.v_ge(h:D5 W V v1 v2 P Vl un un1 un2 Wl):(v1*4294967296+v2)*P<=V:=by have:=h.hV;omega
theorem D5.w_ge(h:D5 W V v1 v2 P Vl un un1 un2 Wl):((un*4294967296+un1)*4294967296+un2)*P<=W:=by have:=h.hW;omega
theorem D5.un_le(h:D5 W V v1 v2 P Vl un un1 un2 Wl):un<=v1:=by
 rcases Nat.lt_or_ge v1 un with hc | hc
 ·exfalso
  have h1:=h.w_ge;have h2:=h.hlt;have h3:V < (v1*4294967296+v2+1)*P:=by have:=h.hV;have:=h.hVl;rw[Nat.add_mul _ 1,Nat.one_mul];omega
  have h4:v1*4294967296+v2+1<=(v1+1)*4294967296:=by have:=h.hv2;omega
  have h5:(v1*4294967296+v2+1)*P<=(v1+1)*4294967296*P:=Nat.mul_le_mul_right _ h4;have h6:(v1+1)*4294967296*4294967296<=(un*4294967296+un1)*4294967296+un2:=by omega
  have h7:(v1+1)*4294967296*4294967296*P<=((un*4294967296+un1)*4294967296+un2)*P:=Nat.mul_le_mul_right _ h6;have h8:4294967296*V < 4294967296*((v1+1)*4294967296*P):=by omega
  have h9:4294967296*((v1+1)*4294967296*P)=(v1+1)*4294967296*4294967296*P:=by grind
  omega
 ·exact hc
theorem D5.guess_le(h:D5 W V v1 v2 P Vl un un1 un2 Wl):(un*4294967296+un1) / v1<=4294967297:=by
 have h1:=h.un_le;have h2:=h.hv;have h3:=h.hu1;have:(un*4294967296+un1) / v1 < 4294967298:=by
  apply Nat.div_lt_of_lt_mul
  have:un*4294967296<=v1*4294967296:=Nat.mul_le_mul_right _ h1;omega
 omega
theorem D5.guess_ge(h:D5 W V v1 v2 P Vl un un1 un2 Wl):W / V<=(un*4294967296+un1) / v1:=by
 have hv:=h.hv;rw[Nat.le_div_iff_mul_le Aa];rcases Nat.lt_or_ge (un*4294967296+un1) (W / V*v1)with hc | hc
 ·exfalso
  have h1:W / V*V<=W:=Nat.div_mul_le_self _ _;have h2:W / V*((v1*4294967296+v2)*P)<=W / V*V:=Nat.mul_le_mul_left _ h.v_ge;have h3:(un*4294967296+un1+1)*(4294967296*P)<=W / V*v1*(4294967296*P):=Nat.mul_le_mul_right _ hc;have h4:=h.w_lt;have h5:((un*4294967296+un1)*4294967296+un2+1)*P<=(un*4294967296+un1+1)*4294967296*P:=Nat.mul_le_mul_right _ (by have:=h.hu2;omega);have h6:W / V*v1*(4294967296*P)<=W / V*((v1*4294967296+v2)*P):=by
   rw[Nat.mul_assoc];refine Nat.mul_le_mul_left _ ?_;rw[<-Nat.mul_assoc];exact Nat.mul_le_mul_right _ Aa
  rw[<-Nat.mul_assoc]at h3;omega
 ·exact hc
theorem D5.lower(h:D5 W V v1 v2 P Vl un un1 un2 Wl){g r:Nat}(hg:g*v1+r=un*4294967296+un1)(hq:W / V<=g)(hc:4294967296<=g\/r*4294967296+un2 < g*v2):W / V<=g - 1/\1<=g:=by
 have hq':=h.q_lt;rcases hc with hc | hc
 ·generalize W / V=Q at *;omega
 ·have h1:((un*4294967296+un1)*4294967296+un2+1)<=g*(v1*4294967296+v2):=by
   rw[<-hg];have:g*(v1*4294967296+v2)=g*v1*4294967296+g*v2:=by rw[Nat.mul_add,Nat.mul_assoc]
   rw[this];omega
  have h2:W < g*V:=by
   have h3:=Nat.mul_le_mul_right P h1;have h4:g*((v1*4294967296+v2)*P)<=g*V:=Nat.mul_le_mul_left _ h.v_ge;have h5:=h.w_lt;rw[Nat.mul_assoc g]at h3;omega
  have h3:W / V < g:=Nat.div_lt_of_lt_mul (by rw[Nat.mul_comm];exact h2);generalize W / V=Q at *;omega
theorem D5.upper(h:D5 W V v1 v2 P Vl un un1 un2 Wl){g:Nat}(hg:g<=4294967296)(hc:g*(v1*4294967296+v2)<=(un*4294967296+un1)*4294967296+un2):g<=W / V+1:=by
 rcases Nat.eq_zero_or_pos g with h0 | h0
 ·generalize W / V=Q at *;omega
 ·obtain⟨f,rfl⟩:∃ f,g=f+1:=⟨g - 1,Aa⟩
  have:f<=W / V:=by
   rw[Nat.le_div_iff_mul_le h.vpos,h.hV,Nat.mul_add];have h1:f*Vl<=4294967296*P:=Nat.mul_le_mul Aa (by have:=h.hVl;omega);have h2:4294967296*P<=(v1*4294967296+v2)*P:=Nat.mul_le_mul_right _ (by have:=h.hv;omega);have h3:(f+1)*(v1*4294967296+v2)*P<=((un*4294967296+un1)*4294967296+un2)*P:=Nat.mul_le_mul_right _ hc;have h4:=h.w_ge;rw[Nat.add_mul f 1,Nat.one_mul,Nat.add_mul,Nat.mul_assoc]at h3;omega
  generalize W / V=Q at *;omega
theorem D5.exit1(h:D5 W V v1 v2 P Vl un un1 un2 Wl){g r:Nat}(hg:g*v1+r=un*4294967296+un1)(hl:g < 4294967296)(hc:g*v2<=r*4294967296+un2):g<=W / V+1:=by
 refine h.upper Aa ?_;rw[<-hg,Nat.mul_add,<-Nat.mul_assoc];omega
theorem D5.exit2(h:D5 W V v1 v2 P Vl un un1 un2 Wl){g r:Nat}(hg:g*v1+r=un*4294967296+un1)(hl:g<=4294967296)(hr:4294967296<=r):g<=W / V+1:=by
 refine h.upper hl ?_;rw[<-hg,Nat.mul_add,<-Nat.mul_assoc];have:g*v2<=4294967296*4294967295:=Nat.mul_le_mul hl (by have:=h.hv2;omega);omega
end
theorem YX{vs:List Nat}{n:Nat}(hn:vs.length=n+2):nv vs=(dg vs (n+1)*4294967296+dg vs n)*bp n+nv (vs.take n):=by
 have h1:=AP vs n;have h2:=AP vs (n+1);rw[List.take_of_length_le Aa,BO]at h2;rw[h2,h1];grind
theorem YI{us:List Nat}{n:Nat}(hn:us.length=n+3):nv us=((dg us (n+2)*4294967296+dg us (n+1))*4294967296+dg us n)*bp n+nv (us.take n):=by
 have h1:=AP us n;have h2:=AP us (n+1);have h3:=AP us (n+2);rw[List.take_of_length_le Aa,BO,BO]at h3;rw[BO]at h2;rw[h3,h2,h1];grind
theorem WY{us vs:List Nat}{n:Nat}(hu:us.length=n+3)(hv:vs.length=n+2)(du:Bc us)(dv:Bc vs)(ht:4294967296<=2*dg vs (n+1))(hlt:nv us < 4294967296*nv vs) :
  D5 (nv us) (nv vs) (dg vs (n+1)) (dg vs n) (bp n) (nv (vs.take n)) (dg us (n+2)) (dg us (n+1)) (dg us n) (nv (us.take n)) where
 hV:=YX hv
 hVl:=by have:=Ey (dv.take n);rwa[List.length_take,Nat.min_eq_left Aa]at this
 hv1:=AZ dv _
 hv2:=AZ dv _
 hv:=ht
 hW:=YI hu
 hWl:=by have:=Ey (du.take n);rwa[List.length_take,Nat.min_eq_left Aa]at this
 hu2:=AZ du _
 hu1:=AZ du _
 hlt:=hlt
theorem Qc{A X N p c b g x y:Nat}(hu:x < 4294967296)(hb:b<=1)(h:A+g*N=X+(c+b)*p) :
  A+p*((x+4294967296 - (g*y+c) % 4294967296 - b) % 4294967296)+g*(N+p*y)=X+p*x+((g*y+c) / 4294967296+if x < (g*y+c) % 4294967296+b then 1 else 0)*(4294967296*p):=by
 have e1:(g*y+c) % 4294967296+4294967296*((g*y+c) / 4294967296)=g*y+c:=Nat.mod_add_div _ _;have hl:(g*y+c) % 4294967296 < 4294967296:=Nat.mod_lt _ Ab;generalize (g*y+c) % 4294967296=lo at *;generalize (g*y+c) / 4294967296=hi at *;have e2:(x+4294967296 - lo - b) % 4294967296+lo+b=x+(if x < lo+b then 1 else 0)*4294967296:=by
  by_cases hc:x < lo+b
  ·rw[if_pos hc];omega
  ·rw[if_neg hc];omega
 generalize (x+4294967296 - lo - b) % 4294967296=r at *;generalize (if x < lo+b then 1 else 0)=q at *;have e3:p*(r+lo+b)=p*(x+q*4294967296):=by rw[e2]
 have e4:p*(lo+4294967296*hi)=p*(g*y+c):=by rw[e1]
 grind
theorem KJ{U:List Nat}{j L i:Nat}(h:i < L):dg ((U.drop j).take L) i=dg U (j+i):=by
 unfold dg;rw[List.getD_eq_getElem?_getD,List.getD_eq_getElem?_getD,List.getElem?_take_of_lt h,List.getElem?_drop]
theorem Vb{U:List Nat}{j L:Nat}(dU:Bc U)(h:nv (U.drop j) < bp L)(hl:j+L<=U.length):nv ((U.drop j).take L)=nv (U.drop j):=by
 have h1:=Eo (U.drop j) L (by rw[List.length_drop];omega);rcases Nat.eq_zero_or_pos (nv ((U.drop j).drop L))with h2 | h2
 ·rw[h2]at h1;omega
 ·have:bp L*1<=bp L*nv ((U.drop j).drop L):=Nat.mul_le_mul_left _ h2
  omega
theorem VE{U vs:List Nat}{j L:Nat}(hL:2<=L)(hLj:j+L+1<=U.length)(dU:Bc U)(dV:Bc vs)(hvl:vs.length=L)(ht:4294967296<=2*dg vs (L - 1))(hlt:nv (U.drop j) < 4294967296*nv vs) :
  ∃ P Vl Wl,D5 (nv (U.drop j)) (nv vs) (dg vs (L - 1)) (dg vs (L - 2)) P Vl (dg U (j+L)) (dg U (j+(L - 1))) (dg U (j+(L - 2))) Wl:=by
 obtain⟨n,rfl⟩:∃ n,L=n+2:=⟨L - 2,Aa⟩
 have hb:nv (U.drop j) < bp (n+2+1):=by
  have:=Ey dV;rw[hvl]at this;rw[BO];omega
 have hw:=Vb dU hb Aa;have k:=WY (us:=(U.drop j).take (n+2+1)) (vs:=vs) (n:=n) Dq hvl ((dU.drop j).take _) dV ht (by rw[hw];exact hlt);rw[hw,KJ Aa,KJ Aa,KJ Aa]at k;exact⟨_,_,_,k⟩
theorem BA.cellR{w:World}{g:Nat}{t:TypeId}{pre X:List Nat}{j:Nat}(h:BA w g t (pre ++ X))(hj:pre.length=j){k:Nat}(hk:k < X.length):w.cell? ⟨g,j+k,none⟩=some (.int .u32 (dg X k:Nat)):=by
 have:=h.celld (i:=j+k) Dq;rw[this];unfold dg;rw[List.getD_eq_getElem?_getD,List.getD_eq_getElem?_getD,List.getElem?_append_right Aa,show j+k - pre.length=k from by omega]
theorem BA.setR{w:World}{g:Nat}{t:TypeId}{pre X:List Nat}{j:Nat}(h:BA w g t (pre ++ X))(hj:pre.length=j)(k d:Nat){z:Int}(hz:z=(d:Nat)):BA (w.setCell ⟨g,j+k,none⟩ (.int .u32 z)) g t (pre ++ X.set k d):=by
 have:=h.setI (j+k) d hz;rwa[List.set_append,if_neg Aa,show j+k - pre.length=k from by omega]at this
theorem NP(a:Addr)(k:Nat):(a.add k).block=a.block:=by unfold Addr.add;split<;>rfl
theorem IK{a w:World}{g:Nat}(h:a.grownBy w (some g))(i:Nat)(u:Value):a.grownBy (w.setCell ⟨g,i,none⟩ u) (some g):=
 ⟨h.os,h.tape,h.output,by simpa[World.setCell] using h.size,fun k hk hne=>(Below.heap_setCell w ⟨g,i,none⟩ u k (fun e=>hne (by rw[e]))).trans (h.block k hk hne)⟩
theorem Vt{a w:World}(g:Nat)(h:Ext a w):a.grownBy w (some g):=by
 have e':Below a.heap.size a w:=h;exact⟨e'.os,e'.tape,e'.output,e'.size,fun k hk _=>e'.block k hk⟩
theorem Sk{X Y:List Nat}{k:Nat}(hl:X.length=Y.length)(h:∀ q,k<=q->dg X q=dg Y q):X.drop k=Y.drop k:=by
 apply List.ext_getElem
 ·simp[hl]
 ·intro i h1 h2
  simp only[List.length_drop]at h1 h2;have:=h (k+i) Aa;rw[DN Aa,DN Aa]at this;simpa using this
theorem RH{W V G A:Nat}(hV:0 < V)(hQ:W / V<=G)(h:A+G*V=W):G=W / V/\A=W % V:=by
 have h1:G<=W / V:=by rw[Nat.le_div_iff_mul_le hV];omega
 have h2:G=W / V:=by generalize W / V=Q at *;omega
 refine⟨h2,?_⟩;have:=Nat.div_add_mod W V;rw[<-h2,Nat.mul_comm]at this;omega
theorem Rs{W V G A p:Nat}(hV:0 < V)(hG:G<=W / V+1)(hA:A < p)(h:A+G*V=W+p):G=W / V+1/\A+V=W % V+p:=by
 have h1:¬ G<=W / V:=fun hc=>by
  rw[Nat.le_div_iff_mul_le hV]at hc;omega
 have h2:G=W / V+1:=by generalize W / V=Q at *;omega
 refine⟨h2,?_⟩;have:=Nat.div_add_mod W V;rw[h2,Nat.add_mul,Nat.one_mul,Nat.mul_comm]at h;omega
theorem Tf{S T p z:Nat}(hT:T < p)(hz:z<=4294967296)(hS:T+p*z=S+p*4294967296):T=S/\z=4294967296:=by
 have:z=4294967296:=by
  rcases Nat.lt_or_ge z 4294967296 with hc | hc
  ·exfalso
   have:p*(z+1)<=p*4294967296:=Nat.mul_le_mul_left _ hc;rw[Nat.mul_add,Nat.mul_one]at this;omega
  ·omega
 subst this;omega
theorem LC{X:List Nat}{m:Nat}(hm:m<=X.length)(h:nv X < bp m):nv (X.drop m)=0/\nv (X.take m)=nv X:=by
 have h1:=Eo X m hm;rcases Nat.eq_zero_or_pos (nv (X.drop m))with h2 | h2
 ·rw[h2]at h1;exact⟨h2,Aa⟩
 ·have:bp m*1<=bp m*nv (X.drop m):=Nat.mul_le_mul_left _ h2
  omega
theorem Kq{X Y:List Nat}{L d:Nat}(hl:X.length=Y.length)(hL:L+1<=X.length)(hs:∀ q,L<=q->dg X q=dg Y q)(hz:nv (Y.drop (L+1))=0):nv (X.set L d)=nv (X.take L)+bp L*d:=by
 have h1:=Eo (X.set L d) (L+1) (by simpa using hL);have e1:(X.set L d).drop (L+1)=Y.drop (L+1):=by
  rw[List.drop_set_of_lt (Nat.lt_succ_self L)];exact Sk hl (fun q hq=>hs q (Nat.le_of_succ_le hq))
 have e2:=BP (l:=X) (k:=L) (d:=d) hL;rw[e1,hz,Nat.mul_zero,Nat.add_zero,e2]at h1;exact h1
theorem VJ{A C N p c b x q r:Nat}(h:A+N=C+(c+b)*p)(e:r+c+b=x+q*4294967296):A+p*r+N=C+p*x+q*(4294967296*p):=by
 have e3:p*(r+c+b)=p*(x+q*4294967296):=by rw[e]
 grind
theorem UK{x c b:Nat}(hx:x < 4294967296)(hc:c < 4294967296)(hb:b<=1):(x+4294967296 - c - b) % 4294967296+c+b=x+(if x < c+b then 1 else 0)*4294967296:=by
 by_cases h:x < c+b
 ·rw[if_pos h];omega
 ·rw[if_neg h];omega
theorem Mh{X X1:List Nat}{V L c0 b0 G:Nat}(hXl:L+1<=X.length)(hl1:X1.length=X.length)(hs:∀ q,L<=q->dg X1 q=dg X q)(hn:nv (X1.take L)+G*V=nv (X.take L)+(c0+b0)*bp L)
  (hc:c0 < 4294967296) (hb:b0<=1) (hx:dg X L < 4294967296) (hW:nv X < bp (L+1)) :
  nv (X1.set L ((dg X L+4294967296 - c0 - b0) % 4294967296))+G*V=nv X+(if dg X L < c0+b0 then 1 else 0)*bp (L+1):=by
 have⟨z1,z2⟩:=LC hXl hW;have e:=Kq (d:=(dg X L+4294967296 - c0 - b0) % 4294967296) hl1 Aa hs z1;have h1:=VJ hn (UK hx hc hb);rw[e,h1,BO,<-z2,AP]
theorem Z8{T C V R p c x:Nat}(hn:T+c*p=C+V)(hs:C+p*x+V=R+4294967296*p):T+p*(x+c)=R+p*4294967296:=by
 rw[Nat.mul_add,Nat.mul_comm p c,Nat.mul_comm p 4294967296];omega
theorem Nn{X2 X3:List Nat}{V L c1 R:Nat}(hl:L+1<=X2.length)(hl3:X3.length=X2.length)(d3:Bc X3)(hs:∀ q,L<=q->dg X3 q=dg X2 q)(hn:nv (X3.take L)+c1*bp L=nv (X2.take L)+V)
  (hc:c1<=1) (hsum:nv X2+V=R+bp (L+1)) (hX:nv X2 < bp (L+1)) (hx:dg X2 L < 4294967296):nv (X3.set L ((dg X2 L+c1) % 4294967296))=R:=by
 have⟨z1,z2⟩:=LC hl hX;rw[Kq hl3 Aa hs z1];have hT:=Ey (d3.take L);rw[List.length_take,Nat.min_eq_left Aa]at hT;rw[AP]at z2;rw[<-z2,BO]at hsum;have⟨a,b⟩:=Tf (S:=R) (z:=dg X2 L+c1) hT Aa (Z8 hn hsum);rw[b,Nat.mod_self,Nat.mul_zero,Nat.add_zero];exact a
theorem VA{N V T X Q p:Nat}(h:T+p*X+Q*(4294967296*p)*V=N):T+p*(X % V)+(X / V+4294967296*Q)*p*V=N:=by
 have e:=Nat.div_add_mod X V;generalize X / V=q at *;generalize X % V=r at *;subst e;grind
theorem XD{V d Y:Nat}(hd:d < 4294967296)(hY:Y < V):d+4294967296*Y < 4294967296*V:=by omega
theorem Zv{N V U Q:Nat}(hU:U < V)(h:U+Q*V=N):Q=N / V/\U=N % V:=by
 subst h;rw[Nat.add_mul_mod_self_right,Nat.mod_eq_of_lt hU,Nat.add_mul_div_right _ _ Aa,Nat.div_eq_of_lt hU,Nat.zero_add];exact⟨rfl,rfl⟩
theorem Ya{es:List Nat}{S L:Nat}(de:Bc es)(hL:es.length=L)(h1:1<=L)(hS:0 < S)(hhi:(dg es (L - 1)+1)*S<=4294967296)(hlo:2147483648<=dg es (L - 1)*S){vs:List Nat}(dv:Bc vs)(tv:JH vs)(hv:nv vs=nv es*S) :
  vs.length=L/\4294967296<=2*dg vs (L - 1):=by
 obtain⟨n,rfl⟩:∃ n,L=n+1:=⟨L - 1,Aa⟩
 rw[Nat.add_sub_cancel]at *;have e1:=AP es n;rw[List.take_of_length_le Aa]at e1;have l1:=Ey (de.take n);rw[List.length_take,Nat.min_eq_left Aa]at l1;generalize dg es n=d at *;have h2:nv es < bp n*(d+1):=by rw[Nat.mul_add,Nat.mul_one];omega
 have h3:nv vs < bp (n+1):=by
  rw[hv,BO];have a:=Nat.mul_lt_mul_of_pos_right h2 hS;have b:=Nat.mul_le_mul_left (bp n) hhi;rw[Nat.mul_assoc]at a;rw[Nat.mul_comm 4294967296];exact Nat.lt_of_lt_of_le a b
 have h4:bp n*2147483648<=nv vs:=by
  rw[hv];have a:bp n*d<=nv es:=by omega
  have b:=Nat.mul_le_mul_right S a;have c:=Nat.mul_le_mul_left (bp n) hlo;rw[Nat.mul_assoc]at b;exact Nat.le_trans c b
 have h5:vs.length<=n+1:=NU tv h3;have h6:vs.length=n+1:=by
  rcases Nat.lt_or_ge n vs.length with h | h
  ·omega
  ·have a:=Ey dv
   have b:=Jf h;have c:=Ia n;omega
 refine⟨h6,?_⟩;have e2:=AP vs n;rw[List.take_of_length_le Aa]at e2;have l2:=Ey (dv.take n);rw[List.length_take,Nat.min_eq_left Aa]at l2;generalize dg vs n=x at *;rcases Nat.lt_or_ge (2*x) 4294967296 with h | h
 ·exfalso
  have:bp n*(x+1)<=bp n*2147483648:=Nat.mul_le_mul_left _ Aa;rw[Nat.mul_add,Nat.mul_one]at this;omega
 ·exact h
theorem Ta{ds es lu:List Nat}{S m:Nat}(dd:Bc ds)(te:JH es)(h1:1<=es.length)(hS:0 < S)(hlu:nv lu=nv ds*S)(hm:m+es.length=ds.length+1)(hl:m<=lu.length):nv (lu.drop m) < nv es*S:=by
 have a:=Eo lu m hl;have b:=Ey dd;have c:=te.len h1;have e:bp ds.length=bp m*bp (es.length - 1):=by rw[<-MQ];congr 1;omega
 rw[e]at b;have h2:bp m*nv (lu.drop m)<=nv ds*S:=by omega
 have h3:nv ds*S < bp m*(bp (es.length - 1)*S):=by rw[<-Nat.mul_assoc];exact Nat.mul_lt_mul_of_pos_right b hS
 have h4:nv (lu.drop m) < bp (es.length - 1)*S:=Nat.lt_of_mul_lt_mul_left (a:=bp m) Aa;have h5:=Nat.mul_le_mul_right S c;omega
theorem BA.digat{w:World}{g:Nat}{t:TypeId}{l:List Nat}(h:BA w g t l)(hd:Bc l):FP w (some ⟨g,0,none⟩) l:=
 ⟨hd,fun _=>⟨_,rfl,fun j hj=>by
  have e:(⟨g,0,none⟩:Addr).add j=⟨g,j,none⟩:=by unfold Addr.add;split<;>simp_all
  rw[e];exact h.cell hj⟩⟩
theorem BA.digtake{w:World}{g:Nat}{t:TypeId}{l:List Nat}(h:BA w g t l)(hd:Bc l){n c:Nat}(hn:n<=l.length)(hc:l.length<=c)(hm:c<=9223372036854775807):BH w (.slice (some ⟨g,0,none⟩) n c) (l.take n):=by
 have hl:(l.take n).length=n:=by rw[List.length_take,Nat.min_eq_left hn]
 refine⟨_,c,by rw[hl],Aa,hm,hd.take n,fun hp=>⟨_,rfl,fun j hj=>?_⟩⟩;have e:(⟨g,0,none⟩:Addr).add j=⟨g,j,none⟩:=by unfold Addr.add;split<;>simp_all
 rw[e,h.cell Aa];simp only[List.getElem_take]
def sz(n:Nat):Nat:=if n=0 then 0 else Nat.log2 n / 32+1
theorem E8(k:Nat):bp k=2^(32*k):=by unfold bp;rw[Nat.pow_mul]
theorem DR(n:Nat):n < bp (sz n):=by
 unfold sz
 split
 ·rename_i h;subst h;exact Ia 0
 ·rw[E8]
  exact Nat.lt_of_lt_of_le Nat.lt_log2_self (Nat.pow_le_pow_right Ab Aa)
theorem Cj{n k:Nat}(h:n < bp k):sz n<=k:=by
 unfold sz
 split
 ·omega
 ·rename_i h0
  rw[E8]at h;have:=(Nat.log2_lt h0).2 h;omega
theorem Uw:sz 0=0:=rfl
theorem EB{n k:Nat}:sz n<=k↔n < bp k:=⟨fun h=>Nat.lt_of_lt_of_le (DR n) (Jf h),Cj⟩
theorem Bq{a b:Nat}(h:a<=b):sz a<=sz b:=Cj (Nat.lt_of_le_of_lt h (DR b))
theorem BV(a b:Nat):sz (a*b)<=sz a+sz b:=by
 apply Cj
 rw[MQ];exact Nat.mul_lt_mul_of_lt_of_le (DR a) (Nat.le_of_lt (DR b)) (Ia _)
theorem GX(a b:Nat):sz (a+b)<=max (sz a) (sz b)+1:=by
 apply Cj
 have h1:=Nat.lt_of_lt_of_le (DR a) (Jf (Nat.le_max_left (sz a) (sz b)));have h2:=Nat.lt_of_lt_of_le (DR b) (Jf (Nat.le_max_right (sz a) (sz b)));rw[BO];have:=Ia (max (sz a) (sz b));omega
theorem Xi{ds:List Nat}(hd:Bc ds):sz (nv ds)<=ds.length:=Cj (Ey hd)
theorem RS{ds:List Nat}(hd:Bc ds)(ht:JH ds):ds.length=sz (nv ds):=by
 have h1:=Xi hd;have h2:=NU ht (DR (nv ds));omega
theorem Yk{n:Nat}(h:n < 4294967296):sz n<=1:=Cj (by rw[bF];exact h)
theorem IW{n:Nat}(h:n < 18446744073709551616):sz n<=2:=Cj (by rw[OD];exact h)
theorem Bt.len{w:World}{v:Value}{n:Nat}(h:Bt w v n):∃ ds,BH w v ds/\nv ds=n/\JH ds/\ds.length=sz n:=by
 obtain⟨ds,h1,h2,h3⟩:=h;refine⟨ds,h1,h2,h3,?_⟩;rw[<-h2];obtain⟨_,_,_,_,_,hA⟩:=h1;exact RS hA.1 h3
theorem Bt.num{w:World}{v:Value}{n:Nat}(h:Bt w v n){l:Nat}(hl:sz n<=l):DK w v n l:=by
 obtain⟨ds,h1,h2,_,h4⟩:=h.len;exact⟨ds,h1,h2,Aa⟩
theorem DK.sz{w:World}{v:Value}{n l:Nat}(h:DK w v n l):sz n<=l:=by
 obtain⟨ds,⟨_,_,_,_,_,hA⟩,h2,h3⟩:=h;rw[<-h2];exact Nat.le_trans (Xi hA.1) h3
theorem Bt.form{w:World}{v:Value}{n:Nat}(h:Bt w v n):∃ A c,v = .slice A (sz n) c/\sz n<=c/\c<=9223372036854775807:=by
 obtain⟨ds,⟨A,c,h1,h2,h3,_⟩,_,_,h4⟩:=h.len;exact⟨A,c,by rw[h1,h4],Aa,h3⟩
/-! ### Digits outlive every store into a cell that holds no digit -/
def KD(w w':World):Prop:=∀ p n,w.cell? p=some (.int .u32 n)->w'.cell? p=some (.int .u32 n)
def AV(w:World)(g:Nat):Prop:=∀ o n,w.cell? ⟨g,o,none⟩≠some (.int .u32 n)
def Ah:Value->Bool
 | .int .u32 _=>true
 | _=>false
section
variable{a b w w':World}{v:Value}
theorem KD.refl(w:World):KD w w:=fun _ _ h=>h
theorem KD.trans{c:World}(h:KD a b)(k:KD b c):KD a c:=fun p n hp=>k p n (h p n hp)
theorem Ext.kd(h:Ext a b):KD a b:=fun _ _ hp=>h.cell hp
theorem KD.alloc(h:KD a w)(o:Obj):KD a (w.alloc o):=h.trans ((Ext.refl w).alloc o).kd
theorem KD.drew(h:KD a w):KD a w.drew:=h
theorem KD.drewN(h:KD a w)(n:Nat):KD a (w.drewN n):=h
theorem KD.set_(h:KD a w){g i:Nat}(hg:AV w g)(u:Value):KD a (w.setCell ⟨g,i,none⟩ u):=by
 refine h.trans fun p n hp=>?_;by_cases e:p=⟨g,i,none⟩
 ·subst e;exact absurd hp (hg i n)
 ·rw[World.cell?_setCell_other w ⟨g,i,none⟩ p u (fun e'=>e e'.symm)];exact hp
theorem AV.set_{g:Nat}(hg:AV w g){h i:Nat}{u:Value}(hu:Ah u=false):AV (w.setCell ⟨h,i,none⟩ u) g:=by
 intro o n hc;by_cases e:(⟨g,o,none⟩:Addr)=⟨h,i,none⟩
 ·cases e
  have h1:(w.setCell ⟨g,i,none⟩ u).cell? ⟨g,i,none⟩=(w.cell? ⟨g,i,none⟩).map fun _=>u:=by
   unfold World.cell? World.setCell;simp only[Array.getElem?_modify];cases hh:w.heap[g]? with
   | none=>simp
   | some ob =>
    cases ob with
    | cells c e f =>
     simp only[Option.map_some,Option.isSome_none,Bool.false_eq_true,if_false,Array.getElem?_setIfInBounds];by_cases hi:i < c.size<;>simp[hi]
    | _=>simp
  rw[h1]at hc;cases hcc:w.cell? ⟨g,i,none⟩with
  | none=>rw[hcc]at hc;cases hc
  | some x=>rw[hcc]at hc;cases hc;cases hu
 ·rw[World.cell?_setCell_other w ⟨h,i,none⟩ ⟨g,o,none⟩ u (fun e'=>e e'.symm)]at hc
  exact hg o n hc
theorem AV.ext{g:Nat}(h:AV a g)(e:Ext a w)(hg:g < a.heap.size):AV w g:=fun o n hc=>h o n (by rw[<-e.cells g o hg];exact hc)
theorem AV.new(w:World)(cs:Array Value)(t:TypeId)(h:cs.all (fun u=>!Ah u)=true):AV (w.alloc (.cells cs t)) w.heap.size:=by
 intro o n hc;rw[cell_of_row _ w.heap.size o cs t (0,0) (heap_alloc_new w _)]at hc;have:=Array.all_eq_true_iff_forall_mem.1 h _ (Array.mem_of_getElem? hc);simp[Ah]at this
theorem AV.alloc{g:Nat}(h:AV w g)(hg:g < w.heap.size)(o:Obj):AV (w.alloc o) g:=h.ext ((Ext.refl w).alloc o) hg
theorem AV.drew{g:Nat}(h:AV w g):AV w.drew g:=h
theorem AV.drewN{g:Nat}(h:AV w g)(n:Nat):AV (w.drewN n) g:=h
theorem FP.kd{A:Option Addr}{ds:List Nat}(h:FP w A ds)(e:KD w w'):FP w' A ds:=
 ⟨h.1,fun hl=>by obtain⟨a,ha,hc⟩:=h.2 hl;exact⟨a,ha,fun j hj=>e _ _ (hc j hj)⟩⟩
theorem BH.kd{ds:List Nat}(h:BH w v ds)(e:KD w w'):BH w' v ds:=by
 obtain⟨A,c,h1,h2,h3,h4⟩:=h;exact⟨A,c,h1,h2,h3,h4.kd e⟩
theorem PM.kd{neg:Bool}{ds:List Nat}(h:PM w v neg ds)(e:KD w w'):PM w' v neg ds:=by
 obtain⟨s,h1,h2⟩:=h;exact⟨s,h1,h2.kd e⟩
theorem DK.kd{n l:Nat}(h:DK w v n l)(e:KD w w'):DK w' v n l:=by obtain⟨d,h1,h2⟩:=h;exact⟨d,h1.kd e,h2⟩
theorem Bt.kd{n:Nat}(h:Bt w v n)(e:KD w w'):Bt w' v n:=by obtain⟨d,h1,h2⟩:=h;exact⟨d,h1.kd e,h2⟩
theorem Bj.kd{x:Int}(h:Bj w v x)(e:KD w w'):Bj w' v x:=by obtain⟨n,d,h1,h2⟩:=h;exact⟨n,d,h1.kd e,h2⟩
theorem AO.kd{x:Int}(h:AO w v x)(e:KD w w'):AO w' v x:=by obtain⟨n,d,h1,h2⟩:=h;exact⟨n,d,h1.kd e,h2⟩
theorem AO.mk{N:Nat}{neg:Bool}(h:Bt w v N)(hn:neg=true->N≠0):AO w (.agg #[.bool neg,v]) (if neg then -(N:Int)else N):=by
 obtain⟨ds,h1,rfl,h3⟩:=h;exact⟨neg,ds,⟨v,rfl,h1⟩,rfl,h3,fun hh e=>hn hh (by rw[e];rfl)⟩
end
theorem Bj.form{w:World}{v:Value}{x:Int}(h:Bj w v x):∃ neg A n c N,v = .agg #[.bool neg,.slice A n c]/\n<=c/\c<=9223372036854775807/\n<=1099511627776/\DK w (.slice A n c) N n/\x=if neg then -(N:Int)else N:=by
 obtain⟨neg,ds,⟨s,rfl,hD⟩,rfl,hl⟩:=h;have hD':=hD;obtain⟨A,c,rfl,h1,h2,h3⟩:=hD;exact⟨neg,A,ds.length,c,nv ds,rfl,h1,h2,hl,⟨ds,hD',rfl,Nat.le_refl _⟩,rfl⟩
theorem AO.form{w:World}{v:Value}{x:Int}(h:AO w v x):∃ A c,v = .agg #[.bool (decide (x < 0)),.slice A (sz x.natAbs) c]/\sz x.natAbs<=c/\c<=9223372036854775807/\Bt w (.slice A (sz x.natAbs) c) x.natAbs:=by
 obtain⟨neg,ds,⟨s,rfl,hD⟩,rfl,h1,h2⟩:=h;have hn:(iv neg ds).natAbs=nv ds:=by unfold iv;cases neg<;>simp
 have hV:Bt w s (iv neg ds).natAbs:=⟨ds,hD,hn.symm,h1⟩
 obtain⟨A,c,rfl,q1,q2⟩:=hV.form;refine⟨A,c,?_,q1,q2,hV⟩;have:neg=decide (iv neg ds < 0):=by
  unfold iv;cases neg with
  | false=>simp
  | true =>
   have hne:=h2 rfl;have h0:nv ds≠0:=by
    intro e;obtain⟨_,_,_,_,_,hA⟩:=hD;have:=RS hA.1 h1;rw[e,Uw]at this;exact hne (List.length_eq_zero_iff.1 this)
   simp;omega
 rw[<-this]
theorem AO.has{w:World}{v:Value}{x:Int}(h:AO w v x)(hs:sz x.natAbs<=1099511627776):Bj w v x:=by
 obtain⟨neg,ds,h1,h2,h3⟩:=h;refine⟨neg,ds,h1,h2,?_⟩;obtain⟨s,_,hD⟩:=h1;obtain⟨_,_,_,_,_,hA⟩:=hD;have:=RS hA.1 h3.1;have hn:x.natAbs=nv ds:=by rw[<-h2];unfold iv;cases neg<;>simp
 rw[this,<-hn];exact hs
theorem Bj.sz{w:World}{v:Value}{x:Int}(h:Bj w v x):sz x.natAbs<=1099511627776:=by
 obtain⟨neg,A,n,c,N,rfl,_,_,h1,h2,rfl⟩:=h.form;have:=h2.sz;cases neg<;>simp<;>omega
theorem Es{n:Nat}(h:n≠0):0 < sz n:=by
 have:=DR n;rcases Nat.eq_zero_or_pos (Hp.sz n)with e | e
 ·rw[e,IP]at this;omega
 ·exact e
theorem AO.cells{w:World}{v:Value}{x:Int}(h:AO w v x):∃ b A n c,v = .agg #[.bool b,.slice A n c]:=by
 obtain⟨A,c,rfl,_⟩:=h.form;exact⟨_,_,_,_,rfl⟩
theorem Ext.a1{w w':World}{o:Obj}(h:Ext (w.alloc o) w'):Ext w w':=((Ext.refl w).alloc o).trans h
theorem Ext.a2{w w':World}{o p:Obj}(h:Ext ((w.alloc o).alloc p) w'):Ext w w':=h.a1.a1
theorem Ext.a3{w w':World}{o p q:Obj}(h:Ext (((w.alloc o).alloc p).alloc q) w'):Ext w w':=h.a1.a1.a1
theorem AV.at_{w w':World}{cs:Array Value}{t:TypeId}(hx:Ext (w.alloc (.cells cs t)) w'){g:Nat}(hg:g=w.heap.size)(h:cs.all (fun u=>!Ah u)=true):AV w' g:=by
 subst hg;exact(AV.new w cs t h).ext hx Ac
theorem Ext.box{w w':World}{cs:Array Value}{t:TypeId}(h:Ext (w.alloc (.cells cs t)) w'){g i:Nat}{v:Value}(hg:g=w.heap.size)(hv:cs[i]? = some v):w'.cell? ⟨g,i,none⟩=some v:=by
 subst hg;exact h.cell ((cell_of_row _ w.heap.size i cs t (0,0) (heap_alloc_new w _)).trans hv)
theorem Dk{w w1:World}{g n c:Nat}{A:Option Addr}{b:Bool}{x:Int}(h:AO w1 (.agg #[.bool b,.slice A n c]) x)(hx:Ext w w1)(hn:AV w1 g)(hg:w.heap.size<=g) :
  Ai w (fun r w'=>AO w' r x) (.returned (.agg #[.bool b,.slice A n c])) ((w1.setCell ⟨g,0,none⟩ (.bool b)).setCell ⟨g,1,none⟩ (.slice A n c)):=
 Ai.mk (h.kd (((KD.refl w1).set_ (i:=0) hn (.bool b)).set_ (i:=1) (hn.set_ rfl) (.slice A n c))) ((hx.setCell _ _ hg).setCell _ _ hg)
def Ba(w:World)(g:Nat)(t:TypeId)(cs:Array Value):Prop:=w.heap[g]? = some (.cells cs t (0,0))/\cs.all (fun u=>!Ah u)=true
section
variable{w w':World}{g:Nat}{t:TypeId}{cs:Array Value}
theorem Ba.lt(h:Ba w g t cs):g < w.heap.size:=by
 rcases Nat.lt_or_ge g w.heap.size with hlt | hge
 ·exact hlt
 ·have:=h.1;rw[Array.getElem?_eq_none hge]at this;cases this
theorem Ba.cell(h:Ba w g t cs){i:Nat}{v:Value}(hv:cs[i]? = some v):w.cell? ⟨g,i,none⟩=some v:=
 (cell_of_row w g i cs t (0,0) h.1).trans hv
theorem Ba.cells2{a b:Value}(h:Ba w g t #[a,b]):w.cell? ⟨g,0,none⟩=some a/\w.cell? ⟨g,1,none⟩=some b:=⟨h.cell rfl,h.cell rfl⟩
theorem Ba.cells4{a b c d:Value}(h:Ba w g t #[a,b,c,d]):w.cell? ⟨g,0,none⟩=some a/\w.cell? ⟨g,1,none⟩=some b/\w.cell? ⟨g,2,none⟩=some c/\w.cell? ⟨g,3,none⟩=some d:=⟨h.cell rfl,h.cell rfl,h.cell rfl,h.cell rfl⟩
theorem Ba.frozen(h:Ba w g t cs)(i:Nat):w.frozen? ⟨g,i,none⟩=false:=by
 have:=h.1;simp[World.frozen?,this]
theorem Ba.new(w:World)(t:TypeId)(cs:Array Value)(h:cs.all (fun u=>!Ah u)=true):Ba (w.alloc (.cells cs t)) w.heap.size t cs:=⟨heap_alloc_new w _,h⟩
theorem Ba.set_(h:Ba w g t cs)(i:Nat){u:Value}(hu:Ah u=false):Ba (w.setCell ⟨g,i,none⟩ u) g t (cs.setIfInBounds i u):=by
 obtain⟨h1,h2⟩:=h;refine⟨by simp[World.setCell,Array.getElem?_modify,h1],?_⟩;rw[Array.all_eq_true]at h2 ⊢;intro j hj;rw[Array.getElem_setIfInBounds (by simpa using hj)]
 split
 ·simp[hu]
 ·exact h2 j (by simpa using hj)
theorem Ba.ext(h:Ba w g t cs)(e:Ext w w'):Ba w' g t cs:=⟨e.blk h.1,h.2⟩
theorem Ba.alloc(h:Ba w g t cs)(o:Obj):Ba (w.alloc o) g t cs:=⟨(Below.heap_alloc w o g h.lt).trans h.1,h.2⟩
theorem Ba.far(h:Ba w g t cs){p:Addr}(hp:g≠p.block)(u:Value):Ba (w.setCell p u) g t cs:=⟨(Below.heap_setCell w p u g hp).trans h.1,h.2⟩
theorem Ba.nodig(h:Ba w g t cs):AV w g:=by
 intro o n hc;rw[cell_of_row w g o cs t (0,0) h.1]at hc;have:=Array.all_eq_true_iff_forall_mem.1 h.2 _ (Array.mem_of_getElem? hc);simp[Ah]at this
theorem Ba.drewN(h:Ba w g t cs)(n:Nat):Ba (w.drewN n) g t cs:=h
end
def Cc(G:List Nat)(w w':World):Prop:=(∀ g o,g∉G->w.heap[g]? = some o->w'.heap[g]? = some o)/\KD w w'/\∀ a,Ext a w->(∀ g∈G,a.heap.size<=g)->Ext a w'
section
variable{w w':World}{g:Nat}{t:TypeId}{cs:Array Value}{G:List Nat}
theorem Cc.kd(h:Cc G w w'):KD w w':=h.2.1
theorem Cc.from_(h:Cc G w w'){a:World}(e:Ext a w)(hg:∀ g∈G,a.heap.size<=g):Ext a w':=h.2.2 a e hg
theorem Cc.refl(G:List Nat)(w:World):Cc G w w:=⟨fun _ _ _ h=>h,KD.refl w,fun _ h _=>h⟩
theorem Cc.trans{w'':World}(h:Cc G w w')(k:Cc G w' w''):Cc G w w'':=
 ⟨fun g o hg ho=>k.1 g o hg (h.1 g o hg ho),h.kd.trans k.kd,fun a e hg=>k.2.2 a (h.2.2 a e hg) hg⟩
theorem Cc.of_ext(e:Ext w w'):Cc G w w':=⟨fun _ _ _ h=>e.blk h,e.kd,fun _ h _=>h.trans e⟩
theorem Cc.set_(hn:AV w g)(i:Nat)(u:Value):Cc [g] w (w.setCell ⟨g,i,none⟩ u):=
 ⟨fun g' o hg ho=>(Below.heap_setCell w ⟨g,i,none⟩ u g' (by simpa using hg)).trans ho,(KD.refl w).set_ hn u,fun a e hg=>e.setCell _ _ (hg g Ac)⟩
theorem Ba.upd(h:Ba w g t cs)(U:Cc G w w')(hg:g∉G):Ba w' g t cs:=⟨U.1 g _ hg h.1,h.2⟩
theorem Ba.put2{a b:Value}(h:Ba w g t #[a,b])(u v:Value)(hu:Ah u=false:=by rfl)(hv:Ah v=false:=by rfl) :
  ∃ W,W=(w.setCell ⟨g,0,none⟩ u).setCell ⟨g,1,none⟩ v/\Ba W g t #[u,v]/\Cc [g] w W:=
 ⟨_,rfl,(h.set_ 0 hu).set_ 1 hv,(Cc.set_ h.nodig 0 u).trans (Cc.set_ (h.set_ 0 hu).nodig 1 v)⟩
theorem Ba.put4{a b c d:Value}(h:Ba w g t #[a,b,c,d])(u v x y:Value)(hu:Ah u=false:=by rfl)(hv:Ah v=false:=by rfl)(hx:Ah x=false:=by rfl)(hy:Ah y=false:=by rfl) :
  ∃ W,W=(((w.setCell ⟨g,0,none⟩ u).setCell ⟨g,1,none⟩ v).setCell ⟨g,2,none⟩ x).setCell ⟨g,3,none⟩ y/\Ba W g t #[u,v,x,y]/\Cc [g] w W:=
 ⟨_,rfl,(((h.set_ 0 hu).set_ 1 hv).set_ 2 hx).set_ 3 hy,
  (((Cc.set_ h.nodig 0 u).trans (Cc.set_ (h.set_ 0 hu).nodig 1 v)).trans (Cc.set_ ((h.set_ 0 hu).set_ 1 hv).nodig 2 x)).trans (Cc.set_ (((h.set_ 0 hu).set_ 1 hv).set_ 2 hx).nodig 3 y)⟩
def Bh(w:World)(v:Value)(base:Nat)(cs:Array Value)(t:TypeId):Prop:=∃ g,v = .pointer (some ⟨g,0,none⟩)/\base<=g/\Ba w g t cs
theorem Bh.ext{v:Value}{base:Nat}(h:Bh w v base cs t)(e:Ext w w'):Bh w' v base cs t:=by obtain⟨g,h1,h2,h3⟩:=h;exact⟨g,h1,h2,h3.ext e⟩
theorem Bh.mk{base:Nat}(hb:base<=w.heap.size)(h:cs.all (fun u=>!Ah u)=true):Bh (w.alloc (.cells cs t)) (.pointer (some ⟨w.heap.size,0,none⟩)) base cs t:=⟨_,rfl,hb,Ba.new w t cs h⟩
theorem Ba.made(w:World)(t:TypeId)(cs:Array Value)(h:cs.all (fun u=>!Ah u)=true) :
  ∃ W,W=w.alloc (.cells cs t)/\Ba W w.heap.size t cs/\Ext w W:=⟨_,rfl,Ba.new w t cs h,(Ext.refl w).alloc _⟩
end
theorem AQ{P:Program}{f:FuncId}{a:Array Value}{w:World}{R:Value->World->Prop}{Q:Ending->World->Prop}(h:Calls P f a w (Ai w R))(k:∀ r w',R r w'->Ext w w'->Q (.returned r) w'):Calls P f a w Q:=Calls.mono h fun _ _ ⟨r,e,h,x⟩=>by subst e;exact k r _ h x
open Go
def Jj(P:Program)(R:Value->World->Prop):Result Next->Prop
 | .ok (.value v) w'=>R v w'
 | .ok (.enter f args) w'=>Calls P f args w' fun e w''=>∃ v,e = .returned v/\R v w''
 | _=>False
theorem Jj.wp{P:Program}{o:Oper}{a:Act}{w:World}{K:Act->World->Prop}{Q:Exit->Act->World->Prop}{R:Value->World->Prop}{ρ:Operand->Value}
  (h:Jj P R ((execOp ρ o).run P w)) (he:execOp a.eval o=execOp ρ o) (hk:∀ v w',R v w'->K (a.put o.dst v) w'):o.wp P a w K Q:=by
 unfold Oper.wp;rw[he];revert h;generalize (execOp ρ o).run P w=r;intro h
 match r,h with
 | .ok (.value v) w',h=>exact hk v w' h
 | .ok (.enter f args) w',h =>
  refine Calls.mono (h:Calls P f args w' _) ?_;rintro e w'' ⟨v,rfl,hr⟩;exact hk v w'' hr
def I7(l:List Nat)(γ:Nat->Value)(i:Nat):Value:=if l.contains i then γ i else undef
def upd(γ:Nat->Value)(i:Nat)(v:Value)(j:Nat):Value:=if j=i then v else γ j
def Ru:List Nat->(Nat->Value)->Nat->Nat->Value->Value
 | [],_,_,_,d=>d
 | k::ks,v,i,t,d=>if k=t then v i else Ru ks v (i+1) t d
def Tm:List Nat->List Value->Nat->Value
 | k::ks,v::vs,t=>if k=t then v else Tm ks vs t
 | _,_,_=>undef
def Jm(EK:List Nat)(EV:List Value)(D:List Nat)(v:Nat->Value):Operand->Value
 | .tmp t=>Ru D v 0 t (Tm EK EV t)
 | .const v=>v
 | .global g => .pointer (some ⟨g,0,none⟩)
 | .func f => .func (.func f) #[] #[]
def JI(a0:Act):List Nat->List Value->Prop
 | [],[]=>True
 | k::ks,v::vs=>a0.tmps[k]? = some v/\JI a0 ks vs
 | _,_=>False
theorem JI.get{a0:Act}:∀ {ks:List Nat} {vs:List Value},JI a0 ks vs->∀ t j,ks.idxOf? t=some j->a0.tmps[t]? = some (vs.getD j undef)
 | [],[],_,t,j,h=>by simp at h
 | k::ks,v::vs,⟨h1,h2⟩,t,j,h=>by
  rw[List.idxOf?_cons]at h
  split at h
  ·rename_i hkt
   have:k=t:=by simpa using hkt
   subst this;cases h;exact h1
  ·cases hi:ks.idxOf? t with
   | none=>rw[hi]at h;cases h
   | some m =>
    rw[hi]at h;cases h;exact JI.get h2 t m hi
@[go_sem] theorem Vy(EK:List Nat)(EV:List Value)(D:List Nat)(v:Nat->Value)(t:Nat):Jm EK EV D v (.tmp t)=Ru D v 0 t (Tm EK EV t):=rfl
@[go_sem] theorem aM(EK:List Nat)(EV:List Value)(D:List Nat)(v:Nat->Value)(u:Value):Jm EK EV D v (.const u)=u:=rfl
@[go_sem] theorem dL(EK:List Nat)(EV:List Value)(D:List Nat)(v:Nat->Value)(f:Nat):Jm EK EV D v (.func f) = .func (.func f) #[] #[]:=rfl
@[go_sem] theorem iD(v:Nat->Value)(i t:Nat)(d:Value):Ru [] v i t d=d:=rfl
@[go_sem] theorem Vk(k:Nat)(ks:List Nat)(v:Nat->Value)(i t:Nat)(d:Value):Ru (k::ks) v i t d=if k=t then v i else Ru ks v (i+1) t d:=rfl
@[go_sem] theorem jJ(t:Nat):Tm [] [] t=undef:=rfl
@[go_sem] theorem Vi(k:Nat)(ks:List Nat)(v:Value)(vs:List Value)(t:Nat):Tm (k::ks) (v::vs) t=if k=t then v else Tm ks vs t:=rfl
attribute [go_sem] List.getD_cons_zero List.getD_cons_succ
@[go_sem] theorem aV(P:Program)(R:Value->World->Prop)(v:Value)(w:World):Jj P R (.ok (.value v) w)=R v w:=rfl
@[go_sem] theorem aF(P:Program)(R:Value->World->Prop)(f:FuncId)(args:Array Value)(w:World):Jj P R (.ok (.enter f args) w)=Calls P f args w fun e w''=>∃ v,e = .returned v/\R v w'':=rfl
theorem ZB(ds:List Nat)(v:Nat->Value)(i t:Nat)(d:Value):Ru ds v i t d=match ds.idxOf? t with | some j=>v (i+j) | none=>d:=by
 induction ds generalizing i with
 | nil=>rfl
 | cons k ks ih =>
  rw[Vk,List.idxOf?_cons];by_cases h:k=t
  ·simp[h]
  ·have h':(k==t)=false:=by simpa using h
   rw[if_neg h,ih (i+1)];simp only[h',Bool.false_eq_true,if_false];cases ks.idxOf? t with
   | none=>rfl
   | some j=>show v (i+1+j)=v (i+(j+1));rw[show i+1+j=i+(j+1)from by omega]
theorem Uq:∀(ks:List Nat) (vs:List Value) (t:Nat),ks.length=vs.length->Tm ks vs t=match ks.idxOf? t with | some j=>vs.getD j undef | none=>undef
 | [],[],_,_=>rfl
 | k::ks,v::vs,t,h=>by
  rw[Vi,List.idxOf?_cons];by_cases e:k=t
  ·simp[e]
  ·have h':(k==t)=false:=by simpa using e
   rw[if_neg e,Uq ks vs t (by simpa using h)];simp only[h',Bool.false_eq_true,if_false];cases ks.idxOf? t with
   | none=>rfl
   | some j=>rfl
 | [],_::_,_,h=>by simp at h
 | _::_,[],_,h=>by simp at h
theorem JI.len{a0:Act}:∀ {ks:List Nat} {vs:List Value},JI a0 ks vs->ks.length=vs.length
 | [],[],_=>rfl
 | _::_,_::_,⟨_,h⟩=>by simp[JI.len h]
theorem Mw{a0:Act}{EK:List Nat}{EV:List Value}(h:JI a0 EK EV)(D:List Nat)(v:Nat->Value)(t:Nat) :
  Jm EK EV D v (.tmp t)=match D.idxOf? t with | some j=>v j | none=>match EK.idxOf? t with | some j=>EV.getD j undef | none=>undef:=by
 rw[Vy,ZB,Uq EK EV t h.len];cases D.idxOf? t with
 | none=>rfl
 | some j=>show v (0+j)=v j;rw[Nat.zero_add]
def AY(a0:Act)(v:Nat->Value):Nat->List Nat->Act
 | _,[]=>a0
 | i,d::ds=>AY (a0.put (some d) (v i)) v (i+1) ds
def QP(o:Oper):List Nat:=o.op.operands.toList.filterMap fun | .tmp t=>some t | _=>none
def NC(ops:Array Oper)(k:Nat)(D:List Nat)(T:List (List Nat))(EK:List Nat)(Λ:List Nat):Bool:=
 Nat.ble k ops.size&&D.length==k&&Region.noSelect ops &&
 (List.range k).all (fun i=>(List.range k).all fun j=>i==j || D.getD i 0 != D.getD j 0) &&
 (List.range ops.size).all fun i =>
  match ops[i]? with
  | none=>false
  | some o =>
   (o.after.all fun e=>!Region.binds .any e || Nat.blt e.on i) &&
   ((T.getD i []).all fun j=>o.after.any fun e=>Region.binds .any e&&(e.on==j || (T.getD e.on []).contains j)) &&
   (if Nat.blt i k then
    o.dst==some (D.getD i 0) &&
    ((QP o).all fun t=>match D.idxOf? t with | some j=>(T.getD i []).contains j | none=>EK.contains t) &&
    (match o.guard with | none=>true | some (g,_)=>(T.getD i []).contains g&&Nat.blt g k)
   else(List.range i).all fun j=>Λ.contains j || (T.getD i []).contains j)
def AC:Nat->(Nat->Prop)->Prop
 | 0,_=>True
 | n+1,p=>AC n p/\p n
theorem AC.get{n:Nat}{p:Nat->Prop}(h:AC n p):∀ i,i < n->p i:=by
 induction n with
 | zero=>intro i hi;omega
 | succ n ih =>
  intro i hi;by_cases e:i=n
  ·subst e;exact h.2
  ·exact ih h.1 i Aa
theorem Pi:∀ {n:Nat} {p:Nat->Prop},(∀ i,i < n->p i)->AC n p
 | 0,_,_=>trivial
 | n+1,_,h=>⟨Pi fun i hi=>h i Aa,h n Aa⟩
section
variable{P:Program}{ops:Array Oper}{Q:Exit->Act->World->Prop}{a0:Act}{W0:World}
 {k ℓ:Nat} {Λ:List Nat} {D:List Nat} {T:List (List Nat)} {EK:List Nat} {EV:List Value} {V:(Nat->Value)->Nat->Value} {F:Nat->(Nat->Value)->World->Prop}
def BM(T:List (List Nat))(V:(Nat->Value)->Nat->Value)(γ:Nat->Value)(i:Nat):Value:=V (I7 (i::T.getD i []) γ) i
def bD(P:Program)(ops:Array Oper)(EK:List Nat)(EV:List Value)(W0:World)(D:List Nat)(T:List (List Nat))(V:(Nat->Value)->Nat->Value)(F:Nat->(Nat->Value)->World->Prop)(i:Nat):Prop:=
 ∀ γ w,Ext W0 w->(∀ j,j∈T.getD i []->F j (I7 (j::T.getD j []) γ) w) ->
  match ops[i]? with
  | none=>False
  | some o=>(match o.guard with | none=>True | some (g,b)=>BM T V γ g = .bool b) /\
   Jj P (fun v w'=>Ext w w'/\V (I7 (i::T.getD i []) (upd γ i v)) i=v/\F i (I7 (i::T.getD i []) (upd γ i v)) w') ((execOp (Jm EK EV D (BM T V γ)) o).run P w)
def FT(ops:Array Oper)(i:Nat):Prop:=∃ o t,ops[i]? = some o/\o.op = .alloc t
theorem Wy{P:Program}{o:Oper}{ρ:Operand->Value}{w:World}{R:Value->World->Prop}(h:Jj P R ((execOp ρ o).run P w)) :
  Jj P (fun v w'=>R v w'/\((∃ t,o.op = .alloc t)->v = .pointer (some ⟨w.heap.size,0,none⟩)/\w.heap.size < w'.heap.size)) ((execOp ρ o).run P w):=by
 by_cases hn:∃ t,o.op = .alloc t
 ·obtain⟨t,ht⟩:=hn
  have key:(∃ c,(execOp ρ o).run P w = .ok (.value (.pointer (some ⟨w.heap.size,0,none⟩))) (w.alloc c))\/∀ R,¬ Jj P R ((execOp ρ o).run P w):=by
   unfold execOp;simp only[ht];unfold Instr.alloc;go_simp;cases hz:(zeroValue t).run P w with
   | ok z w' =>
    have hw:w'=w:=by
     simp only[zeroValue,typeInfo,Sem.run_bind]at hz;revert hz;go_simp;cases P.info? t with
     | none=>intro h;cases h
     | some i =>
      show _=_->_;intro h;simp only[Option.elim_some,Sem.run_pure,Result.andThen_ok]at h
      split at h<;>cases h
      rfl
    subst hw;exact .inl ⟨_,rfl⟩
   | _=>exact .inr fun _ h=>h
  rcases key with⟨c,hc⟩ | hc
  ·rw[hc]at h ⊢
   exact⟨h,fun _=>⟨rfl,by show w.heap.size < (w.alloc c).heap.size;simp⟩⟩
  ·exact absurd h (hc _)
 ·revert h
  generalize (execOp ρ o).run P w=r;intro h
  match r,h with
  | .ok (.value v) w',h=>exact⟨h,fun h'=>absurd h' hn⟩
  | .ok (.enter f args) w',h =>
   refine Calls.mono (h:Calls P f args w' _) ?_;rintro e w'' ⟨v,rfl,hr⟩;exact⟨v,rfl,hr,fun h'=>absurd h' hn⟩
structure RG(ops:Array Oper)(a0:Act)(W0:World)(k:Nat)(D:List Nat)(T:List (List Nat))(V:(Nat->Value)->Nat->Value)(F:Nat->(Nat->Value)->World->Prop)(γ:Nat->Value)(L:Array Bool)(a:Act)(w:World):Prop where
 size:L.size=ops.size
 closed:∀ i o,L.getD i false=true->ops[i]? = some o->∀ e∈o.after,Region.binds .any e=true->L.getD e.on false=true
 low:∀ i,k<=i->L.getD i false=false
 defers:a.defers=a0.defers
 tsize:a.tmps.size=a0.tmps.size
 mine:∀ i,i < k->L.getD i false=true->a.tmps[D.getD i 0]? = some (BM T V γ i)
 other:∀ t,(∀ i,i < k->L.getD i false=true->D.getD i 0≠t)->a.tmps[t]? = a0.tmps[t]?
 ext:Ext W0 w
 facts:∀ i,i < k->L.getD i false=true->F i (I7 (i::T.getD i []) γ) w
 fresh:∀ i,i < k->L.getD i false=true->FT ops i->∃ g,BM T V γ i = .pointer (some ⟨g,0,none⟩)/\g < w.heap.size
 apart:∀ i j,i < k->j < k->i≠j->L.getD i false=true->L.getD j false=true->FT ops i->FT ops j->BM T V γ i≠BM T V γ j
structure MF(ops:Array Oper)(k:Nat)(D:List Nat)(T:List (List Nat))(EK:List Nat)(Λ:List Nat):Prop where
 hk:k<=ops.size
 hlen:D.length=k
 sel:Region.noSelect ops=true
 dist:∀ i j,i < k->j < k->i≠j->D.getD i 0≠D.getD j 0
 edges:∀ i o,ops[i]? = some o->∀ e∈o.after,Region.binds .any e=true->e.on < i
 anc:∀ i o,ops[i]? = some o->∀ j∈T.getD i [],∃ e∈o.after,Region.binds .any e=true/\(e.on=j\/j∈T.getD e.on [])
 dst:∀ i o,ops[i]? = some o->i < k->o.dst=some (D.getD i 0)
 lks:∀ i o,ops[i]? = some o->i < k->∀ t∈QP o,∀ j,D.idxOf? t=some j->j∈T.getD i []
 keys:∀ i o,ops[i]? = some o->i < k->∀ t∈QP o,D.idxOf? t=none->t∈EK
 guard:∀ i o g b,ops[i]? = some o->i < k->o.guard=some (g,b)->g∈T.getD i []/\g < k
 tail:∀ i,k<=i->i < ops.size->∀ j,j < i->j∉Λ->j∈T.getD i []
theorem Rt{ops:Array Oper}{k:Nat}{D:List Nat}{T:List (List Nat)}{EK:List Nat}{Λ:List Nat}(h:NC ops k D T EK Λ=true):MF ops k D T EK Λ:=by
 unfold NC at h;simp only[Bool.and_eq_true,List.all_eq_true,List.mem_range,Nat.ble_eq,beq_iff_eq,Bool.or_eq_true,bne_iff_ne,ne_eq]at h;obtain⟨⟨⟨⟨h1,h2⟩,h3⟩,h4⟩,h5⟩:=h;have key:∀ i o,ops[i]? = some o->_:=fun i o ho=>by
  have hi:i < ops.size:=(Array.getElem?_eq_some_iff.1 ho).1;have:=h5 i hi;rw[ho]at this;simp only[Bool.and_eq_true,List.all_eq_true,Array.all_eq_true_iff_forall_mem,Bool.or_eq_true,Bool.not_eq_true',Array.any_eq_true]at this;exact this
 refine⟨h1,h2,h3,fun i j hi hj hne=>?_,fun i o ho e he hb=>?_,fun i o ho j hj=>?_,fun i o ho hi=>?_,fun i o ho hi t ht j hj=>?_,fun i o ho hi t ht hn=>?_,fun i o g b ho hi hg=>?_,fun i hk hi j hj hne=>?_⟩
 ·exact(h4 i hi j hj).resolve_left hne
 ·rcases(key i o ho).1.1 e he with h | h
  ·rw[h]at hb;cases hb
  ·simpa[Nat.blt_eq] using h
 ·obtain⟨m,hm,hb⟩:=(key i o ho).1.2 j hj
  refine⟨_,Array.getElem_mem hm,?_⟩;simpa using hb
 ·have h:=(key i o ho).2
  rw[if_pos (by simpa[Nat.blt_eq] using hi)]at h;simp only[Bool.and_eq_true,beq_iff_eq]at h;exact h.1.1
 ·have h:=(key i o ho).2
  rw[if_pos (by simpa[Nat.blt_eq] using hi)]at h;simp only[Bool.and_eq_true,beq_iff_eq,List.all_eq_true]at h;have:=h.1.2 t ht;rw[hj]at this;simpa using this
 ·have h:=(key i o ho).2
  rw[if_pos (by simpa[Nat.blt_eq] using hi)]at h;simp only[Bool.and_eq_true,beq_iff_eq,List.all_eq_true]at h;have:=h.1.2 t ht;rw[hn]at this;simpa using this
 ·have h:=(key i o ho).2
  rw[if_pos (by simpa[Nat.blt_eq] using hi)]at h;simp only[Bool.and_eq_true]at h;have:=h.2;rw[hg]at this;simpa[Nat.blt_eq] using this
 ·have ho:ops[i]? = some ops[i]:=Array.getElem?_eq_getElem hi
  have h:=(key i _ ho).2;rw[if_neg (by simp[Nat.blt_eq];omega)]at h;simp only[List.all_eq_true,List.mem_range,Bool.or_eq_true,beq_iff_eq]at h;simpa using(h j hj).resolve_left (by simpa using hne)
theorem MF.up{ops:Array Oper}{k:Nat}{D:List Nat}{T:List (List Nat)}{EK:List Nat}{Λ:List Nat}(c:MF ops k D T EK Λ){L:Array Bool}
  (closed:∀ i o,L.getD i false=true->ops[i]? = some o->∀ e∈o.after,Region.binds .any e=true->L.getD e.on false=true) :
  ∀ i o,ops[i]? = some o->(∀ e∈o.after,Region.binds .any e=true->L.getD e.on false=true)->∀ j∈T.getD i [],L.getD j false=true:=by
 intro i;induction i using Nat.strongRecOn with
 | _ i ih =>
  intro o ho hl j hj;obtain⟨e,he,hb,h⟩:=c.anc i o ho j hj;have hon:=hl e he hb;rcases h with rfl | h
  ·exact hon
  ·have hlt:=c.edges i o ho e he hb
   have hi:i < ops.size:=(Array.getElem?_eq_some_iff.1 ho).1;have he':ops[e.on]? = some (ops[e.on]'(Aa)):=Array.getElem?_eq_getElem Aa;exact ih e.on hlt _ he' (closed _ _ hon he') j h
theorem EC{ops:Array Oper}{L:Array Bool}{i:Nat}:i∈Region.ready .any ops L↔i < ops.size/\L.getD i true=false/\∃ o,ops[i]? = some o/\∀ e∈o.after,Region.binds .any e=true->L.getD e.on false=true:=by
 unfold Region.ready;simp only[List.mem_filter,List.mem_range,Bool.and_eq_true,Bool.not_eq_true'];constructor
 ·rintro⟨h1,h2,h3⟩
  refine⟨h1,h2,ops[i],Array.getElem?_eq_getElem h1,?_⟩;rw[Array.getElem?_eq_getElem h1]at h3;simp only[Option.map_some,Option.getD_some,Array.all_eq_true_iff_forall_mem,Bool.or_eq_true,Bool.not_eq_true']at h3;intro e he hb;rcases h3 e he with h | h
  ·rw[h]at hb;cases hb
  ·exact h
 ·rintro⟨h1,h2,o,h3,h4⟩
  refine⟨h1,h2,?_⟩;rw[h3];simp only[Option.map_some,Option.getD_some,Array.all_eq_true_iff_forall_mem,Bool.or_eq_true,Bool.not_eq_true'];intro e he;by_cases hb:Region.binds .any e=true
  ·exact .inr (h4 e he hb)
  ·exact .inl (by simpa using hb)
theorem BZ{L:Array Bool}{i j:Nat}{d:Bool}(hi:i < L.size):(L.setIfInBounds i true).getD j d=if i=j then true else L.getD j d:=by
 simp only[Array.getD_eq_getD_getElem?,Array.getElem?_setIfInBounds]
 split
 ·rename_i h;subst h;simp
 ·rfl
theorem Q5(c:MF ops k D T EK Λ)(hE:JI a0 EK EV){γ:Nat->Value}{L:Array Bool}{a:Act}{w:World}(h:RG ops a0 W0 k D T V F γ L a w)
  {i:Nat} {o:Oper} (hi:i < k) (ho:ops[i]? = some o) (hT:∀ j∈T.getD i [],L.getD j false=true) :
  execOp a.eval o=execOp (Jm EK EV D (BM T V γ)) o:=by
 refine execOp_congr o (fun cs b=>Region.noSelect_spec c.sel i o cs b ho) fun x hx=>?_;cases x with
 | tmp t =>
  have hl:t∈QP o:=by
   unfold QP;exact List.mem_filterMap.2 ⟨.tmp t,by simpa using hx,rfl⟩
  show a.tmps.getD t undef=_;have hpe:Jm EK EV D (BM T V γ) (.tmp t)=match D.idxOf? t with | some j=>BM T V γ j | none=>match EK.idxOf? t with | some j=>EV.getD j undef | none=>undef:=Mw hE D _ t
  rw[hpe];cases hd:D.idxOf? t with
  | none =>
   have hn:t∉D:=by
    intro hm;have:=List.idxOf?_eq_none_iff.1 hd;exact this hm
   have hk:=c.keys i o ho hi t hl hd;have ho:a.tmps[t]? = a0.tmps[t]? := by
    apply h.other t
    intro j hj _ e
    apply hn
    rw[<-e];have hlt:j < D.length:=by rw[c.hlen];exact hj
    rw[List.getD_eq_getElem?_getD,List.getElem?_eq_getElem hlt];exact List.getElem_mem hlt
   cases he:EK.idxOf? t with
   | none=>exact absurd hk (List.idxOf?_eq_none_iff.1 he)
   | some j =>
    show a.tmps.getD t undef=EV.getD j undef;rw[Array.getD_eq_getD_getElem?,ho,hE.get t j he];rfl
  | some j =>
   have hj:=c.lks i o ho hi t hl j hd;have hjl:=hT j hj;obtain⟨hlt,he,_⟩:=List.findIdx?_eq_some_iff_getElem.1 (show D.findIdx? (· == t)=some j from hd);have he':D[j]=t:=by simpa using he
   have hjk:j < k:=by rw[<-c.hlen];exact hlt
   have hm:=h.mine j hjk hjl;have:D.getD j 0=t:=by rw[List.getD_eq_getElem?_getD,List.getElem?_eq_getElem hlt];exact he'
   rw[this]at hm;show a.tmps.getD t undef=BM T V γ j;rw[Array.getD_eq_getD_getElem?,hm];rfl
 | const v=>rfl
 | global g=>rfl
 | func f=>rfl
theorem Nq(c:MF ops k D T EK Λ){γ:Nat->Value}{L:Array Bool}{a:Act}{w:World}(h:RG ops a0 W0 k D T V F γ L a w)
  {i:Nat} {o:Oper} (hi:i < k) (ho:ops[i]? = some o) (hT:∀ j∈T.getD i [],L.getD j false=true)
  (hg:match o.guard with | none=>True | some (g,b)=>BM T V γ g = .bool b):Region.wanted o (yielded ops a.tmps)=true:=by
 unfold Region.wanted;cases hgu:o.guard with
 | none=>rfl
 | some p =>
  obtain⟨g,b⟩:=p;rw[hgu]at hg;obtain⟨hgT,hgk⟩:=c.guard i o g b ho hi hgu;have hgo:ops[g]? = some (ops[g]'(Nat.lt_of_lt_of_le hgk c.hk)):=Array.getElem?_eq_getElem (Nat.lt_of_lt_of_le hgk c.hk);have hd:=c.dst g _ hgo hgk;have hm:=h.mine g hgk (hT g hgT);show(yielded ops a.tmps g==some b)=true;unfold yielded;rw[hgo];simp only[Option.bind_some,hd,hm];have hg':BM T V γ g = .bool b:=hg;rw[hg'];simp
theorem Yg(c:MF ops k D T EK Λ)(hD:∀ d∈D,d < a0.tmps.size)(hmono:∀ i γ w w',i < k->Ext w w'->F i γ w->F i γ w')
  {γ:Nat->Value} {L:Array Bool} {a:Act} {w:World} (h:RG ops a0 W0 k D T V F γ L a w)
  {i:Nat} {o:Oper} (hi:i < k) (ho:ops[i]? = some o) (hun:L.getD i false=false) (hed:∀ e∈o.after,Region.binds .any e=true->L.getD e.on false=true)
  {v:Value} {w':World} (hw:Ext w w') (hv:V (I7 (i::T.getD i []) (upd γ i v)) i=v) (hF:F i (I7 (i::T.getD i []) (upd γ i v)) w')
  (hnew:(∃ t,o.op = .alloc t)->v = .pointer (some ⟨w.heap.size,0,none⟩)/\w.heap.size < w'.heap.size) :
  RG ops a0 W0 k D T V F (upd γ i v) (L.setIfInBounds i true) (a.put o.dst v) w':=by
 have hiL:i < L.size:=by rw[h.size];exact Nat.lt_of_lt_of_le hi c.hk
 have hdst:=c.dst i o ho hi;have hlt:i < D.length:=by rw[c.hlen];exact hi
 have hDi:D.getD i 0 < a0.tmps.size:=hD _ (by rw[List.getD_eq_getElem?_getD,List.getElem?_eq_getElem hlt];exact List.getElem_mem hlt);have same:∀ j,j < k->j≠i->L.getD j false=true->I7 (j::T.getD j []) (upd γ i v)=I7 (j::T.getD j []) γ:=by
  intro j hj hne hjl
  funext m
  unfold I7
  split
  ·rename_i hm
   unfold upd
   split
   ·rename_i hmi
    subst hmi;exfalso;have hm':m=j\/m∈T.getD j []:=by simpa using hm
    rcases hm' with rfl | hm'
    ·exact hne rfl
    ·have hjo:ops[j]? = some (ops[j]'(Nat.lt_of_lt_of_le hj c.hk)):=Array.getElem?_eq_getElem (Nat.lt_of_lt_of_le hj c.hk)
     have:=c.up h.closed j _ hjo (h.closed j _ hjl hjo) m hm';rw[this]at hun;cases hun
   ·rfl
  ·rfl
 have pvi:BM T V (upd γ i v) i=v:=hv;have pvj:∀ j,j < k->j≠i->L.getD j false=true->BM T V (upd γ i v) j=BM T V γ j:=fun j hj hne hjl=>by unfold BM;rw[same j hj hne hjl]
 have nw:FT ops i->v = .pointer (some ⟨w.heap.size,0,none⟩)/\w.heap.size < w'.heap.size:=fun⟨o',t,h1,h2⟩=>by
  rw[ho]at h1;cases h1;exact hnew ⟨t,h2⟩
 have lst:∀ j,j≠i->(L.setIfInBounds i true).getD j false=true->L.getD j false=true:=fun j hne h=>by
  rwa[BZ hiL,if_neg (fun e=>hne e.symm)]at h
 refine⟨by simpa using h.size,fun j oj hj hoj e he hb=>?_,fun j hj=>?_,?_,?_,fun j hj hjl=>?_,fun t ht=>?_,h.ext.trans hw,fun j hj hjl=>?_,fun j hj hjl hn=>?_,fun j m hj hm hne hjl hml hn hn'=>?_⟩
 ·rw[BZ hiL]at hj ⊢
  split
  ·rfl
  ·split at hj
   ·rename_i hij
    subst hij;rw[ho]at hoj;cases hoj;exact hed e he hb
   ·exact h.closed j oj hj hoj e he hb
 ·rw[BZ hiL,if_neg Aa]
  exact h.low j hj
 ·rw[hdst];exact h.defers
 ·rw[hdst];simpa[Act.put] using h.tsize
 ·rw[BZ hiL]at hjl
  rw[hdst];show(a.tmps.setIfInBounds (D.getD i 0) v)[D.getD j 0]? = _;by_cases e:i=j
  ·subst e
   rw[Array.getElem?_setIfInBounds,if_pos rfl,if_pos (by rw[h.tsize];exact hDi)];unfold BM;rw[hv]
  ·rw[if_neg e]at hjl
   rw[Array.getElem?_setIfInBounds_ne (c.dist i j hi hj e),h.mine j hj hjl];unfold BM;rw[same j hj (fun e'=>e e'.symm) hjl]
 ·rw[hdst]
  show(a.tmps.setIfInBounds (D.getD i 0) v)[t]? = _;have hne:D.getD i 0≠t:=ht i hi (by rw[BZ hiL,if_pos rfl]);rw[Array.getElem?_setIfInBounds_ne hne];exact h.other t fun j hj hjl=>ht j hj (by rw[BZ hiL];split<;>first | rfl | exact hjl)
 ·rw[BZ hiL]at hjl
  by_cases e:i=j
  ·subst e;exact hF
  ·rw[if_neg e]at hjl
   rw[same j hj (fun e'=>e e'.symm) hjl];exact hmono j _ _ _ hj hw (h.facts j hj hjl)
 ·by_cases e:j=i
  ·subst e
   rw[pvi];exact⟨_,(nw hn).1,(nw hn).2⟩
  ·rw[pvj j hj e (lst j e hjl)]
   obtain⟨g,h1,h2⟩:=h.fresh j hj (lst j e hjl) hn;exact⟨g,h1,Nat.lt_of_lt_of_le h2 hw.size⟩
 ·by_cases e:j=i
  ·subst e
   rw[pvi,pvj m hm (fun e=>hne e.symm) (lst m (fun e=>hne e.symm) hml),(nw hn).1];obtain⟨g,h1,h2⟩:=h.fresh m hm (lst m (fun e=>hne e.symm) hml) hn';rw[h1];intro e;cases e;omega
  ·by_cases e':m=i
   ·subst e'
    rw[pvi,pvj j hj e (lst j e hjl),(nw hn').1];obtain⟨g,h1,h2⟩:=h.fresh j hj (lst j e hjl) hn;rw[h1];intro e;cases e;omega
   ·rw[pvj j hj e (lst j e hjl),pvj m hm e' (lst m e' hml)]
    exact h.apart j m hj hm hne (lst j e hjl) (lst m e' hml) hn hn'
theorem Gw(c:MF ops k D T EK Λ)(hΛ:∀ j∈Λ,j < k\/ops.size<=j):∀(r m fuel:Nat) (L:Array Bool) (a:Act) (w:World),ops.size=m+r->r<=fuel->k<=m->L.size=ops.size ->
  (∀ j,j < m->L.getD j false=true)->(∀ j,m<=j->L.getD j false=false)->wpList P ops Q (ops.toList.drop m) a w->wpAny P .any ops Q fuel L a w:=by
 intro r;induction r with
 | zero =>
  intro m fuel L a w hs _ _ hL hlo hhi h;have hr:Region.ready .any ops L=[]:=by
   rw[List.eq_nil_iff_forall_not_mem];intro i hi;obtain⟨h1,h2,_⟩:=EC.1 hi;have h3:=hlo i Aa;rw[Array.getD_eq_getD_getElem?,Array.getElem?_eq_getElem Aa]at h2 h3;simp at h2 h3;rw[h2]at h3;cases h3
  have hd:ops.toList.drop m=[]:=List.drop_eq_nil_of_le Dq;rw[hd]at h;cases fuel with
  | zero=>exact⟨hr,h⟩
  | succ fuel=>exact⟨fun _=>h,fun i hi=>by rw[hr]at hi;cases hi⟩
 | succ r ih =>
  intro m fuel L a w hs hf hk hL hlo hhi h;obtain⟨fuel,rfl⟩:∃ f,fuel=f+1:=⟨fuel - 1,Aa⟩
  have hm:m < ops.size:=by omega
  have hmo:ops[m]? = some ops[m]:=Array.getElem?_eq_getElem hm;have hun:∀ j,j < ops.size->L.getD j true=L.getD j false:=fun j hj=>by
   rw[Array.getD_eq_getD_getElem?,Array.getD_eq_getD_getElem?,Array.getElem?_eq_getElem Aa];rfl
  have hmr:m∈Region.ready .any ops L:=EC.2 ⟨hm,by rw[hun m hm];exact hhi m (Nat.le_refl _),_,hmo,fun e he hb=>hlo _ (c.edges m _ hmo e he hb)⟩;refine⟨fun h0=>(by rw[h0]at hmr;cases hmr),fun i hi=>?_⟩;obtain⟨h1,h2,o,ho,he⟩:=EC.1 hi;have him:i=m:=by
   rcases Nat.lt_trichotomy i m with h | h | h
   ·rw[hun i h1,hlo i h]at h2;cases h2
   ·exact h
   ·have hT:=c.tail i Aa h1 m h (fun hm'=>by rcases hΛ m hm' with q | q<;>omega)
    obtain⟨e,hem,hb,hh⟩:=c.anc i o ho m hT;have hon:=he e hem hb;have hlt:e.on < m:=by
     rcases Nat.lt_or_ge e.on m with h | h
     ·exact h
     ·rw[hhi _ h]at hon;cases hon
    rcases hh with hh | hh
    ·omega
    ·exfalso
     have heo:ops[e.on]? = some (ops[e.on]'(Aa)):=Array.getElem?_eq_getElem Aa
     -- m comes before an operation below m: impossible,by the edges
     have key:∀ x,x < ops.size->∀ j∈T.getD x [],j < x:=by
      intro x;induction x using Nat.strongRecOn with
      | _ x ihx =>
       intro hx j hj;have hxo:ops[x]? = some ops[x]:=Array.getElem?_eq_getElem hx;obtain⟨e',he',hb',h'⟩:=c.anc x _ hxo j hj;have:=c.edges x _ hxo e' he' hb';rcases h' with rfl | h'
       ·exact this
       ·exact Nat.lt_trans (ihx e'.on this Aa j h') this
     have:=key e.on Aa m hh;omega
  subst him;have hdrop:ops.toList.drop i=ops[i]::ops.toList.drop (i+1):=by
   rw[List.drop_eq_getElem_cons (by simpa using hm)];simp
  rw[hdrop]at h;have hop:wpOp P ops Q i (wpList P ops Q (ops.toList.drop (i+1))) a w:=by
   unfold wpOp;rw[hmo];exact h
  refine wpOp_mono (fun a w hw=>?_) hop;refine ih (i+1) fuel _ a w Aa Aa Aa (by simpa using hL) (fun j hj=>?_) (fun j hj=>?_) hw
  ·rw[BZ Aa]
   split
   ·rfl
   ·exact hlo j Aa
  ·rw[BZ Aa,if_neg Aa]
   exact hhi j Aa
theorem Vx{P:Program}{o:Oper}{a:Act}{K K':Act->World->Prop}{Q:Exit->Act->World->Prop}(r:Result Next):o.upon P a K (Exit.then K' Q) r=o.upon P a K Q r:=by
 cases r with
 | ok n w=>cases n<;>rfl
 | _=>rfl
theorem R3{P:Program}{ops:Array Oper}{Q:Exit->Act->World->Prop}{K:Act->World->Prop}{o:Oper}{a:Act}{w:World}(h:wpList P ops (Exit.then K Q) [o] a w) :
  if Region.wanted o (yielded ops a.tmps)then o.wp P a w K Q\/(o.asks P a w/\LetsOut Q)else K (a.put o.dst undef) w:=by
 have h':if Region.wanted o (yielded ops a.tmps)then o.wp P a w (wpList P ops (Exit.then K Q) []) (Exit.then K Q)\/(o.asks P a w/\LetsOut (Exit.then K Q))else wpList P ops (Exit.then K Q) [] (a.put o.dst undef) w:=h
 split at h'
 ·rename_i hw
  rw[if_pos hw];rcases h' with h' | h'
  ·left
   unfold Oper.wp at h' ⊢;rw[Vx]at h';exact h'
  ·exact .inr h'
 ·rename_i hw
  rw[if_neg hw];exact h'
theorem Ii(n i:Nat)(h:i<=n):List.range n=List.range i ++ List.range' i (n - i):=by
 have e:=List.range'_append_1 (s:=0) (m:=i) (n:=n - i);rw[show i+(n - i)=n from Aa,Nat.zero_add]at e;rw[List.range_eq_range',List.range_eq_range',e]
theorem Jk(v:Nat->Value):∀(ds:List Nat) (i:Nat) (a:Act),(AY a v i ds).defers=a.defers/\(AY a v i ds).tmps.size=a.tmps.size /\
  (∀ t,t∉ds->(AY a v i ds).tmps[t]? = a.tmps[t]?) /\
  (∀ j,(hj:j < ds.length)->(∀ m,(hm:m < ds.length)->j < m->ds[m]≠ds[j])->ds[j] < a.tmps.size->(AY a v i ds).tmps[ds[j]]? = some (v (i+j))):=by
 intro ds;induction ds with
 | nil=>intro i a;exact⟨rfl,rfl,fun _ _=>rfl,fun j hj=>by simp at hj⟩
 | cons d ds ih =>
  intro i a;obtain⟨h1,h2,h3,h4⟩:=ih (i+1) (a.put (some d) (v i));refine⟨h1,?_,fun t ht=>?_,fun j hj hd hlt=>?_⟩
  ·show(AY (a.put (some d) (v i)) v (i+1) ds).tmps.size=_
   rw[h2];simp[Act.put]
  ·show(AY (a.put (some d) (v i)) v (i+1) ds).tmps[t]? = _
   rw[h3 t (fun h=>ht (List.mem_cons_of_mem _ h))];have:d≠t:=fun e=>ht (by rw[e];exact List.mem_cons_self);show(a.tmps.setIfInBounds d (v i))[t]? = _;rw[Array.getElem?_setIfInBounds_ne this]
  ·show(AY (a.put (some d) (v i)) v (i+1) ds).tmps[(d::ds)[j]]? = _
   cases j with
   | zero =>
    show(AY (a.put (some d) (v i)) v (i+1) ds).tmps[d]? = _;have hn:d∉ds:=by
     intro hm;obtain⟨m,hm,he⟩:=List.getElem_of_mem hm;exact hd (m+1) (by simpa using hm) Aa (by simpa using he)
    rw[h3 d hn];show(a.tmps.setIfInBounds d (v i))[d]? = _;rw[Array.getElem?_setIfInBounds,if_pos rfl,if_pos (show d < a.tmps.size from hlt)];rfl
   | succ j =>
    have:=h4 j (by simpa using hj) (fun m hm hjm=>hd (m+1) (Nat.succ_lt_succ hm) Aa) (by simpa[Act.put] using hlt);rw[show i+(j+1)=i+1+j from by omega];simpa using this
theorem QE(c:MF ops k D T EK Λ)(hD:∀ d∈D,d < a0.tmps.size){γ:Nat->Value}{L:Array Bool}{a:Act}{w:World}(h:RG ops a0 W0 k D T V F γ L a w)
  (hall:∀ i,i < k->L.getD i false=true):a=AY a0 (BM T V γ) 0 D:=by
 obtain⟨f1,f2,f3,f4⟩:=Jk (BM T V γ) D 0 a0;have ht:a.tmps=(AY a0 (BM T V γ) 0 D).tmps:=by
  apply Array.ext_getElem?
  intro t;by_cases hm:t∈D
  ·obtain⟨j,hj,e⟩:=List.getElem_of_mem hm
   have hjk:j < k:=by rw[<-c.hlen];exact hj
   have hg:∀ m,(hm:m < D.length)->D.getD m 0=D[m]:=fun m hm=>by rw[List.getD_eq_getElem?_getD,List.getElem?_eq_getElem hm];rfl
   have h1:=h.mine j hjk (hall j hjk);rw[hg j hj]at h1;have h2:=f4 j hj (fun m hm hjm=>by
    have:=c.dist m j (by rw[<-c.hlen];exact hm) hjk Aa;rwa[hg m hm,hg j hj]at this) (hD _ (List.getElem_mem hj))
   rw[<-e,h1,h2,Nat.zero_add]
  ·rw[f3 t hm]
   refine h.other t fun i hi _ e=>hm ?_;have hlt:i < D.length:=by rw[c.hlen];exact hi
   rw[<-e,List.getD_eq_getElem?_getD,List.getElem?_eq_getElem hlt];exact List.getElem_mem hlt
 have hd:a.defers=(AY a0 (BM T V γ) 0 D).defers:=h.defers.trans f1.symm;cases a;generalize AY a0 (BM T V γ) 0 D=b at *;cases b;simp only at ht hd;rw[ht,hd]
def kv(v:Value)(_:Nat->Value):Value:=v
@[go_sem] theorem kP(v:Value)(γ:Nat->Value):kv v γ=v:=rfl
def gV(VL:List ((Nat->Value)->Value))(γ:Nat->Value)(i:Nat):Value:=VL.getD i (fun _=>undef) γ
def gF(FL:(Nat->Value)->World->List Prop)(γ:Nat->Value)(w:World)(i:Nat):Prop:=(FL γ w).getD i True
def Zi(p:Prop):Prop:=p
@[go_sem] theorem kL(VL:List ((Nat->Value)->Value))(γ:Nat->Value)(i:Nat):gV VL γ i=VL.getD i (fun _=>undef) γ:=rfl
def Pp(P:Program)(ops:Array Oper)(EK:List Nat)(EV:List Value)(W0:World)(D:List Nat)(T:List (List Nat))(VL:List ((Nat->Value)->Value))(FL:(Nat->Value)->World->List Prop)(i:Nat):Prop:=
 ∀ γ w,Ext W0 w->(∀ j,j∈T.getD i []->gF FL γ w j) ->
  match ops[i]? with
  | none=>False
  | some o=>(match o.guard with | none=>True | some (g,b)=>gV VL γ g = .bool b) /\
   ∀ R:Value->World->Prop,Zi (∀ v w',Ext w w'->gV VL (upd γ i v) i=v->gF FL (upd γ i v) w' i->R v w')->Jj P R ((execOp (Jm EK EV D (gV VL γ)) o).run P w)
def Uy(T:List (List Nat))(VL:List ((Nat->Value)->Value))(FL:(Nat->Value)->World->List Prop)(i:Nat):Prop:=
 ∀ γ γ',(∀ j,(i::T.getD i []).contains j=true->γ j=γ' j)->gV VL γ i=gV VL γ' i/\∀ w,gF FL γ w i=gF FL γ' w i
end
def Xp(φ:Nat->Prop):List Nat->Prop
 | []=>True
 | x::xs=>φ x/\Xp φ xs
theorem Xp.get{φ:Nat->Prop}:∀ {l:List Nat},Xp φ l->∀ x∈l,φ x
 | _::_,h,x,hx=>by
  rcases List.mem_cons.1 hx with rfl | hx
  ·exact h.1
  ·exact h.2.get x hx
def Df(P:Program)(ops:Array Oper)(Q:Exit->Act->World->Prop)(x:Nat)(K:Act->World->Prop)(a:Act)(w:World):Prop:=
 wpList P ops (Exit.then K Q) ((ops.toList.drop x).take 1) a w
def AJ(P:Program)(ops:Array Oper)(Q:Exit->Act->World->Prop)(dl:Nat->Nat):Nat->List Nat->Nat->Act->World->Prop
 | _,[],m,a,w=>wpList P ops Q (ops.toList.drop m) a w
 | 0,_::_,_,_,_=>False
 | f+1,p::ps,m,a,w=>Xp (fun x=>Df P ops Q x (AJ P ops Q dl f ((p::ps).erase x) m) a w) (p::ps) /\
   ((Nat.blt m ops.size&&(p::ps).all fun x=>Nat.blt m (dl x))=true->Df P ops Q m (AJ P ops Q dl f (p::ps) (m+1)) a w)
def Cw(a0:Act)(D:List Nat):List Nat->Act->Act
 | [],a=>a
 | p::ps,a=>Cw a0 D ps (a.put (some (D.getD p 0)) (a0.tmps.getD (D.getD p 0) undef))
section
variable{P:Program}{ops:Array Oper}{Q:Exit->Act->World->Prop}{a0:Act}{W0:World}
 {k:Nat} {Λ:List Nat} {D:List Nat} {T:List (List Nat)} {EK:List Nat} {EV:List Value} {V:(Nat->Value)->Nat->Value} {F:Nat->(Nat->Value)->World->Prop}
theorem KR{i:Nat}(hi:i < ops.size){K:Act->World->Prop}{a:Act}{w:World}(h:Df P ops Q i K a w):wpOp P ops Q i K a w:=by
 have e:(ops.toList.drop i).take 1=[ops[i]]:=by
  rw[List.drop_eq_getElem_cons (by simpa using hi)];simp
 unfold Df at h;rw[e]at h;unfold wpOp;rw[Array.getElem?_eq_getElem hi];exact R3 h
theorem QZ{dl:Nat->Nat}(c:MF ops k D T EK Λ)(hΛ:∀ j∈Λ,j < k)(hdl:∀ x∈Λ,∀ i,dl x<=i->i < ops.size->x∈T.getD i [])
  (hind:∀ x∈Λ,∀ o,ops[x]? = some o->∀ e∈o.after,Region.binds .any e=true->e.on∉Λ) :
  ∀(f m fuel:Nat) (pend:List Nat) (L:Array Bool) (a:Act) (w:World),pend.Nodup->(∀ x∈pend,x∈Λ)->m<=ops.size->pend.length+(ops.size - m)<=f->f<=fuel->k<=m->L.size=ops.size ->
  (∀ j,j < m->j∉pend->L.getD j false=true)->(∀ x∈pend,L.getD x false=false)->(∀ j,m<=j->L.getD j false=false) ->
  (∀ i o,L.getD i false=true->ops[i]? = some o->∀ e∈o.after,Region.binds .any e=true->L.getD e.on false=true)->AJ P ops Q dl f pend m a w->wpAny P .any ops Q fuel L a w:=by
 have hck:=c.hk;have hΛ':∀ j∈Λ,j < k\/ops.size<=j:=fun j hj => .inl (hΛ j hj);intro f;induction f with
 | zero =>
  intro m fuel pend L a w hnd hp hm hf hfu hk hL hlo hpe hhi hcl h;have he:pend=[]:=List.length_eq_zero_iff.1 Aa;subst he;exact Gw c hΛ' (ops.size - m) m fuel L a w Aa Aa hk hL (fun j hj=>hlo j hj Ac) hhi h
 | succ f ih =>
  intro m fuel pend L a w hnd hp hm hf hfu hk hL hlo hpe hhi hcl h
  match pend,hnd,hp,hf,hlo,hpe,h with
  | [],hnd,hp,hf,hlo,hpe,h =>
   exact Gw c hΛ' (ops.size - m) m fuel L a w Aa (by simp at hf;omega) hk hL (fun j hj=>hlo j hj Ac) hhi h
  | p::ps,hnd,hp,hf,hlo,hpe,h =>
   obtain⟨h1,h2⟩:=h;obtain⟨fuel,rfl⟩:∃ g,fuel=g+1:=⟨fuel - 1,Aa⟩
   have hun:∀ j,j < ops.size->L.getD j true=L.getD j false:=fun j hj=>by
    rw[Array.getD_eq_getD_getElem?,Array.getD_eq_getD_getElem?,Array.getElem?_eq_getElem Aa];rfl
   have hps:p < ops.size:=by have:=hΛ p (hp p Ac);omega
   have hready:∀ x∈p::ps,∀ o,ops[x]? = some o->∀ e∈o.after,Region.binds .any e=true->L.getD e.on false=true:=fun x hx o ho e he hb =>
    hlo _ (by have:=c.edges x o ho e he hb;have:=hΛ x (hp x hx);omega) fun hm'=>hind x (hp x hx) o ho e he hb (hp _ hm')
   have hpr:p∈Region.ready .any ops L:=EC.2 ⟨hps,by rw[hun p hps];exact hpe p Ac,_,Array.getElem?_eq_getElem hps,fun e he hb=>hready p Ac _ (Array.getElem?_eq_getElem hps) e he hb⟩;refine⟨fun h0=>(by rw[h0]at hpr;cases hpr),fun i hi=>?_⟩;obtain⟨i1,i2,o,ho,hed⟩:=EC.1 hi;have hLs:i < L.size:=by omega
   by_cases hip:i∈p::ps
   ·refine wpOp_mono (fun a w hw=>?_) (KR i1 (h1.get i hip))
    have hlen:((p::ps).erase i).length=(p::ps).length - 1:=List.length_erase_of_mem hip;refine ih m fuel _ _ a w (hnd.erase i) (fun x hx=>hp x (List.mem_of_mem_erase hx)) hm (by rw[hlen];simp at hf ⊢;omega) Aa hk (by simpa using hL) (fun j hj hne=>?_) (fun x hx=>?_) (fun j hj=>?_) (fun j oj hj hoj e he hb=>?_) hw
    ·rw[BZ hLs]
     split
     ·rfl
     ·rename_i hij
      exact hlo j hj fun hm'=>hne ((List.mem_erase_of_ne (fun e=>hij e.symm)).2 hm')
    ·rw[BZ hLs,if_neg (fun e=>by subst e;exact(hnd.not_mem_erase) hx)]
     exact hpe x (List.mem_of_mem_erase hx)
    ·rw[BZ hLs,if_neg (by have:=hΛ i (hp i hip);omega)]
     exact hhi j hj
    ·rw[BZ hLs]at hj ⊢
     split
     ·rfl
     ·split at hj
      ·rename_i hij
       subst hij;rw[ho]at hoj;cases hoj;exact hed e he hb
      ·exact hcl j oj hj hoj e he hb
   ·have hmi:i=m:=by
     rcases Nat.lt_trichotomy i m with h' | h' | h'
     ·rw[hun i i1,hlo i h' hip]at i2;cases i2
     ·exact h'
     ·exfalso
      have hT:=c.tail i Aa i1 m h' (fun hm'=>by have:=hΛ m hm';omega);have:=c.up hcl i o ho hed m hT;rw[hhi m (Nat.le_refl _)]at this;cases this
    subst hmi;have hdead:∀ x∈p::ps,i < dl x:=fun x hx=>by
     rcases Nat.lt_or_ge i (dl x)with h' | h'
     ·exact h'
     ·exfalso
      have:=c.up hcl i o ho hed x (hdl x (hp x hx) i h' i1);rw[hpe x hx]at this;cases this
    have hb:(Nat.blt i ops.size&&(p::ps).all fun x=>Nat.blt i (dl x))=true:=by
     rw[Bool.and_eq_true,List.all_eq_true];exact⟨by simpa[Nat.blt_eq] using i1,fun x hx=>by simpa[Nat.blt_eq] using hdead x hx⟩
    refine wpOp_mono (fun a w hw=>?_) (KR i1 (h2 hb));refine ih (i+1) fuel _ _ a w hnd hp Aa (by simp at hf ⊢;omega) Aa Aa (by simpa using hL) (fun j hj hne=>?_) (fun x hx=>?_) (fun j hj=>?_) (fun j oj hj hoj e he hb=>?_) hw
    ·rw[BZ hLs]
     split
     ·rfl
     ·exact hlo j Aa hne
    ·rw[BZ hLs,if_neg (fun e=>by subst e;exact hip hx)]
     exact hpe x hx
    ·rw[BZ hLs,if_neg Aa]
     exact hhi j Aa
    ·rw[BZ hLs]at hj ⊢
     split
     ·rfl
     ·split at hj
      ·rename_i hij
       subst hij;rw[ho]at hoj;cases hoj;exact hed e he hb
      ·exact hcl j oj hj hoj e he hb
theorem Jo(a0:Act)(D:List Nat):∀(l:List Nat) (a:Act) (t:Nat),(Cw a0 D l a).defers=a.defers/\(Cw a0 D l a).tmps.size=a.tmps.size /\
  ((∃ p∈l,D.getD p 0=t)->t < a.tmps.size->(Cw a0 D l a).tmps[t]? = some (a0.tmps.getD t undef))/\((∀ p∈l,D.getD p 0≠t)->(Cw a0 D l a).tmps[t]? = a.tmps[t]?)
 | [],a,t=>⟨rfl,rfl,fun h=>(by obtain⟨_,h,_⟩:=h;cases h),fun _=>rfl⟩
 | p::ps,a,t=>by
  obtain⟨h1,h2,h3,h4⟩:=Jo a0 D ps (a.put (some (D.getD p 0)) (a0.tmps.getD (D.getD p 0) undef)) t;have hsz:(a.put (some (D.getD p 0)) (a0.tmps.getD (D.getD p 0) undef)).tmps.size=a.tmps.size:=by simp[Act.put]
  refine⟨h1.trans rfl,h2.trans hsz,fun⟨q,hq,e⟩ ht=>?_,fun hn=>?_⟩
  ·by_cases hx:∃ p∈ps,D.getD p 0=t
   ·exact h3 hx (by rw[hsz];exact ht)
   ·have e2:D.getD p 0=t:=by
     rcases List.mem_cons.1 hq with rfl | hq
     ·exact e
     ·exact absurd ⟨q,hq,e⟩ hx
    show(Cw a0 D ps _).tmps[t]? = _;rw[h4 fun p' hp' e'=>hx ⟨p',hp',e'⟩];show(a.tmps.setIfInBounds (D.getD p 0) (a0.tmps.getD (D.getD p 0) undef))[t]? = _;rw[e2,Array.getElem?_setIfInBounds,if_pos rfl,if_pos ht]
  ·show(Cw a0 D ps _).tmps[t]? = _
   rw[h4 fun p' hp'=>hn p' (List.mem_cons_of_mem _ hp')];show(a.tmps.setIfInBounds (D.getD p 0) (a0.tmps.getD (D.getD p 0) undef))[t]? = _;rw[Array.getElem?_setIfInBounds_ne (hn p Ac)]
theorem QN(c:MF ops k D T EK Λ)(hD:∀ d∈D,d < a0.tmps.size){Pn:List Nat}(hk:∀ p∈Pn,p < k){γ:Nat->Value}{L:Array Bool}{a:Act}{w:World}(h:RG ops a0 W0 k D T V F γ L a w)
  (hall:∀ i,i < k->i∉Pn->L.getD i false=true) (hl:∀ p∈Pn,L.getD p false=false):a=Cw a0 D Pn (AY a0 (BM T V γ) 0 D):=by
 obtain⟨f1,f2,f3,f4⟩:=Jk (BM T V γ) D 0 a0;have hg:∀ m,(hm:m < D.length)->D.getD m 0=D[m]:=fun m hm=>by rw[List.getD_eq_getElem?_getD,List.getElem?_eq_getElem hm];rfl
 have ht:a.tmps=(Cw a0 D Pn (AY a0 (BM T V γ) 0 D)).tmps:=by
  apply Array.ext_getElem?
  intro t;obtain⟨u1,u2,u3,u4⟩:=Jo a0 D Pn (AY a0 (BM T V γ) 0 D) t;by_cases hp:∃ p∈Pn,D.getD p 0=t
  ·obtain⟨p,hpp,e⟩:=hp
   have hpk:=hk p hpp;have hpD:p < D.length:=by rw[c.hlen];exact hpk
   have hts:t < a0.tmps.size:=by rw[<-e];exact hD _ (by rw[hg p hpD];exact List.getElem_mem hpD)
   rw[u3 ⟨p,hpp,e⟩ (by rw[f2];exact hts)];rw[h.other t fun i hi hil e2=>by
    by_cases hij:i=p
    ·rw[hij,hl p hpp]at hil;cases hil
    ·exact c.dist i p hi hpk hij (by rw[e2,e])]
   rw[Array.getD_eq_getD_getElem?,Array.getElem?_eq_getElem hts];rfl
  ·rw[u4 fun p hpp e=>hp ⟨p,hpp,e⟩]
   by_cases hm:t∈D
   ·obtain⟨j,hj,e⟩:=List.getElem_of_mem hm
    have hjk:j < k:=by rw[<-c.hlen];exact hj
    have hjP:j∉Pn:=fun hj'=>hp ⟨j,hj',by rw[hg j hj];exact e⟩;have h1:=h.mine j hjk (hall j hjk hjP);rw[hg j hj]at h1;have h2:=f4 j hj (fun m hm hjm=>by
     have:=c.dist m j (by rw[<-c.hlen];exact hm) hjk Aa;rwa[hg m hm,hg j hj]at this) (hD _ (List.getElem_mem hj))
    rw[<-e,h1,h2,Nat.zero_add]
   ·rw[f3 t hm]
    refine h.other t fun i hi _ e=>hm ?_;have hlt:i < D.length:=by rw[c.hlen];exact hi
    rw[<-e,hg i hlt];exact List.getElem_mem hlt
 have hd:a.defers=(Cw a0 D Pn (AY a0 (BM T V γ) 0 D)).defers:=h.defers.trans (f1.symm.trans (Jo a0 D Pn _ 0).1.symm);cases a;generalize Cw a0 D Pn (AY a0 (BM T V γ) 0 D)=b at *;cases b;simp only at ht hd;rw[ht,hd]
theorem Sm{dl:Nat->Nat}(c:MF ops k D T EK Λ)(hsub:Λ.Sublist (List.range k))(hdl:∀ x∈Λ,∀ i,dl x<=i->i < ops.size->x∈T.getD i [])
  (hind:∀ x∈Λ,∀ o,ops[x]? = some o->∀ e∈o.after,Region.binds .any e=true->e.on∉Λ) (hE:JI a0 EK EV) (hD:∀ d∈D,d < a0.tmps.size) (hmono:∀ i γ w w',i < k->Ext w w'->F i γ w->F i γ w')
  (hstep:∀ i,i < k->bD P ops EK EV W0 D T V F i)
  (htail:∀ γ w,Ext W0 w->(∀ i,i < k->F i (I7 (i::T.getD i []) γ) w)->(∀ i j,i < k->j < k->i≠j->FT ops i->FT ops j->BM T V γ i≠BM T V γ j)->wpList P ops Q (ops.toList.drop k) (AY a0 (BM T V γ) 0 D) w)
  (hlate:∀ Pn,Pn.Sublist Λ->Pn≠[]->∀ γ w,Ext W0 w->(∀ i,i < k->i∉Pn->F i (I7 (i::T.getD i []) γ) w)->(∀ i j,i < k->j < k->i≠j->i∉Pn->j∉Pn->FT ops i->FT ops j->BM T V γ i≠BM T V γ j)->AJ P ops Q dl (Pn.length+(ops.size - k)) Pn k (Cw a0 D Pn (AY a0 (BM T V γ) 0 D)) w) :
  ∀(fuel:Nat) (γ:Nat->Value) (L:Array Bool) (a:Act) (w:World),(List.range ops.size).countP (fun i=>!L.getD i false)<=fuel->RG ops a0 W0 k D T V F γ L a w->wpAny P .any ops Q fuel L a w:=by
 have hΛk:∀ j∈Λ,j < k:=fun j hj=>List.mem_range.1 (hsub.subset hj);intro fuel;induction fuel with
 | zero =>
  intro γ L a w hf h;have hall:∀ i,i < ops.size->L.getD i false=true:=by
   intro i hi;have:=List.countP_eq_zero.1 (Nat.le_zero.1 hf) i (List.mem_range.2 hi);simpa using this
  have hks:k=ops.size:=by
   rcases Nat.lt_or_ge k ops.size with hlt | hge
   ·have h1:=hall k hlt
    rw[h.low k (Nat.le_refl _)]at h1;cases h1
   ·exact Nat.le_antisymm c.hk hge
  have ha:a=AY a0 (BM T V γ) 0 D:=QE c hD h (fun i hi=>hall i (Nat.lt_of_lt_of_le hi c.hk));rw[ha];exact Gw c (fun j hj => .inl (hΛk j hj)) 0 k 0 L _ w Aa (Nat.le_refl _) (Nat.le_refl _) h.size (fun j hj=>hall j Aa) (fun j hj=>h.low j hj) (htail γ w h.ext (fun i hi=>h.facts i hi (hall i Aa)) fun i j hi hj hne=>h.apart i j hi hj hne (hall i Aa) (hall j Aa))
 | succ fuel ih =>
  intro γ L a w hf h;by_cases hall:∀ i,i < k->L.getD i false=true
  ·have ha:a=AY a0 (BM T V γ) 0 D:=QE c hD h hall
   have hcount:ops.size - k<=fuel+1:=by
    refine Nat.le_trans ?_ hf;have:(List.range' k (ops.size - k)).countP (fun i=>!L.getD i false)=ops.size - k:=by
     have h1:(List.range' k (ops.size - k)).countP (fun i=>!L.getD i false)=(List.range' k (ops.size - k)).length:=by
      rw[List.countP_eq_length];intro i hi;rw[List.mem_range'_1]at hi;simp[h.low i hi.1]
     rw[h1,List.length_range']
    rw[<-this];have hsub:(List.range' k (ops.size - k)).Sublist (List.range ops.size):=by
     rw[Ii ops.size k c.hk];exact List.sublist_append_right _ _
    exact hsub.countP_le
   rw[ha];exact Gw c (fun j hj => .inl (hΛk j hj)) (ops.size - k) k (fuel+1) L _ w (by have:=c.hk;omega) hcount (Nat.le_refl _) h.size hall (fun j hj=>h.low j hj) (htail γ w h.ext (fun i hi=>h.facts i hi (hall i hi)) fun i j hi hj hne=>h.apart i j hi hj hne (hall i hi) (hall j hj))
  ·have hun:∀ j,j < ops.size->L.getD j true=L.getD j false:=fun j hj=>by
    rw[Array.getD_eq_getD_getElem?,Array.getD_eq_getD_getElem?,Array.getElem?_eq_getElem (by rw[h.size];exact hj)];rfl
   by_cases hlc:∀ i,i < k->i∉Λ->L.getD i false=true
   ·obtain⟨Pn,hPn⟩:∃ Pn,Pn=Λ.filter fun p=>!L.getD p false:=⟨_,rfl⟩
    have hmem:∀ p,p∈Pn↔p∈Λ/\L.getD p false=false:=fun p=>by rw[hPn,List.mem_filter];simp
    have hPs:Pn.Sublist Λ:=by rw[hPn];exact List.filter_sublist
    have hPk:∀ p∈Pn,p < k:=fun p hp=>hΛk p (hPs.subset hp);have hne:Pn≠[]:=fun e=>hall fun i hi=>by
     by_cases hiΛ:i∈Λ
     ·cases hx:L.getD i false with
      | true=>rfl
      | false =>
       have:=(hmem i).2 ⟨hiΛ,hx⟩;rw[e]at this;cases this
     ·exact hlc i hi hiΛ
    have hll:∀ i,i < k->i∉Pn->L.getD i false=true:=fun i hi hn=>by
     by_cases hiΛ:i∈Λ
     ·cases hx:L.getD i false with
      | true=>rfl
      | false=>exact absurd ((hmem i).2 ⟨hiΛ,hx⟩) hn
     ·exact hlc i hi hiΛ
    have hl0:∀ p∈Pn,L.getD p false=false:=fun p hp=>((hmem p).1 hp).2;have ha:=QN c hD hPk h hll hl0;have hnd:Pn.Nodup:=(hPs.trans hsub).nodup List.nodup_range;have hcount:Pn.length+(ops.size - k)<=fuel+1:=by
     refine Nat.le_trans ?_ hf;have h1:(List.range' k (ops.size - k)).countP (fun i=>!L.getD i false)=ops.size - k:=by
      have h1:(List.range' k (ops.size - k)).countP (fun i=>!L.getD i false)=(List.range' k (ops.size - k)).length:=by
       rw[List.countP_eq_length];intro i hi;rw[List.mem_range'_1]at hi;simp[h.low i hi.1]
      rw[h1,List.length_range']
     have h2:Pn.length<=(List.range k).countP (fun i=>!L.getD i false):=by
      rw[List.countP_eq_length_filter];have:=(hsub.filter fun p=>!L.getD p false).length_le;rw[<-hPn]at this;exact this
     rw[Ii ops.size k c.hk,List.countP_append,h1];omega
    refine QZ c hΛk hdl hind (Pn.length+(ops.size - k)) k (fuel+1) Pn L a w hnd (fun x hx=>hPs.subset hx) c.hk (Nat.le_refl _) hcount (Nat.le_refl _) h.size (fun j hj hn=>hll j hj hn) hl0 (fun j hj=>h.low j hj) h.closed ?_;rw[ha];exact hlate Pn hPs hne γ w h.ext (fun i hi hn=>h.facts i hi (hll i hi hn)) fun i j hi hj hne hil hjl=>h.apart i j hi hj hne (hll i hi hil) (hll j hj hjl)
   -- the NJ that is not listed may come up
   have hex:∃ i,i < k/\L.getD i false=false/\∀ j,j < i->L.getD j false=true:=by
    have:∃ i,i < k/\L.getD i false=false:=by
     obtain⟨i,hi⟩:=Classical.not_forall.1 hall;obtain⟨hi,hl⟩:=Classical.not_imp.1 hi;exact⟨i,hi,by simpa using hl⟩
    obtain⟨i,hi,hl⟩:=this;induction i using Nat.strongRecOn with
    | _ i ihi =>
     by_cases hj:∃ j,j < i/\L.getD j false=false
     ·obtain⟨j,hji,hjl⟩:=hj
      exact ihi j hji Aa hjl
     ·refine⟨i,hi,hl,fun j hji=>?_⟩
      cases hjl:L.getD j false with
      | true=>rfl
      | false=>exact absurd ⟨j,hji,hjl⟩ hj
   obtain⟨i0,hi0,hl0,hlow0⟩:=hex;have hi0s:i0 < ops.size:=Nat.lt_of_lt_of_le hi0 c.hk;have hi0o:ops[i0]? = some ops[i0]:=Array.getElem?_eq_getElem hi0s;have hr0:i0∈Region.ready .any ops L:=EC.2 ⟨hi0s,by rw[hun i0 hi0s];exact hl0,_,hi0o,fun e he hb=>hlow0 _ (c.edges i0 _ hi0o e he hb)⟩;refine⟨fun h0=>(by rw[h0]at hr0;cases hr0),fun i hi=>?_⟩;obtain⟨h1,h2,o,ho,he⟩:=EC.1 hi;rw[hun i h1]at h2;have hT:=c.up h.closed i o ho he
   have hik:i < k:=by
    rcases Nat.lt_or_ge i k with hlt | hge
    ·exact hlt
    ·exfalso
     refine hlc fun j hj hn=>?_;exact hT j (c.tail i hge h1 j Aa hn)
   have hs:=hstep i hik γ w h.ext (fun j hj=>h.facts j (by
    have hjl:=hT j hj;rcases Nat.lt_or_ge j k with hlt | hge
    ·exact hlt
    ·rw[h.low j hge]at hjl;cases hjl) (hT j hj))
   rw[ho]at hs;obtain⟨hg,hu⟩:=hs;unfold wpOp;rw[ho];show if _ then _ else _;rw[if_pos (Nq c h hik ho hT hg)];refine .inl (Jj.wp (Wy hu) (Q5 c hE h hik ho hT) fun v w' hvw=>?_);obtain⟨⟨q1,q2,q3⟩,q4⟩:=hvw;refine ih (upd γ i v) _ _ w' ?_ (Yg c hD hmono h hik ho h2 he q1 q2 q3 q4);have hiL:i < L.size:=by rw[h.size];exact h1
   have hlt:(List.range ops.size).countP (fun j=>!(L.setIfInBounds i true).getD j false) < (List.range ops.size).countP (fun j=>!L.getD j false):=by
    have hle:∀(l:List Nat),l.countP (fun j=>!(L.setIfInBounds i true).getD j false)<=l.countP (fun j=>!L.getD j false):=fun l =>
     List.countP_mono_left fun j _ hj=>by
      rw[BZ hiL]at hj
      split at hj
      ·simp at hj
      ·exact hj
    have hspl:List.range ops.size=List.range i ++ i::List.range' (i+1) (ops.size - i - 1):=by
     rw[Ii ops.size i Aa,show ops.size - i=(ops.size - i - 1)+1 from Aa,List.range'_succ];simp
    rw[hspl,List.countP_append,List.countP_append,List.countP_cons,List.countP_cons];have a1:=hle (List.range i);have a2:=hle (List.range' (i+1) (ops.size - i - 1));rw[BZ hiL,if_pos rfl,h2];simp only[Bool.not_true,Bool.not_false,if_true,Bool.false_eq_true,if_false];omega
   omega
theorem BG{id:Nat}(k:Nat)(Λ:List Nat)(dl:Nat->Nat)(D:List Nat)(T:List (List Nat))(EK:List Nat)(EV:List Value)(VL:List ((Nat->Value)->Value))(FL:(Nat->Value)->World->List Prop)
  (hE:JI a0 EK EV) (hm:P.follows .mixedOrders=true) (hc:NC ops k D T EK Λ=true) (hsub:Λ.isSublist (List.range k)=true)
  (hdl:(Λ.all fun x=>(List.range ops.size).all fun i=>Nat.blt i (dl x) || (T.getD i []).contains x)=true)
  (hind:(Λ.all fun x=>((ops.toList.drop x).take 1).all fun o=>o.after.toList.all fun e=>!Region.binds .any e || !Λ.contains e.on)=true) (hD:D.all (fun d=>Nat.blt d a0.tmps.size)=true)
  (hT:(List.range k).all (fun i=>(T.getD i []).all fun j=>Nat.blt j i&&(T.getD j []).all fun m=>(T.getD i []).contains m)=true)
  (hloc:AC k (Uy T VL FL))
  (hmono:AC k fun i=>∀ γ w w',Ext w w'->gF FL γ w i->gF FL γ w' i)
  (hstep:AC k (Pp P ops EK EV W0 D T VL FL))
  (htail:∀ γ w,Ext W0 w->AC k (fun i=>gF FL γ w i)->(∀ i j,i < k->j < k->i≠j->FT ops i->FT ops j->gV VL γ i≠gV VL γ j)->wpList P ops Q (ops.toList.drop k) (AY a0 (gV VL γ) 0 D) w)
  (hlate:∀ Pn,Pn.Sublist Λ->Pn≠[]->∀ γ w,Ext W0 w->AC k (fun i=>i∈Pn\/gF FL γ w i)->(∀ i j,i < k->j < k->i≠j->i∉Pn->j∉Pn->FT ops i->FT ops j->gV VL γ i≠gV VL γ j)->AJ P ops Q dl (Pn.length+(ops.size - k)) Pn k (Cw a0 D Pn (AY a0 (gV VL γ) 0 D)) w) :
  (Code.region id ops true).wp P Q a0 W0:=by
 have c:=Rt hc;have hT':∀ i,i < k->∀ j∈T.getD i [],j < i/\∀ m∈T.getD j [],m∈T.getD i []:=fun i hi j hj=>by
  have:=List.all_eq_true.1 (List.all_eq_true.1 hT i (List.mem_range.2 hi)) j hj;simp only[Bool.and_eq_true,Nat.blt_eq,List.all_eq_true]at this;exact⟨this.1,fun m hm=>by simpa using this.2 m hm⟩
 have hF:∀ i,(Array.replicate ops.size false).getD i false=false:=fun i=>by
  rw[Array.getD_eq_getD_getElem?,Array.getElem?_replicate];split<;>rfl
 have msk:∀(l:List Nat) (γ:Nat->Value) j,l.contains j=true->I7 l γ j=γ j:=fun l γ j h=>by unfold I7;rw[if_pos h]
 have lV:∀ i,i < k->∀ γ,gV VL (I7 (i::T.getD i []) γ) i=gV VL γ i:=fun i hi γ=>(hloc.get i hi _ _ fun j hj=>msk _ γ j hj).1;have lF:∀ i,i < k->∀ γ w,gF FL (I7 (i::T.getD i []) γ) w i=gF FL γ w i:=fun i hi γ w=>(hloc.get i hi _ _ fun j hj=>msk _ γ j hj).2 w;have pv:∀ γ i,i < k->BM T (fun γ i=>gV VL γ i) γ i=gV VL γ i:=fun γ i hi=>lV i hi γ;have pe:∀ γ,Jm EK EV D (BM T (fun γ i=>gV VL γ i) γ)=Jm EK EV D (gV VL γ):=fun γ=>by
  funext x
  cases x with
  | tmp t =>
   rw[Mw hE,Mw hE];cases hd:D.idxOf? t with
   | none=>rfl
   | some j =>
    obtain⟨hlt,_⟩:=List.findIdx?_eq_some_iff_getElem.1 (show D.findIdx? (· == t)=some j from hd);exact pv γ j (by rw[<-c.hlen];exact hlt)
  | const v=>rfl
  | global g=>rfl
  | func f=>rfl
 refine wp_region_any hm ?_;refine Sm (dl:=dl) (W0:=W0) (V:=fun γ i=>gV VL γ i) (F:=fun i γ w=>gF FL γ w i) c (List.isSublist_iff_sublist.1 hsub) (fun x hx i hi his=>?_) (fun x hx o ho e he hb=>?_) hE (fun d hd=>by simpa[Nat.blt_eq] using List.all_eq_true.1 hD d hd) (fun i γ w w' hi=>hmono.get i hi γ w w') (fun i hi γ w he hf=>?_)
  (fun γ w he hf hap=>?_) (fun Pn hPs hPn γ w he hf hap=>?_) ops.size (fun _=>undef) _ _ _ ?_ ?_
 ·have:=List.all_eq_true.1 (List.all_eq_true.1 hdl x hx) i (List.mem_range.2 his)
  simp only[Bool.or_eq_true,Nat.blt_eq]at this;rcases this with h | h
  ·omega
  ·simpa using h
 ·have h1:=List.all_eq_true.1 hind x hx
  have hxs:x < ops.size:=(Array.getElem?_eq_some_iff.1 ho).1;have e1:(ops.toList.drop x).take 1=[o]:=by
   rw[List.drop_eq_getElem_cons (by simpa using hxs)];rw[Array.getElem?_eq_getElem hxs]at ho;simpa using ho
  rw[e1]at h1;simp only[List.all_cons,List.all_nil,Bool.and_true]at h1;have h2:=List.all_eq_true.1 h1 e (by simpa using he);rw[hb]at h2;simpa using h2
 ·have hs:=hstep.get i hi γ w he (fun j hj=>by
   have h1:=hT' i hi j hj;rw[<-lF j Aa γ w];exact hf j hj)
  cases ho:ops[i]? with
  | none=>rw[ho]at hs;exact hs
  | some o =>
   rw[ho]at hs;obtain⟨h1,h2⟩:=hs;refine⟨?_,?_⟩
   ·cases hg:o.guard with
    | none=>trivial
    | some p =>
     obtain⟨g,b⟩:=p;rw[hg]at h1;have:=c.guard i o g b ho hi hg;exact(pv γ g this.2).trans h1
   ·rw[pe]
    have e:(fun v w'=>Ext w w'/\gV VL (I7 (i::T.getD i []) (upd γ i v)) i=v/\gF FL (I7 (i::T.getD i []) (upd γ i v)) w' i)=(fun v w'=>Ext w w'/\gV VL (upd γ i v) i=v/\gF FL (upd γ i v) w' i):=by
     funext v w'
     rw[lV i hi,lF i hi]
    rw[e];exact h2 _ (fun v w' a b c=>⟨a,b,c⟩)
 ·have h1:=htail γ w he (Pi fun i hi=>by rw[<-lF i hi γ w];exact hf i hi) fun i j hi hj hne a b=>by
   have:=hap i j hi hj hne a b;rwa[pv γ i hi,pv γ j hj]at this
  have e:AY a0 (BM T (fun γ i=>gV VL γ i) γ) 0 D=AY a0 (gV VL γ) 0 D:=by
   have key:∀(ds:List Nat) (i:Nat) (a:Act),i+ds.length<=k->AY a (BM T (fun γ i=>gV VL γ i) γ) i ds=AY a (gV VL γ) i ds:=by
    intro ds;induction ds with
    | nil=>intro i a _;rfl
    | cons d ds ih =>
     intro i a hk;simp only[List.length_cons]at hk;show AY (a.put (some d) (BM T (fun γ i=>gV VL γ i) γ i)) _ (i+1) ds=AY (a.put (some d) (gV VL γ i)) _ (i+1) ds;rw[pv γ i Aa];exact ih _ _ Aa
   exact key D 0 a0 (by rw[c.hlen];omega)
  rw[e];exact h1
 ·have h1:=hlate Pn hPs hPn γ w he (Pi fun i hi=>by
   by_cases e:i∈Pn
   ·exact .inl e
   ·right;rw[<-lF i hi γ w];exact hf i hi e) fun i j hi hj hne hil hjl a b=>by
    have:=hap i j hi hj hne hil hjl a b;rwa[pv γ i hi,pv γ j hj]at this
  have e:AY a0 (BM T (fun γ i=>gV VL γ i) γ) 0 D=AY a0 (gV VL γ) 0 D:=by
   have key:∀(ds:List Nat) (i:Nat) (a:Act),i+ds.length<=k->AY a (BM T (fun γ i=>gV VL γ i) γ) i ds=AY a (gV VL γ) i ds:=by
    intro ds;induction ds with
    | nil=>intro i a _;rfl
    | cons d ds ih =>
     intro i a hk;simp only[List.length_cons]at hk;show AY (a.put (some d) (BM T (fun γ i=>gV VL γ i) γ i)) _ (i+1) ds=AY (a.put (some d) (gV VL γ i)) _ (i+1) ds;rw[pv γ i Aa];exact ih _ _ Aa
   exact key _ 0 a0 (by rw[c.hlen];omega)
  rw[e];exact h1
 ·exact Nat.le_trans List.countP_le_length Ac
 ·have hN:∀ {p:Prop} i,(Array.replicate ops.size false).getD i false=true->p:=fun i h=>absurd ((hF i).symm.trans h) Ab
  exact⟨Ac,fun i o h=>hN i h,fun i _=>hF i,rfl,rfl,fun i _ h=>hN i h,fun t _=>rfl,(Ext.refl W0).drew,fun i _ h=>hN i h,fun i _ h=>hN i h,fun i _ _ _ _ h=>hN i h⟩
end
theorem AJ.mk{P:Program}{ops:Array Oper}{Q:Exit->Act->World->Prop}{dl:Nat->Nat}{p m:Nat}{ps:List Nat}{a:Act}{w:World}(f:Nat)
  (h1:Xp (fun x=>Df P ops Q x (AJ P ops Q dl f ((p::ps).erase x) m) a w) (p::ps)) (h2:(Nat.blt m ops.size&&(p::ps).all fun x=>Nat.blt m (dl x))=true->Df P ops Q m (AJ P ops Q dl f (p::ps) (m+1)) a w):AJ P ops Q dl (f+1) (p::ps) m a w:=⟨h1,h2⟩
theorem AJ.nil{P:Program}{ops:Array Oper}{Q:Exit->Act->World->Prop}{dl:Nat->Nat}{f m:Nat}{a:Act}{w:World}(h:wpList P ops Q (ops.toList.drop m) a w):AJ P ops Q dl f [] m a w:=by
 unfold AJ;exact h
theorem Je{x:Nat}{l:List Nat}(h:l.Sublist [x])(hn:l≠[]):l=[x]:=by
 cases h with
 | cons _ h=>exact absurd (List.sublist_nil.1 h) hn
 | cons_cons _ h=>rw[List.sublist_nil.1 h]
theorem iV{x y:Nat}{l:List Nat}(h:l.Sublist [x,y])(hn:l≠[]):l=[x]\/l=[y]\/l=[x,y]:=by
 cases h with
 | cons _ h=>exact .inr (.inl (Je h hn))
 | cons_cons _ h =>
  rename_i l';by_cases e:l'=[]
  ·subst e;exact .inl rfl
  ·rw[Je h e];exact .inr (.inr rfl)
theorem Np{p:Prop}(h:p:=by
  (repeat' refine Au ?_ ?_)<;>first | exact trivial | (simp only[List.getElem?_toArray,List.getElem?_cons_succ,List.getElem?_cons_zero];rfl)):p:=h
theorem Nj{p:Prop}(h:p:=by
  (repeat' refine Au ?_ ?_)<;>first | exact trivial | exact fun _ _ _=>⟨rfl,fun _=>rfl⟩ | exact fun _ _ h=>⟨h _ rfl,fun _=>by simp (decide:=true) only[gF,List.getD_cons_zero,List.getD_cons_succ,h]⟩ | exact fun _ _ h=>⟨by simp (decide:=true) only[gV,List.getD_cons_zero,List.getD_cons_succ,h],fun _=>by simp (decide:=true) only[gF,List.getD_cons_zero,List.getD_cons_succ,h]⟩):p:=h
theorem gU{p:Prop}(h:p:=by
  (repeat' refine Au ?_ ?_)<;>first | exact trivial | exact fun _ _ _ _ _=>trivial | (intro γ w w' e h;simp only[gF,List.getD_cons_zero,List.getD_cons_succ]at h ⊢;exact h.ext e) | exact fun _ _ _ _ h=>h):p:=h
theorem P5{p:Prop}(h:p:=by rfl):p:=h
theorem Cg{p:Prop}(h:p:=by kernel_rfl):p:=h
section
variable{P:Program}{ops:Array Oper}{Q:Exit->Act->World->Prop}{a0:Act}{W0:World}
theorem Le{id:Nat}(k:Nat)(D:List Nat)(T:List (List Nat))(EK:List Nat)(EV:List Value)(VL:List ((Nat->Value)->Value))(FL:(Nat->Value)->World->List Prop)
  (hE:JI a0 EK EV) (hm:P.follows .mixedOrders=true) (hc:NC ops k D T EK []=true) (hD:D.all (fun d=>Nat.blt d a0.tmps.size)=true)
  (hT:(List.range k).all (fun i=>(T.getD i []).all fun j=>Nat.blt j i&&(T.getD j []).all fun m=>(T.getD i []).contains m)=true)
  (hloc:AC k (Uy T VL FL))
  (hmono:AC k fun i=>∀ γ w w',Ext w w'->gF FL γ w i->gF FL γ w' i)
  (hstep:AC k (Pp P ops EK EV W0 D T VL FL))
  (htail:∀ γ w,Ext W0 w->AC k (fun i=>gF FL γ w i)->(∀ i j,i < k->j < k->i≠j->FT ops i->FT ops j->gV VL γ i≠gV VL γ j)->wpList P ops Q (ops.toList.drop k) (AY a0 (gV VL γ) 0 D) w) :
  (Code.region id ops true).wp P Q a0 W0:=
 BG k [] (fun _=>0) D T EK EV VL FL hE hm hc Ac Ac Ac hD hT hloc hmono hstep htail fun _ hs hn=>absurd (List.sublist_nil.1 hs) hn
theorem Nw{id:Nat}(k:Nat)(D:List Nat)(T:List (List Nat))(EK:List Nat)(EV:List Value)(VL:List ((Nat->Value)->Value))(FL:(Nat->Value)->World->List Prop)
  (hE:JI a0 EK EV) (hm:P.follows .mixedOrders=true) (hc:NC ops k D T EK []=true) (hD:D.all (fun d=>Nat.blt d a0.tmps.size)=true)
  (hT:(List.range k).all (fun i=>(T.getD i []).all fun j=>Nat.blt j i&&(T.getD j []).all fun m=>(T.getD i []).contains m)=true)
  (hloc:AC k (Uy T VL FL))
  (hmono:AC k fun i=>∀ γ w w',Ext w w'->gF FL γ w i->gF FL γ w' i)
  (hstep:AC k (Pp P ops EK EV W0 D T VL FL))
  (htail:∀ γ w,Ext W0 w->AC k (fun i=>gF FL γ w i)->wpList P ops Q (ops.toList.drop k) (AY a0 (gV VL γ) 0 D) w) :
  (Code.region id ops true).wp P Q a0 W0:=Le k D T EK EV VL FL hE hm hc hD hT hloc hmono hstep fun γ w h hF _=>htail γ w h hF
def kF(s t:List Nat):List Nat:=t.foldl (fun s x=>if s.contains x then s else s ++ [x]) s
def j4(T:List (List Nat))(o:Oper):List Nat:=o.after.toList.foldl (fun s e=>if Region.binds .any e then kF s (e.on::T.getD e.on [])else s) []
def bC(ops:Array Oper):List (List Nat):=ops.toList.foldl (fun T o=>T ++ [j4 T o]) []
theorem EE{id:Nat}(k:Nat)(D:List Nat)(EK:List Nat)(EV:List Value)(VL:List ((Nat->Value)->Value))(FL:(Nat->Value)->World->List Prop)
  (hstep:AC k (Pp P ops EK EV W0 D (bC ops) VL FL))
  (htail:∀ γ w,Ext W0 w->AC k (fun i=>gF FL γ w i)->wpList P ops Q (ops.toList.drop k) (AY a0 (gV VL γ) 0 D) w)
  (hmono:AC k (fun i=>∀ γ w w',Ext w w'->gF FL γ w i->gF FL γ w' i):=by exact gU)
  (hE:JI a0 EK EV:=by exact Np) (hm:P.follows .mixedOrders=true:=by kernel_rfl) (hc:NC ops k D (bC ops) EK []=true:=by kernel_rfl) (hD:D.all (fun d=>Nat.blt d a0.tmps.size)=true:=by rfl)
  (hT:(List.range k).all (fun i=>((bC ops).getD i []).all fun j=>Nat.blt j i&&((bC ops).getD j []).all fun m=>((bC ops).getD i []).contains m)=true:=by kernel_rfl)
  (hloc:AC k (Uy (bC ops) VL FL):=by exact Nj) :
  (Code.region id ops true).wp P Q a0 W0:=Nw k D (bC ops) EK EV VL FL hE hm hc hD hT hloc hmono hstep htail
end
theorem BF{P:Program}{f:FuncId}{args:Array Value}{w:World}{F F':Value->World->Prop}{V:Value->Value}{R:Value->World->Prop}
  (h:Calls P f args w (Ai w F)) (hR:Zi (∀ v w',Ext w w'->V v=v->F' v w'->R v w')) (hV:∀ v,V v=v:=by intro _;rfl) (hF:∀ v w',F v w'->F' v w':=by intro _ _ h;exact h) :
  Calls P f args w fun e w2=>∃ v,e = .returned v/\R v w2:=by
 refine AQ h ?_;rintro v w2 hv hx;exact⟨v,rfl,hR v w2 hx (hV v) (hF v w2 hv)⟩
theorem C8{w:World}{V:Value->Value}{F':Value->World->Prop}{R:Value->World->Prop}{v:Value}(hR:Zi (∀ v w',Ext w w'->V v=v->F' v w'->R v w'))(hV:V v=v:=by rfl)(hF:F' v w:=by trivial):R v w:=hR v w (Ext.refl _) hV hF
theorem OA{P:Program}{f:FuncId}{args:Array Value}{w:World}{F':Value->World->Prop}{V:Value->Value}{R:Value->World->Prop}{x:Value}
  (h:Calls P f args w (Ai w fun r _=>r=x)) (hR:Zi (∀ v w',Ext w w'->V v=v->F' v w'->R v w')) (hV:V x=x:=by rfl) (hF:∀ w',F' x w':=by intro _;exact trivial) :
  Calls P f args w fun e w2=>∃ v,e = .returned v/\R v w2:=by
 refine AQ h ?_;rintro v w2 rfl hx;exact⟨_,rfl,hR _ w2 hx hV (hF w2)⟩
theorem Bw:(∀(a:Act) (v:Nat->Value) (i:Nat),AY a v i []=a)/\(∀(a:Act) (v:Nat->Value) (i d:Nat) (ds:List Nat),AY a v i (d::ds)=AY (a.put (some d) (v i)) v (i+1) ds) /\
  (∀(VL:List ((Nat->Value)->Value)) (γ:Nat->Value) (i:Nat),gV VL γ i=VL.getD i (fun _=>undef) γ)/\(∀(v:Value) (γ:Nat->Value),kv v γ=v) /\
  (∀(α:Type) (d a:α) (l:List α),(a::l).getD 0 d=a)/\(∀(α:Type) (d a:α) (l:List α) (n:Nat),(a::l).getD (n+1) d=l.getD n d) /\
  (∀(a:Act) (t:Nat) (v:Value),a.put (some t) v={ a with tmps:=a.tmps.setIfInBounds t v })/\(∀(α:Type) (l:List α) (i:Nat) (a:α),l.toArray.setIfInBounds i a=(l.set i a).toArray) /\
  (∀(α:Type) (a b:α) (l:List α),(a::l).set 0 b=b::l)/\(∀(α:Type) (a b:α) (l:List α) (n:Nat),(a::l).set (n+1) b=a::l.set n b) /\
  (∀(α:Type) (l:List α),l.toArray.toList=l)/\(∀(α:Type) (a:α) (l:List α) (n:Nat),(a::l).drop (n+1)=l.drop n)/\(∀(α:Type) (l:List α),l.drop 0=l)/\(∀(α:Type) (n:Nat),([]:List α).drop n=[])/\(∀ n:Nat,0+n=n):=
 ⟨fun _ _ _=>rfl,fun _ _ _ _ _=>rfl,fun _ _ _=>rfl,fun _ _=>rfl,fun _ _ _ _=>rfl,fun _ _ _ _ _=>rfl,fun _ _ _=>rfl,fun _ _ _ _=>Ac,fun _ _ _ _=>rfl,fun _ _ _ _ _=>rfl,fun _ _=>rfl,fun _ _ _ _=>rfl,fun _ _=>rfl,fun _ _=>Ac,fun _=>Ac⟩
theorem Bi{A:World->Prop}{B:(Nat->Value)->World->Prop}{H:(Nat->Value)->World->(Value->World->Prop)->Prop}{C:(Nat->Value)->World->(Value->World->Prop)->Prop}
  (h:∀ γ w,A w->∀ R,H γ w R->C γ w R) (γ:Nat->Value) (w:World) (a:A w) (_:B γ w):True/\∀ R,H γ w R->C γ w R:=⟨trivial,fun R=>h γ w a R⟩
theorem Gj{A:World->Prop}{B:(Nat->Value)->World->Prop}{H:(Nat->Value)->World->(Value->World->Prop)->Prop}{C:(Nat->Value)->World->(Value->World->Prop)->Prop}
  (h:∀ γ w,A w->B γ w->∀ R,H γ w R->C γ w R) (γ:Nat->Value) (w:World) (a:A w) (b:B γ w):True/\∀ R,H γ w R->C γ w R:=⟨trivial,fun R=>h γ w a b R⟩
theorem IG:(∀(α:Type) (l:List α),l.toArray.toList=l)/\(∀(α:Type) (a:α) (l:List α) (n:Nat),(a::l).drop (n+1)=l.drop n)/\(∀(α:Type) (l:List α),l.drop 0=l)/\(∀(α:Type) (n:Nat),([]:List α).drop n=[]) /\
  (∀(α:Type) (a:α) (l:List α) (n:Nat),(a::l).take (n+1)=a::l.take n)/\(∀(α:Type) (l:List α),l.take 0=[]):=
 ⟨fun _ _=>rfl,fun _ _ _ _=>rfl,fun _ _=>rfl,fun _ _=>Ac,fun _ _ _ _=>rfl,fun _ _=>rfl⟩
theorem Xl:(∀(α:Type) (d:α) (x:Array α) (i:Nat),x.getD i d=x[i]?.getD d)/\(∀(α:Type) (l:List α) (i:Nat),l.toArray[i]? = l[i]?)/\(∀(α:Type) (a:α) (l:List α) (i:Nat),(a::l)[i+1]? = l[i]?) /\
  (∀(α:Type) (a:α) (l:List α),(a::l)[0]? = some a)/\(∀(α:Type) (a d:α),(some a).getD d=a):=
 ⟨fun _ _ _ _=>Ac,fun _ _ _=>Ac,fun _ _ _ _=>Ac,fun _ _ _=>Ac,fun _ _ _=>rfl⟩
end Go.Hp
namespace Go
theorem Af{p:Prop}(h:p):RowKit.Hid p:=Lib.hid h
end Go
namespace Go.Hp
theorem Po{ds:List Nat}{m:Nat}(h:ds.take m=trim ds)(hm:m<=ds.length):(trim ds).length=m:=by rw[<-h,List.length_take];omega
open Go.RowKit
theorem AO.digs{w:World}{v:Value}{x:Int}(h:AO w v x):∃ A c ds,v = .agg #[.bool (decide (x < 0)),.slice A (sz x.natAbs) c]/\FP w A ds/\ds.length=sz x.natAbs/\nv ds=x.natAbs/\Bc ds/\sz x.natAbs<=c/\c<=9223372036854775807:=by
 obtain⟨A,c,e,h1,h2,hN⟩:=h.form;obtain⟨ds,hD,hn,ht,hl⟩:=hN.len;obtain⟨A',c',he,q1,q2,q3⟩:=hD;simp only[Value.slice.injEq]at he;obtain⟨rfl,_,_⟩:=he;exact⟨A,c,ds,e,q3,hl,hn,q3.1,h1,h2⟩
theorem Wv{x y:Int}(h:x.natAbs=y.natAbs)(hs:decide (x < 0)=decide (y < 0)):x=y:=by
 by_cases hx:x < 0<;>by_cases hy:y < 0<;>simp[hx,hy]at hs<;>omega
theorem Zz{ds es:List Nat}(hl:ds.length=es.length)(h:∀ j,j < ds.length->dg ds j=dg es j):ds=es:=by
 apply List.ext_getElem hl
 intro i h1 h2;have:=h i h1;rwa[DN h1,DN h2]at this
def qsz(q:Rat):Nat:=max (sz q.num.natAbs) (sz q.den)
def BX(w:World)(v:Value)(q:Rat):Prop:=∃ b A n c b' A' n' c',v = .agg #[.bool b,.slice A n c,.bool b',.slice A' n' c']/\AO w (.agg #[.bool b,.slice A n c]) q.num/\AO w (.agg #[.bool b',.slice A' n' c']) (q.den:Int)
def Ce(w:World)(v:Value)(q:Rat):Prop:=∃ b A n c b' A' n' c' x y,v = .agg #[.bool b,.slice A n c,.bool b',.slice A' n' c']/\Bj w (.agg #[.bool b,.slice A n c]) x/\Bj w (.agg #[.bool b',.slice A' n' c']) y/\sz x.natAbs<=274877906944/\sz y.natAbs<=274877906944/\q=Rat.divInt x y
theorem BX.kd{w w':World}{v:Value}{q:Rat}(h:BX w v q)(k:KD w w'):BX w' v q:=by
 obtain⟨b,A,n,c,b',A',n',c',rfl,h1,h2⟩:=h;exact⟨b,A,n,c,b',A',n',c',rfl,h1.kd k,h2.kd k⟩
theorem Ce.kd{w w':World}{v:Value}{q:Rat}(h:Ce w v q)(k:KD w w'):Ce w' v q:=by
 obtain⟨b,A,n,c,b',A',n',c',x,y,rfl,h1,h2,h3⟩:=h;exact⟨b,A,n,c,b',A',n',c',x,y,rfl,h1.kd k,h2.kd k,h3⟩
theorem BX.ext{w w':World}{v:Value}{q:Rat}(h:BX w v q)(k:Ext w w'):BX w' v q:=h.kd k.kd
theorem Ce.ext{w w':World}{v:Value}{q:Rat}(h:Ce w v q)(k:Ext w w'):Ce w' v q:=h.kd k.kd
theorem BX.has{w:World}{v:Value}{q:Rat}(h:BX w v q)(hs:qsz q<=274877906944):Ce w v q:=by
 obtain⟨b,A,n,c,b',A',n',c',rfl,h1,h2⟩:=h;unfold qsz at hs;have e:((q.den:Nat):Int).natAbs=q.den:=by simp
 exact⟨b,A,n,c,b',A',n',c',_,_,rfl,h1.has Aa,h2.has (by rw[e];omega),Aa,by rw[e];omega,(Rat.num_divInt_den q).symm⟩
theorem Nv(x y:Int):(Rat.divInt x y).num.natAbs<=x.natAbs:=by
 rw[Rat.num_divInt];by_cases h:y=0
 ·subst h;simp
 ·rw[Int.natAbs_ediv_of_dvd]
  ·refine Nat.le_trans (Nat.div_le_self _ _) ?_
   rw[Int.natAbs_mul,Int.natAbs_sign_of_ne_zero h,Nat.one_mul];exact Nat.le_refl _
  ·exact Int.dvd_trans (Int.gcd_dvd_right ..) (Int.dvd_mul_left ..)
theorem Nh(x y:Int)(h:y≠0):(Rat.divInt x y).den<=y.natAbs:=by
 rw[Rat.den_divInt,if_neg h];exact Nat.div_le_self _ _
theorem Dp{x y:Int}{k:Nat}(hx:sz x.natAbs<=k)(hy:sz y.natAbs<=k)(hk:1<=k):qsz (Rat.divInt x y)<=k:=by
 unfold qsz;have h1:=Bq (Nv x y);by_cases h:y=0
 ·subst h
  have:sz (Rat.divInt x 0).den=1:=by rw[Rat.divInt_zero];rfl
  rw[this];omega
 ·have h2:=Bq (Nh x y h)
  omega
theorem Ce.qsz{w:World}{v:Value}{q:Rat}(h:Ce w v q):qsz q<=274877906944:=by
 obtain⟨b,A,n,c,b',A',n',c',x,y,rfl,h1,h2,h3,h4,rfl⟩:=h;exact Dp h3 h4 Aa
theorem FW(q:Rat):1<=qsz q:=by
 have:=Es q.den_nz;unfold qsz;omega
theorem CW(a b:Rat):qsz (a*b)<=qsz a+qsz b:=by
 rw[Rat.mul_def',<-Rat.divInt_ofNat];have h1:=FW a;have h2:=BV a.num.natAbs b.num.natAbs;have h3:=BV a.den b.den;refine Dp ?_ ?_ Aa
 ·rw[Int.natAbs_mul];unfold qsz;omega
 ·simp only[Int.natAbs_natCast];unfold qsz;omega
theorem Fb(a b:Rat):qsz (a+b)<=qsz a+qsz b+1:=by
 rw[Rat.add_def',<-Rat.divInt_ofNat];have h1:=FW a;have h3:=BV a.den b.den;refine Dp ?_ ?_ Aa
 ·have h4:=Bq (Int.natAbs_add_le (a.num*b.den) (b.num*a.den))
  have h5:=GX (a.num*b.den).natAbs (b.num*a.den).natAbs;rw[Int.natAbs_mul,Int.natAbs_mul,Int.natAbs_natCast,Int.natAbs_natCast]at h5;have h6:=BV a.num.natAbs b.den;have h7:=BV b.num.natAbs a.den;rw[Int.natAbs_mul,Int.natAbs_mul,Int.natAbs_natCast,Int.natAbs_natCast]at h4;unfold qsz;omega
 ·simp only[Int.natAbs_natCast];unfold qsz;omega
theorem IU(a:Rat):qsz (-a)=qsz a:=by unfold qsz;simp
theorem Tu(a b:Rat):qsz (a - b)<=qsz a+qsz b+1:=by
 rw[Rat.sub_eq_add_neg];have:=Fb a (-b);rw[IU]at this;exact this
theorem PD(a:Rat):qsz (a⁻¹)<=qsz a:=by
 rw[Rat.inv_def];have h1:=FW a;refine Dp ?_ ?_ h1
 ·simp only[Int.natAbs_natCast];unfold qsz;omega
 ·unfold qsz;omega
theorem J5(a b:Rat):qsz (a / b)<=qsz a+qsz b:=by
 rw[Rat.div_def];have:=CW a b⁻¹;have:=PD b;omega
section
variable{α:Type}
def Dr(k:Nat)(rd:World->Value->α->Prop)(base:Nat)(w:World)(A:Option Addr)(l:List α):Prop:=
 0 < l.length->∃ g o,A=some ⟨g,o,none⟩/\base<=g/\∀ j (h:j < l.length),∃ cs:Array Value,cs.size=k/\(∀ i,i < k->w.cell? ⟨g,o+j*k+i,none⟩=cs[i]?)/\rd w (.agg cs) l[j]
def CU(k:Nat)(rd:World->Value->α->Prop)(base:Nat)(w:World)(v:Value)(l:List α):Prop:=
 ∃ A c,v = .slice A l.length c/\l.length<=c/\c<=9223372036854775807/\Dr k rd base w A l
variable{k:Nat}{rd:World->Value->α->Prop}{base:Nat}{w w':World}{v:Value}{l:List α}{A:Option Addr}
theorem Dr.ext(h:Dr k rd base w A l)(e:Ext w w')(hr:∀ u x,rd w u x->rd w' u x):Dr k rd base w' A l:=fun h0=>by
 obtain⟨g,o,ha,hb,hc⟩:=h h0;refine⟨g,o,ha,hb,fun j hj=>?_⟩;obtain⟨cs,h1,h2,h3⟩:=hc j hj;refine⟨cs,h1,fun i hi=>?_,hr _ _ h3⟩;have hs:cs[i]? = some cs[i]:=Array.getElem?_eq_getElem Aa;rw[hs];exact e.cell ((h2 i hi).trans hs)
theorem CU.ext(h:CU k rd base w v l)(e:Ext w w')(hr:∀ u x,rd w u x->rd w' u x):CU k rd base w' v l:=by
 obtain⟨A,c,h1,h2,h3,h4⟩:=h;exact⟨A,c,h1,h2,h3,h4.ext e hr⟩
theorem Dr.base_le(h:Dr k rd base w A l){b:Nat}(hb:b<=base):Dr k rd b w A l:=fun h0=>by
 obtain⟨g,o,ha,hb',hc⟩:=h h0;exact⟨g,o,ha,Nat.le_trans hb hb',hc⟩
theorem CU.base_le(h:CU k rd base w v l){b:Nat}(hb:b<=base):CU k rd b w v l:=by
 obtain⟨A,c,h1,h2,h3,h4⟩:=h;exact⟨A,c,h1,h2,h3,h4.base_le hb⟩
theorem CU.nil(k:Nat)(rd:World->Value->α->Prop)(base:Nat)(w:World):CU k rd base w (.slice none 0 0) []:=
 ⟨none,0,rfl,Nat.le_refl 0,Aa,fun h=>absurd h Ac⟩
theorem CU.upd{G:List Nat}(h:CU k rd base w v l)(U:Cc G w w')(hG:∀ g∈G,g < base)(hr:∀ u x,rd w u x->rd w' u x):CU k rd base w' v l:=by
 obtain⟨A,c,h1,h2,h3,h4⟩:=h;refine⟨A,c,h1,h2,h3,fun h0=>?_⟩;obtain⟨g,o,ha,hb,hc⟩:=h4 h0;refine⟨g,o,ha,hb,fun j hj=>?_⟩;obtain⟨cs,q1,q2,q3⟩:=hc j hj;refine⟨cs,q1,fun i hi=>?_,hr _ _ q3⟩;rw[<-q2 i hi];have hs:cs[i]? = some cs[i]:=Array.getElem?_eq_getElem Aa;have hcell:=(q2 i hi).trans hs;have hlt:=World.block_lt_of_cell? w _ hcell;have hblk:=U.1 g w.heap[g] (fun hm=>by have:=hG g hm;omega) (Array.getElem?_eq_getElem hlt)
 unfold World.cell?;simp only[hblk,Array.getElem?_eq_getElem hlt]
theorem Dr.take(h:Dr k rd base w A l)(n:Nat):Dr k rd base w A (l.take n):=fun h0=>by
 have hl:(l.take n).length<=l.length:=List.length_take_le' _ _;obtain⟨g,o,ha,hb,hc⟩:=h Aa;refine⟨g,o,ha,hb,fun j hj=>?_⟩;obtain⟨cs,q1,q2,q3⟩:=hc j Aa;exact⟨cs,q1,q2,by rw[List.getElem_take];exact q3⟩
theorem CU.len(h:CU k rd base w v l):∃ A c,v = .slice A l.length c:=by obtain⟨A,c,h1,_⟩:=h;exact⟨A,c,h1⟩
end
/-! ### fractions -/
def PW(base:Nat)(w:World)(v:Value)(l:List Rat):Prop:=CU 4 BX base w v l
def Mr(base:Nat)(w:World)(A:Option Addr)(l:List Rat):Prop:=Dr 4 BX base w A l
def Qb(base:Nat)(w:World)(v:Value)(l:List Rat):Prop:=CU 4 Ce base w v l
def Vv(base:Nat)(w:World)(A:Option Addr)(l:List Rat):Prop:=Dr 4 Ce base w A l
theorem PW.ext{base:Nat}{w w':World}{v:Value}{l:List Rat}(h:PW base w v l)(e:Ext w w'):PW base w' v l:=CU.ext h e fun _ _ q=>q.ext e
theorem Qb.ext{base:Nat}{w w':World}{v:Value}{l:List Rat}(h:Qb base w v l)(e:Ext w w'):Qb base w' v l:=CU.ext h e fun _ _ q=>q.ext e
theorem Vv.ext{base:Nat}{w w':World}{A:Option Addr}{l:List Rat}(h:Vv base w A l)(e:Ext w w'):Vv base w' A l:=Dr.ext h e fun _ _ q=>q.ext e
theorem Mr.ext{base:Nat}{w w':World}{A:Option Addr}{l:List Rat}(h:Mr base w A l)(e:Ext w w'):Mr base w' A l:=Dr.ext h e fun _ _ q=>q.ext e
theorem V8{cs:Array Value}{a b c d:Value}(e:Value.agg cs = .agg #[a,b,c,d]):cs=#[a,b,c,d]:=by injection e
theorem Vv.at_{base:Nat}{w:World}{A:Option Addr}{l:List Rat}(h:Vv base w A l){j:Nat}(hj:j < l.length) :
  ∃ g o b A1 n c b' A1' n' c',A=some ⟨g,o,none⟩/\base<=g/\w.cell? ⟨g,o+j*4,none⟩=some (.bool b)/\w.cell? ⟨g,o+j*4+1,none⟩=some (.slice A1 n c)/\w.cell? ⟨g,o+j*4+2,none⟩=some (.bool b')/\w.cell? ⟨g,o+j*4+3,none⟩=some (.slice A1' n' c')/\Ce w (.agg #[.bool b,.slice A1 n c,.bool b',.slice A1' n' c']) l[j]:=by
 obtain⟨g,o,ha,hb,hc⟩:=h Aa;obtain⟨cs,q1,q2,q3⟩:=hc j hj;have hf:=q3;obtain⟨b,A1,n,c,b',A1',n',c',x,y,e,_⟩:=hf;obtain rfl:=V8 e;exact⟨g,o,b,A1,n,c,b',A1',n',c',ha,hb,q2 0 Aa,q2 1 Aa,q2 2 Aa,q2 3 Aa,q3⟩
theorem Mr.at_{base:Nat}{w:World}{A:Option Addr}{l:List Rat}(h:Mr base w A l){j:Nat}(hj:j < l.length) :
  ∃ g o b A1 n c b' A1' n' c',A=some ⟨g,o,none⟩/\base<=g/\w.cell? ⟨g,o+j*4,none⟩=some (.bool b)/\w.cell? ⟨g,o+j*4+1,none⟩=some (.slice A1 n c)/\w.cell? ⟨g,o+j*4+2,none⟩=some (.bool b')/\w.cell? ⟨g,o+j*4+3,none⟩=some (.slice A1' n' c')/\BX w (.agg #[.bool b,.slice A1 n c,.bool b',.slice A1' n' c']) l[j]:=by
 obtain⟨g,o,ha,hb,hc⟩:=h Aa;obtain⟨cs,q1,q2,q3⟩:=hc j hj;have hf:=q3;obtain⟨b,A1,n,c,b',A1',n',c',e,_⟩:=hf;obtain rfl:=V8 e;exact⟨g,o,b,A1,n,c,b',A1',n',c',ha,hb,q2 0 Aa,q2 1 Aa,q2 2 Aa,q2 3 Aa,q3⟩
theorem BX.num_len{w:World}{b b':Bool}{A A':Option Addr}{n c n' c':Nat}{q:Rat}(h:BX w (.agg #[.bool b,.slice A n c,.bool b',.slice A' n' c']) q):n=sz q.num.natAbs:=by
 obtain⟨_,_,_,_,_,_,_,_,e,h1,_⟩:=h;have e:=V8 e;simp only[Array.mk.injEq,List.cons.injEq,Value.bool.injEq,Value.slice.injEq,and_true]at e;obtain⟨rfl,⟨rfl,rfl,rfl⟩,_⟩:=e;obtain⟨A2,c2,e,_⟩:=h1.form;simp only[Value.agg.injEq,Array.mk.injEq,List.cons.injEq,Value.slice.injEq,and_true]at e;exact e.2.2.1
def BN(l:List Rat):List Rat:=(l.reverse.dropWhile (· == 0)).reverse
theorem DU(l:List Rat):BN (l ++ [0])=BN l:=by simp[BN]
theorem GY(l:List Rat)(d:Rat)(h:d≠0):BN (l ++ [d])=l ++ [d]:=by simp[BN,h]
theorem Fv{α:Type}{p:List α->Prop}(h0:p [])(h1:∀ l d,p l->p (l ++ [d])):∀ l,p l:=by
 intro l;have:=List.reverse_reverse l;generalize l.reverse=m at this;subst this;induction m with
 | nil=>exact h0
 | cons a m ih=>rw[List.reverse_cons];exact h1 _ _ ih
theorem Fg(l:List Rat):BN l=l.take (BN l).length:=by
 refine Fv (p:=fun l=>BN l=l.take (BN l).length) rfl (fun l d ih=>?_) l;by_cases h:d=0
 ·subst h
  rw[DU];have hl:(BN l).length<=l.length:=by rw[ih];exact List.length_take_le' _ _
  rw[List.take_append_of_le_length hl];exact ih
 ·rw[GY _ _ h,List.take_of_length_le (Nat.le_refl _)]
theorem NL(l:List Rat):(BN l).length<=l.length:=by rw[Fg];exact List.length_take_le' _ _
theorem JB{l:List Rat}{m:Nat}(hm:m<=l.length)(hz:∀ j,m<=j->(h:j < l.length)->l[j]=0)(hlast:∀ h:m - 1 < l.length,0 < m->l[m - 1]≠0):BN l=l.take m:=by
 have h1:l=l.take m ++ List.replicate (l.length - m) 0:=by
  apply List.ext_getElem
  ·simp;omega
  ·intro i h1 h2
   rw[List.getElem_append]
   split
   ·simp
   ·rename_i h;simp at h;simp;exact hz i Aa h1
 have h2:∀ n (xs:List Rat),BN (xs ++ List.replicate n 0)=BN xs:=by
  intro n;induction n with
  | zero=>intro xs;simp
  | succ n ih=>intro xs;rw[List.replicate_succ',<-List.append_assoc,DU,ih]
 have h3:BN (l.take m)=l.take m:=by
  rcases Nat.eq_zero_or_pos m with h0 | h0
  ·subst h0;rfl
  ·obtain⟨m,rfl⟩:∃ k,m=k+1:=⟨m - 1,Aa⟩
   rw[List.take_succ_eq_append_getElem Aa];exact GY _ _ (hlast Aa h0)
 calc BN l=BN (l.take m ++ List.replicate (l.length - m) 0):=by rw[<-h1]
  _=_:=by rw[h2,h3]
def iE:Value := .agg #[.bool false,.slice none 0 0,.bool false,.slice none 0 0]
def ZG(w:World)(v:Value):Option Rat->Prop
 | none=>v=iE
 | some q=>BX w v q
theorem ZG.kd{w w':World}{v:Value}{x:Option Rat}(h:ZG w v x)(k:KD w w'):ZG w' v x:=by
 cases x with
 | none=>exact h
 | some q=>exact BX.kd h k
theorem ZG.form{w:World}{v:Value}{x:Option Rat}(h:ZG w v x):∃ b A n c b' A' n' c',v = .agg #[.bool b,.slice A n c,.bool b',.slice A' n' c']:=by
 cases x with
 | none=>exact⟨_,_,_,_,_,_,_,_,h⟩
 | some q=>obtain⟨b,A,n,c,b',A',n',c',e,_⟩:=h;exact⟨_,_,_,_,_,_,_,_,e⟩
def CS(w:World)(g:Nat)(t:TypeId)(l:List (Option Rat)):Prop:=
 ∃ cs,Ba w g t cs/\l.length*4<=cs.size/\∀ j (h:j < l.length),∃ b A n c b' A' n' c',cs[j*4]? = some (.bool b)/\cs[j*4+1]? = some (.slice A n c)/\cs[j*4+2]? = some (.bool b')/\cs[j*4+3]? = some (.slice A' n' c')/\ZG w (.agg #[.bool b,.slice A n c,.bool b',.slice A' n' c']) l[j]
section
variable{w w':World}{g:Nat}{t:TypeId}{l:List (Option Rat)}
theorem CS.lt(h:CS w g t l):g < w.heap.size:=by obtain⟨cs,h1,_⟩:=h;exact h1.lt
theorem CS.frozen(h:CS w g t l)(i:Nat):w.frozen? ⟨g,i,none⟩=false:=by obtain⟨cs,h1,_⟩:=h;exact h1.frozen i
theorem CS.ext(h:CS w g t l)(e:Ext w w'):CS w' g t l:=by
 obtain⟨cs,h1,h2,h3⟩:=h;refine⟨cs,h1.ext e,h2,fun j hj=>?_⟩;obtain⟨b,A,n,c,b',A',n',c',q0,q1,q2,q3,q⟩:=h3 j hj;exact⟨b,A,n,c,b',A',n',c',q0,q1,q2,q3,q.kd e.kd⟩
theorem CS.upd{G:List Nat}(h:CS w g t l)(U:Cc G w w')(hg:g∉G):CS w' g t l:=by
 obtain⟨cs,h1,h2,h3⟩:=h;refine⟨cs,h1.upd U hg,h2,fun j hj=>?_⟩;obtain⟨b,A,n,c,b',A',n',c',q0,q1,q2,q3,q⟩:=h3 j hj;exact⟨b,A,n,c,b',A',n',c',q0,q1,q2,q3,q.kd U.kd⟩
theorem CS.at_(h:CS w g t l){j:Nat}(hj:j < l.length) :
  ∃ b A n c b' A' n' c',w.cell? ⟨g,j*4,none⟩=some (.bool b)/\w.cell? ⟨g,j*4+1,none⟩=some (.slice A n c)/\w.cell? ⟨g,j*4+2,none⟩=some (.bool b')/\w.cell? ⟨g,j*4+3,none⟩=some (.slice A' n' c')/\ZG w (.agg #[.bool b,.slice A n c,.bool b',.slice A' n' c']) l[j]:=by
 obtain⟨cs,h1,h2,h3⟩:=h;obtain⟨b,A,n,c,b',A',n',c',q0,q1,q2,q3,q⟩:=h3 j hj;exact⟨b,A,n,c,b',A',n',c',h1.cell q0,h1.cell q1,h1.cell q2,h1.cell q3,q⟩
theorem CS.put(h:CS w g t l){k:Nat}(hk:k < l.length){b b':Bool}{A A':Option Addr}{n c n' c':Nat}{q:Rat}(hq:BX w (.agg #[.bool b,.slice A n c,.bool b',.slice A' n' c']) q) :
  ∃ W,W=(((w.setCell ⟨g,k*4,none⟩ (.bool b)).setCell ⟨g,k*4+1,none⟩ (.slice A n c)).setCell ⟨g,k*4+2,none⟩ (.bool b')).setCell ⟨g,k*4+3,none⟩ (.slice A' n' c')/\CS W g t (l.set k (some q))/\Cc [g] w W:=by
 obtain⟨cs,h1,h2,h3⟩:=h;have B1:=h1.set_ (k*4) (u := .bool b) rfl;have B2:=B1.set_ (k*4+1) (u := .slice A n c) rfl;have B3:=B2.set_ (k*4+2) (u := .bool b') rfl;have B4:=B3.set_ (k*4+3) (u := .slice A' n' c') rfl;have U:Cc [g] w _:=(((Cc.set_ h1.nodig (k*4) (.bool b)).trans (Cc.set_ B1.nodig (k*4+1) (.slice A n c))).trans (Cc.set_ B2.nodig (k*4+2) (.bool b'))).trans (Cc.set_ B3.nodig (k*4+3) (.slice A' n' c'))
 refine⟨_,rfl,⟨_,B4,by simpa using h2,fun j hj=>?_⟩,U⟩;have hj':j < l.length:=by simpa using hj
 by_cases e:j=k
 ·subst e
  refine⟨b,A,n,c,b',A',n',c',?_,?_,?_,?_,?_⟩
  ·rw[Array.getElem?_setIfInBounds_ne Aa,Array.getElem?_setIfInBounds_ne Aa,Array.getElem?_setIfInBounds_ne Aa,Array.getElem?_setIfInBounds,if_pos rfl,if_pos Aa]
  ·rw[Array.getElem?_setIfInBounds_ne Aa,Array.getElem?_setIfInBounds_ne Aa,Array.getElem?_setIfInBounds,if_pos rfl,if_pos Dq]
  ·rw[Array.getElem?_setIfInBounds_ne Aa,Array.getElem?_setIfInBounds,if_pos rfl,if_pos Dq]
  ·rw[Array.getElem?_setIfInBounds,if_pos rfl,if_pos Dq]
  ·rw[List.getElem_set_self]
   exact hq.kd U.kd
 ·obtain⟨b,A,n,c,b',A',n',c',q0,q1,q2,q3,q⟩:=h3 j hj'
  refine⟨b,A,n,c,b',A',n',c',?_,?_,?_,?_,?_⟩
  ·rw[Array.getElem?_setIfInBounds_ne Aa,Array.getElem?_setIfInBounds_ne Aa,Array.getElem?_setIfInBounds_ne Aa,Array.getElem?_setIfInBounds_ne Aa];exact q0
  ·rw[Array.getElem?_setIfInBounds_ne Aa,Array.getElem?_setIfInBounds_ne Aa,Array.getElem?_setIfInBounds_ne Aa,Array.getElem?_setIfInBounds_ne Aa];exact q1
  ·rw[Array.getElem?_setIfInBounds_ne Aa,Array.getElem?_setIfInBounds_ne Aa,Array.getElem?_setIfInBounds_ne Aa,Array.getElem?_setIfInBounds_ne Aa];exact q2
  ·rw[Array.getElem?_setIfInBounds_ne Aa,Array.getElem?_setIfInBounds_ne Aa,Array.getElem?_setIfInBounds_ne Aa,Array.getElem?_setIfInBounds_ne Aa];exact q3
  ·rw[List.getElem_set_ne Aa];exact q.kd U.kd
theorem CS.new(w:World)(t:TypeId)(n:Nat):CS (w.alloc (.cells (madeCells #[.bool false,.slice none 0 0,.bool false,.slice none 0 0] (n*4)) t)) w.heap.size t (List.replicate n none):=by
 have key:∀ j i v,j < n->i < 4->#[Value.bool false,.slice none 0 0,.bool false,.slice none 0 0][i]? = some v->(madeCells #[Value.bool false,.slice none 0 0,.bool false,.slice none 0 0] (n*4))[j*4+i]? = some v:=by
  intro j i v hj hi hv;rw[Array.getElem?_eq_getElem (by rw[size_madeCells];omega)];simp only[madeCells,Array.getElem_map,Array.getElem_range];rw[show(j*4+i) % #[Value.bool false,.slice none 0 0,.bool false,.slice none 0 0].size=i from by show(j*4+i) % 4=i;omega]
  match i,hi with
  | 0,_=>exact hv
  | 1,_=>exact hv
  | 2,_=>exact hv
  | 3,_=>exact hv
 refine⟨_,Ba.new w t _ ?_,by rw[size_madeCells,List.length_replicate];exact Nat.le_refl _,fun j hj=>?_⟩
 ·rw[Array.all_eq_true]
  intro i hi;have hi':i < n*4:=by rw[size_madeCells]at hi;exact hi
  have hs:=Array.getElem?_eq_getElem hi;generalize (madeCells #[Value.bool false,Value.slice none 0 0,Value.bool false,Value.slice none 0 0] (n*4))[i]=u at *;have h4:i % 4=0\/i % 4=1\/i % 4=2\/i % 4=3:=by omega
  rcases h4 with h | h | h | h
  ·have:=key (i / 4) 0 _ Aa Aa rfl
   rw[show i / 4*4+0=i from Aa,hs]at this;cases this;rfl
  ·have:=key (i / 4) 1 _ Aa Aa rfl
   rw[show i / 4*4+1=i from Aa,hs]at this;cases this;rfl
  ·have:=key (i / 4) 2 _ Aa Aa rfl
   rw[show i / 4*4+2=i from Aa,hs]at this;cases this;rfl
  ·have:=key (i / 4) 3 _ Aa Aa rfl
   rw[show i / 4*4+3=i from Aa,hs]at this;cases this;rfl
 ·have hj':j < n:=by simpa using hj
  exact⟨false,none,0,0,false,none,0,0,key j 0 _ hj' Aa rfl,key j 1 _ hj' Aa rfl,key j 2 _ hj' Aa rfl,key j 3 _ hj' Aa rfl,by simp[ZG,iE]⟩
theorem CS.row(h:CS w g t l){m:List Rat}(hm:l=m.map some){base:Nat}(hb:base<=g):Mr base w (some ⟨g,0,none⟩) m:=fun _=>by
 subst hm;obtain⟨cs,h1,h2,h3⟩:=h;refine⟨g,0,rfl,hb,fun j hj=>?_⟩;obtain⟨b,A,n,c,b',A',n',c',q0,q1,q2,q3,q⟩:=h3 j (by simpa using hj);refine⟨_,rfl,?_,by simpa[ZG] using q⟩;intro i hi
 match i,hi with
 | 0,_=>simpa using h1.cell q0
 | 1,_=>simpa using h1.cell q1
 | 2,_=>simpa using h1.cell q2
 | 3,_=>simpa using h1.cell q3
end
def nodig(cs:Array Value):Bool:=cs.all fun u=>!Ah u
def Ld(k:Nat)(base:Nat)(e:TypeId)(w:World)(v:Value)(n:Nat)(xs:List Value):Prop:=
 xs.length=n*k/\((v = .slice none 0 0/\n=0)\/∃ g cap cur,v = .slice (some ⟨g,0,none⟩) n cap/\base<=g/\Ba w g e cur/\n<=cap/\cap<=maxLen/\cur.size=cap*k/\cur.toList.take (n*k)=xs)
def blk(v:Value):List Nat:=v.ownBlock.toList
theorem Ld.owns{k base:Nat}{e:TypeId}{w:World}{v:Value}{n:Nat}{xs:List Value}(h:Ld k base e w v n xs):w.ownsRow base e k v n xs:=by
 obtain⟨h1,h2⟩:=h;refine⟨h1,?_⟩;rcases h2 with h2 | ⟨g,cap,cur,a,b,c,d⟩
 ·exact .inl h2
 ·exact .inr ⟨g,cap,cur,a,b,c.1,d⟩
theorem BQ{cs:Array Value}:cs.all (fun u=>!Ah u)=true↔∀ u∈cs.toList,Ah u=false:=by
 rw[Array.all_eq_true_iff_forall_mem];constructor
 ·intro h u hu;simpa using h u (by simpa using hu)
 ·intro h u hu;simpa using h u (by simpa using hu)
theorem Ms{w w':World}{g:Nat}{e:TypeId}{cur:Array Value}(hb:Ba w g e cur)(ho:∀ h,h≠g->h < w.heap.size->w'.heap[h]? = w.heap[h]?):KD w w':=by
 intro p n hp;have hlt:=World.block_lt_of_cell? w p hp;by_cases e':p.block=g
 ·exfalso
  obtain⟨pb,po,ps⟩:=p;simp only at e';subst e';have:ps=none:=by
   unfold World.cell? at hp;simp only[hb.1]at hp;cases ps with
   | none=>rfl
   | some _=>simp at hp
  subst this;exact hb.nodig po n hp
 ·rw[World.cell?_of_block (ho _ e' hlt)];exact hp
section
variable{P:Program}
theorem MG(w:World)(k base:Nat)(t ty e:TypeId)(i:TypeInfo)(z:Value)(bytes:Nat)(ht:P.underlying t=some (.slice e))(hi:P.info? e=some i)(hz:i.zero=some z)
  (hsize:i.size=k) (hby:i.bytes=bytes) (hzs:z.cells.size=k) (hzd:nodig z.cells=true) (hsz:0 < k)
  (v:Value) (n:Nat) (xs:List Value) (hown:Ld k base e w v n xs)
  (a:Addr) (c:Nat) (news:List Value) (hl:news.length=k) (hnews:∀ j u,news[j]? = some u->w.cell? (a.add j)=some u) (h1:∀ u∈news,u.oneCell'=true) (hnd:∀ u∈news,Ah u=false)
  (h63:n+1<=maxLen) (hbytes:(n+1)*bytes<=140737488355328) (hbase:base<=w.heap.size) :
  ∃ v' w',(Builtin.append_ #[t,t] ty #[v,.slice (some a) 1 c]).run P w = .ok v' w'/\Ld k base e w' v' (n+1) (xs ++ news)/\Cc (blk v) w w':=by
 subst hsize;subst hby;have hl':news.length=1*i.size:=by rw[Nat.one_mul];exact hl
 have hlen:(xs ++ news).length=(n+1)*i.size:=by rw[List.length_append,hown.1,hl,Nat.succ_mul]
 have hsmall:n+1<=9223372036854775807:=by simp only[maxLen]at h63;omega
 have hzl:=BQ.1 hzd;have hzc:∀ m,∀ u∈(Builtin.zeroCells z.cells m).toList,Ah u=false:=by
  intro m u hu;simp only[Builtin.zeroCells,Array.toList_map,Array.toList_range,List.mem_map,List.mem_range]at hu;obtain⟨j,hj,rfl⟩:=hu;have:j % z.cells.size < z.cells.size:=Nat.mod_lt _ Aa;rw[getElem!_pos z.cells _ this];exact hzl _ Ac
 have hxd:∀ u∈xs,Ah u=false:=by
  rcases hown.2 with⟨_,h0⟩ | ⟨g,cap,cur,_,_,hb,_,_,_,htake⟩
  ·intro u hu
   have:xs=[]:=List.eq_nil_of_length_eq_zero (by rw[hown.1,h0,Nat.zero_mul]);rw[this]at hu;cases hu
  ·intro u hu
   rw[<-htake]at hu;exact BQ.1 hb.2 _ (List.mem_of_mem_take hu)
 have grown:∀(old:Nat),old < n+1 ->
   Ld i.size base e (w.drew.alloc (.cells (xs.toArray ++ news.toArray ++ Builtin.zeroCells z.cells (grownCap w (n+1) old e - (n+1))) e)) (.slice (some ⟨w.heap.size,0,none⟩) (n+1) (grownCap w (n+1) old e)) (n+1) (xs ++ news) /\
   ∀ G,Cc G w (w.drew.alloc (.cells (xs.toArray ++ news.toArray ++ Builtin.zeroCells z.cells (grownCap w (n+1) old e - (n+1))) e)):=by
  intro old ho;have hge:=grownCap_ge w (n+1) old e;have hcm:grownCap w (n+1) old e<=maxLen:=grownCap_le_maxLen w (n+1) old e h63;refine⟨⟨hlen,.inr ⟨w.heap.size,_,_,rfl,hbase,⟨heap_alloc_new w.drew _,?_⟩,hge,hcm,?_,?_⟩⟩,fun G=>Cc.of_ext ((Ext.refl w).drew.alloc _)⟩
  ·rw[BQ]
   intro u hu;simp only[Array.toList_append,List.mem_append]at hu;rcases hu with(hu | hu) | hu
   ·exact hxd u (by simpa using hu)
   ·exact hnd u (by simpa using hu)
   ·exact hzc _ u hu
  ·simp only[Array.size_append,List.size_toArray,size_zeroCells,hzs,hown.1,hl]
   rw[<-Nat.succ_mul,<-Nat.add_mul];congr 1;omega
  ·simp only[Array.toList_append,List.append_assoc]
   rw[<-List.append_assoc,<-hlen];exact List.take_left
 rcases hown.2 with⟨rfl,rfl⟩ | ⟨g,cap,cur,rfl,hbg,hb,hnc,hcm,hcs,htake⟩
 ·have hx:xs=[]:=List.eq_nil_of_length_eq_zero (by simpa using hown.1)
  subst hx;have hr:=run_append_nil (P:=P) w t ty e i z ht hi hz a 1 c news hl' hnews Aa Aa (by have hb:=hbytes;simp only[Nat.zero_add]at hb;omega);have hgr:=grown 0 Aa;simp only[Nat.zero_add,List.nil_append,Array.empty_append]at hgr ⊢;exact⟨_,_,hr,hgr.1,hgr.2 _⟩
 ·have hg:=hb.1
  by_cases hroom:n+1<=cap
  ·have hfit:n*i.size+news.length<=cur.size:=by rw[hl,hcs,<-Nat.succ_mul];exact Nat.mul_le_mul_right _ hroom
   have hr:=run_append_room (P:=P) w t ty e i ht hi g n cap cur hg a 1 c news hl' hnews h1 hroom hfit;have hnew:∀ u∈cur.toList.take (n*i.size) ++ news ++ cur.toList.drop (n*i.size+news.length),Ah u=false:=by
    intro u hu;simp only[List.mem_append]at hu;rcases hu with(hu | hu) | hu
    ·exact BQ.1 hb.2 _ (List.mem_of_mem_take hu)
    ·exact hnd u hu
    ·exact BQ.1 hb.2 _ (List.mem_of_mem_drop hu)
   have hbx:Ba (w.setRow g (cur.toList.take (n*i.size) ++ news ++ cur.toList.drop (n*i.size+news.length)).toArray) g e _:=⟨setRow_heap w g cur _ e _ hg,BQ.2 (by simpa using hnew)⟩
   refine⟨_,_,hr,⟨hlen,.inr ⟨g,cap,_,rfl,hbg,hbx,hroom,hcm,?_,?_⟩⟩,⟨fun g' o hg' ho=>?_,Ms hb fun h hne _=>setRow_other w g h _ hne,fun a' ha hG=>?_⟩⟩
   ·simp only[List.size_toArray,List.length_append,List.length_take,List.length_drop,Array.length_toList]
    omega
   ·rw[htake,<-hlen]
    exact List.take_left
   ·rw[setRow_other w g g' _ (fun e=>hg' (by simp[blk,Value.ownBlock,e]))];exact ho
   ·have hga:a'.heap.size<=g:=hG g (by simp[blk,Value.ownBlock])
    exact ha.grown (row:=some g) ⟨rfl,rfl,rfl,by simp[World.setRow],fun k _ hk=>setRow_other w g k _ (fun e=>hk (by rw[e]))⟩ (fun k hk=>by cases hk;exact hga)
  ·have holds:∀ j u,xs[j]? = some u->w.cell? ((⟨g,0,none⟩:Addr).add j)=some u:=hown.owns.cells (g:=g) rfl
   have hr:=run_append_grow (P:=P) w t ty e i z ht hi hz ⟨g,0,none⟩ n cap xs hown.1 holds a 1 c news hl' hnews Aa Aa (growslice_fits Aa hbytes);have hgr:=grown cap Aa;exact⟨_,_,hr,hgr.1,hgr.2 _⟩
end
theorem MB(w:World)(t:TypeId)(cs:Array Value):∀ j u,cs.toList[j]? = some u->(w.alloc (.cells cs t)).cell? ((⟨w.heap.size,0,none⟩:Addr).add j)=some u:=by
 intro j u h;have e:(⟨w.heap.size,0,none⟩:Addr).add j=⟨w.heap.size,j,none⟩:=by unfold Addr.add;split<;>simp_all
 rw[e,cell_of_row _ w.heap.size j cs t (0,0) (heap_alloc_new w _)];simpa using h
theorem Bu{P:Program}{ops:Array Oper}{rest:List Oper}{o:Oper}{a:Act}{w:World}{Q:Exit->Act->World->Prop}(hgd:o.guard=none)(s x:Operand)(t:TypeId)
  (ho:o.op = .call { callee := .builtin .append,args:=#[s,x],argTypes:=#[t,t] }) (v u:Value) (hs:a.eval s=v) (hx:a.eval x=u) {R:Value->World->Prop}
  (hrun:∃ v' w',(Builtin.append_ #[t,t] o.type #[v,u]).run P w = .ok v' w'/\R v' w')
  (h:∀ v' w',R v' w'->wpList P ops Q rest (a.put o.dst v') w'):wpList P ops Q (o::rest) a w:=
 wpList_plain hgd fun _ hK=>by
  obtain⟨v',w',hr,hR⟩:=hrun;unfold Oper.wp execOp;simp only[ho,resolve,invoke,builtin,Sem.run_bind,Sem.run_pure,Result.andThen_ok,List.map_toArray,List.map_cons,List.map_nil,hs,hx,hr];exact hK _ _ (h v' w' hR)
/-! ### read as elements -/
section
variable{α:Type}
def BB(k:Nat)(rd:World->Value->α->Prop)(base:Nat)(e:TypeId)(w:World)(v:Value)(l:List α):Prop:=
 ∃ ess:List (Array Value),ess.length=l.length/\(∀ c∈ess,c.size=k)/\Ld k base e w v l.length (ess.flatMap Array.toList)/\∀ j (h:j < l.length) (h':j < ess.length),rd w (.agg ess[j]) l[j]
theorem QS{k:Nat}:∀ {ess:List (Array Value)},(∀ c∈ess,c.size=k)->∀ {j i:Nat} (h:j < ess.length),i < k->(ess.flatMap Array.toList)[j*k+i]? = (ess[j])[i]?
 | [],_,j,i,h,_=>by simp at h
 | c::ess,hs,j,i,h,hi=>by
  have hc:=hs c Ac;rw[List.flatMap_cons];cases j with
  | zero =>
   rw[Nat.zero_mul,Nat.zero_add,List.getElem?_append_left (by simp[hc,hi])];simp
  | succ j =>
   rw[List.getElem?_append_right (by simp[hc,Nat.succ_mul];omega)];have:(j+1)*k+i - c.toList.length=j*k+i:=by simp[hc,Nat.succ_mul];omega
   rw[this];exact QS (fun d hd=>hs d (by simp[hd])) (by simpa using h) hi
variable{k:Nat}{rd:World->Value->α->Prop}{base:Nat}{e:TypeId}{w w':World}{v:Value}{l:List α}
theorem BB.nil(k:Nat)(rd:World->Value->α->Prop)(base:Nat)(e:TypeId)(w:World):BB k rd base e w (.slice none 0 0) []:=
 ⟨[],rfl,fun _ h=>by simp at h,⟨Ac,.inl ⟨rfl,rfl⟩⟩,fun j h=>by simp at h⟩
theorem BB.row(h:BB k rd base e w v l):CU k rd base w v l:=by
 obtain⟨ess,h1,h2,⟨h3,h4⟩,h5⟩:=h;rcases h4 with⟨rfl,h0⟩ | ⟨g,cap,cur,rfl,hbg,hb,hnc,hcm,hcs,htake⟩
 ·obtain rfl:=List.eq_nil_of_length_eq_zero h0
  exact CU.nil k rd base w
 ·refine⟨_,cap,rfl,hnc,J7 hcm,fun _=>⟨g,0,rfl,hbg,fun j hj=>⟨ess[j]'(Aa),h2 _ (List.getElem_mem _),fun i hi=>?_,h5 j hj _⟩⟩⟩
  rw[Nat.zero_add,cell_of_row w g (j*k+i) cur e (0,0) hb.1];have hlt:j*k+i < l.length*k:=by
   have:(j+1)*k<=l.length*k:=Nat.mul_le_mul_right _ hj;rw[Nat.succ_mul]at this;omega
  rw[<-QS h2 Aa hi,<-htake,List.getElem?_take_of_lt hlt];simp
theorem BB.ext(h:BB k rd base e w v l)(x:Ext w w')(hr:∀ u y,rd w u y->rd w' u y):BB k rd base e w' v l:=by
 obtain⟨ess,h1,h2,⟨h3,h4⟩,h5⟩:=h;refine⟨ess,h1,h2,⟨h3,?_⟩,fun j a b=>hr _ _ (h5 j a b)⟩;rcases h4 with h4 | ⟨g,cap,cur,a,b,c,d⟩
 ·exact .inl h4
 ·exact .inr ⟨g,cap,cur,a,b,c.ext x,d⟩
theorem BB.upd{G:List Nat}(h:BB k rd base e w v l)(U:Cc G w w')(hg:∀ g∈blk v,g∉G)(hr:∀ u y,rd w u y->rd w' u y):BB k rd base e w' v l:=by
 obtain⟨ess,h1,h2,⟨h3,h4⟩,h5⟩:=h;refine⟨ess,h1,h2,⟨h3,?_⟩,fun j a b=>hr _ _ (h5 j a b)⟩;rcases h4 with h4 | ⟨g,cap,cur,rfl,b,c,d⟩
 ·exact .inl h4
 ·exact .inr ⟨g,cap,cur,rfl,b,c.upd U (hg g (by simp[blk,Value.ownBlock])),d⟩
theorem BB.blk_ge(h:BB k rd base e w v l):∀ g∈blk v,base<=g/\g < w.heap.size:=by
 obtain⟨ess,h1,h2,⟨h3,h4⟩,h5⟩:=h;rcases h4 with⟨rfl,_⟩ | ⟨g,cap,cur,rfl,b,c,d⟩
 ·intro g hg;simp[blk,Value.ownBlock]at hg
 ·intro g' hg;simp[blk,Value.ownBlock]at hg;subst hg;exact⟨b,c.lt⟩
theorem BB.len(h:BB k rd base e w v l):∃ A c,v = .slice A l.length c:=h.row.len
theorem BB.append{P:Program}(h:BB k rd base e w v l)(t ty:TypeId)(i:TypeInfo)(z:Value)(bytes:Nat)(ht:P.underlying t=some (.slice e))(hi:P.info? e=some i)(hz:i.zero=some z)
  (hsize:i.size=k) (hby:i.bytes=bytes) (hzs:z.cells.size=k) (hzd:nodig z.cells=true) (hsz:0 < k) {x:α}
  (a:Addr) (c:Nat) (news:Array Value) (hl:news.size=k) (hx:rd w (.agg news) x) (hnews:∀ j u,news.toList[j]? = some u->w.cell? (a.add j)=some u) (h1:∀ u∈news.toList,u.oneCell'=true) (hnd:nodig news=true)
  (h63:l.length+1<=maxLen) (hbytes:(l.length+1)*bytes<=140737488355328) (hbase:base<=w.heap.size) (hr:∀ w' u y,KD w w'->rd w u y->rd w' u y) :
  ∃ v' w',(Builtin.append_ #[t,t] ty #[v,.slice (some a) 1 c]).run P w = .ok v' w'/\BB k rd base e w' v' (l ++ [x])/\Cc (blk v) w w':=by
 obtain⟨ess,g1,g2,g3,g5⟩:=h;obtain⟨v',w',hrun,hown,hupd⟩:=MG (P:=P) w k base t ty e i z bytes ht hi hz hsize hby hzs hzd hsz v l.length _ g3 a c news.toList (by simpa using hl) hnews h1 (BQ.1 hnd) h63 hbytes hbase;refine⟨v',w',hrun,⟨ess ++ [news],by simp[g1],?_,?_,?_⟩,hupd⟩
 ·intro d hd
  rcases List.mem_append.1 hd with hd | hd
  ·exact g2 d hd
  ·simp at hd;subst hd;exact hl
 ·have e1:(ess ++ [news]).flatMap Array.toList=ess.flatMap Array.toList ++ news.toList:=by simp
  rw[e1,List.length_append];exact hown
 ·intro j hj hj'
  rcases Nat.lt_or_ge j l.length with hlt | hge
  ·rw[List.getElem_append_left hlt,List.getElem_append_left Aa]
   exact hr _ _ _ hupd.kd (g5 j hlt Aa)
  ·have:j=l.length:=by simp at hj;omega
   subst this;rw[List.getElem_append_right Aa,List.getElem_append_right Aa];simpa using hr _ _ _ hupd.kd hx
end
def MU{α:Type}(k:Nat)(rd:World->Value->α->Prop)(w:World)(v:Value)(base:Nat)(x:α)(t:TypeId):Prop:=∃ g cs,v = .slice (some ⟨g,0,none⟩) 1 1/\base<=g/\Ba w g t cs/\cs.size=k/\rd w (.agg cs) x
theorem MU.ext{α:Type}{k:Nat}{rd:World->Value->α->Prop}{w w':World}{v:Value}{base:Nat}{x:α}{t:TypeId}(h:MU k rd w v base x t)(e:Ext w w')(hr:∀ u y,rd w u y->rd w' u y):MU k rd w' v base x t:=by
 obtain⟨g,cs,h1,h2,h3,h4,h5⟩:=h;exact⟨g,cs,h1,h2,h3.ext e,h4,hr _ _ h5⟩
theorem Ba.news{w:World}{g:Nat}{t:TypeId}{cs:Array Value}(h:Ba w g t cs):∀ j u,cs.toList[j]? = some u->w.cell? ((⟨g,0,none⟩:Addr).add j)=some u:=by
 intro j u hu;have e:(⟨g,0,none⟩:Addr).add j=⟨g,j,none⟩:=by unfold Addr.add;split<;>simp_all
 rw[e];exact h.cell (by simpa using hu)
def Su(w:World)(v:Value)(base:Nat)(q:Rat)(t:TypeId):Prop:=MU 4 BX w v base q t
theorem Su.ext{w w':World}{v:Value}{base:Nat}{q:Rat}{t:TypeId}(h:Su w v base q t)(e:Ext w w'):Su w' v base q t:=MU.ext h e fun _ _ h=>h.ext e
theorem Su.mk{w:World}{b b':Bool}{A A':Option Addr}{n c n' c':Nat}{q:Rat}(h:BX w (.agg #[.bool b,.slice A n c,.bool b',.slice A' n' c']) q){base:Nat}(hb:base<=w.heap.size)(t:TypeId) :
  Su (w.alloc (.cells #[.bool b,.slice A n c,.bool b',.slice A' n' c'] t)) (.slice (some ⟨w.heap.size,0,none⟩) 1 1) base q t:=
 ⟨_,_,rfl,hb,Ba.new w t _ (by simp[Ah]),rfl,h.ext ((Ext.refl w).alloc _)⟩
theorem BX.cells_{w:World}{v:Value}{q:Rat}(h:BX w v q):∃ b A n c b' A' n' c',v = .agg #[.bool b,.slice A n c,.bool b',.slice A' n' c']:=by
 obtain⟨b,A,n,c,b',A',n',c',e,_⟩:=h;exact⟨_,_,_,_,_,_,_,_,e⟩
theorem BX.one{w:World}{cs:Array Value}{q:Rat}(h:BX w (.agg cs) q):(∀ u∈cs.toList,u.oneCell'=true)/\nodig cs=true/\cs.size=4:=by
 obtain⟨b,A,n,c,b',A',n',c',e⟩:=h.cells_;obtain rfl:=V8 e;refine⟨fun u hu=>?_,by simp[nodig,Ah],rfl⟩;simp at hu;rcases hu with rfl | rfl | rfl | rfl<;>rfl
theorem BX.el{w:World}{v:Value}{q:Rat}(h:BX w v q){p:Prop}(k:∀ b A n c b' A' n' c',v = .agg #[.bool b,.slice A n c,.bool b',.slice A' n' c']->BX w (.agg #[.bool b,.slice A n c,.bool b',.slice A' n' c']) q->p):p:=by
 obtain⟨b,A,n,c,b',A',n',c',e⟩:=h.cells_;exact k b A n c b' A' n' c' e (e▸h)
def FO(base:Nat)(e:TypeId)(w:World)(v:Value)(l:List Rat):Prop:=BB 4 BX base e w v l
theorem FO.ext{base:Nat}{e:TypeId}{w w':World}{v:Value}{l:List Rat}(h:FO base e w v l)(x:Ext w w'):FO base e w' v l:=BB.ext h x fun _ _ q=>q.ext x
theorem FO.upd{base:Nat}{e:TypeId}{w w':World}{v:Value}{l:List Rat}{G:List Nat}(h:FO base e w v l)(U:Cc G w w')(hg:∀ g∈G,g < base):FO base e w' v l:=
 BB.upd h U (fun g hb hG=>by have:=hg g hG;have:=(BB.blk_ge h g hb).1;omega) fun _ _ q=>q.kd U.kd
theorem FO.row{base:Nat}{e:TypeId}{w:World}{v:Value}{l:List Rat}(h:FO base e w v l):PW base w v l:=BB.row h
theorem FO.from_{base:Nat}{e:TypeId}{a w w':World}{v:Value}{l:List Rat}(h:FO base e w v l)(U:Cc (blk v) w w')(x:Ext a w)(hb:a.heap.size<=base):Ext a w':=
 U.from_ x fun g hg=>Nat.le_trans hb (BB.blk_ge h g hg).1
theorem FO.box{base:Nat}{e t:TypeId}{w w':World}{v:Value}{l:List Rat}{g:Nat}{cs:Array Value}(h:FO base e w v l)(U:Cc (blk v) w w')(b:Ba w g t cs)(hb:g < base):Ba w' g t cs:=
 b.upd U fun hg=>by have:=(BB.blk_ge h g hg).1;omega
def BL(n b:Nat):Prop:=n < 2^b/\(0 < b->2^(b - 1)<=n)
theorem BL.zero:BL 0 0:=⟨Ab,fun h=>absurd h Ab⟩
theorem BL.top{ds:List Nat}{j:Nat}(hd:Bc ds)(hl:0 < ds.length)(h1:dg ds (ds.length - 1) < 2^j)(h2:0 < j)(h3:2^(j - 1)<=dg ds (ds.length - 1)):BL (nv ds) (32*(ds.length - 1)+j):=by
 have h:=AP ds (ds.length - 1);rw[List.take_of_length_le Aa]at h;have hb:=Ey (hd.take (ds.length - 1));have hb2:bp (ds.take (ds.length - 1)).length<=bp (ds.length - 1):=Jf (by rw[List.length_take];omega);generalize dg ds (ds.length - 1)=d at *;have hp:=E8 (ds.length - 1);generalize hmm:ds.length - 1=m at *;constructor
 ·rw[h,Nat.pow_add,<-hp]
  have:bp m*(d+1)<=bp m*2^j:=Nat.mul_le_mul_left _ h1;rw[Nat.mul_add]at this;omega
 ·intro _
  rw[h,show 32*m+j - 1=32*m+(j - 1) by omega,Nat.pow_add,<-hp];have:bp m*2^(j - 1)<=bp m*d:=Nat.mul_le_mul_left _ h3;omega
theorem BL.le{n b m:Nat}(h:BL n b)(hm:n < 2^m):b<=m:=by
 rcases Nat.lt_or_ge m b with h1 | h1
 ·have h2:=h.2 Aa
  have:2^m<=2^(b - 1):=Nat.pow_le_pow_right Ab Aa;omega
 ·exact h1
def co(l:List Rat)(i:Nat):Rat:=l.getD i 0
def tl(F:Nat->Rat)(n:Nat):Rat:=F (n+1)
def cs(a:Rat)(F:Nat->Rat):Nat->Rat
 | 0=>a
 | n+1=>F n
def cv(F G:Nat->Rat):Nat->Rat
 | 0=>F 0*G 0
 | n+1=>F 0*G (n+1)+cv (tl F) G n
def pad(F G:Nat->Rat)(n:Nat):Rat:=F n+G n
def psb(F G:Nat->Rat)(n:Nat):Rat:=F n - G n
def psc(a:Rat)(F:Nat->Rat)(n:Nat):Rat:=a*F n
def pz(_:Nat):Rat:=0
def pone:Nat->Rat:=cs 1 pz
def WN(F:Nat->Rat)(n:Nat):Rat:=(n:Rat)*F n
def pd(F:Nat->Rat)(n:Nat):Rat:=((n+1:Nat):Rat)*F (n+1)
theorem CF(F G:Nat->Rat):cv F G 0=F 0*G 0:=by unfold cv;rfl
theorem BJ(F G:Nat->Rat)(n:Nat):cv F G (n+1)=F 0*G (n+1)+cv (tl F) G n:=by rw[cv]
theorem Ra(F:Nat->Rat):cs (F 0) (tl F)=F:=by funext n;cases n<;>rfl
theorem jE(F G:Nat->Rat):tl (cv F G)=pad (psc (F 0) (tl G)) (cv (tl F) G):=by funext n;exact BJ F G n
theorem Yv(F G:Nat->Rat):tl (pad F G)=pad (tl F) (tl G):=rfl
theorem dI(a:Rat)(F:Nat->Rat):tl (psc a F)=psc a (tl F):=rfl
theorem iW:tl pz=pz:=rfl
theorem JY(F:Nat->Rat):cv F pz=pz:=by
 funext n
 induction n generalizing F with
 | zero=>rw[CF];exact Rat.mul_zero _
 | succ n ih=>rw[BJ,ih];show F 0*0+0=0;grind
theorem Cn(F:Nat->Rat):cv pz F=pz:=by
 funext n
 induction n with
 | zero=>rw[CF];exact Rat.zero_mul _
 | succ n ih=>rw[BJ,iW,ih];show 0*_+0=0;grind
theorem Ez(F G H:Nat->Rat):cv F (pad G H)=pad (cv F G) (cv F H):=by
 funext n
 induction n generalizing F with
 | zero=>simp only[CF,pad];grind
 | succ n ih=>have:=ih (tl F);simp only[BJ,pad]at this ⊢;rw[this];grind
theorem CG(F G H:Nat->Rat):cv (pad F G) H=pad (cv F H) (cv G H):=by
 funext n
 induction n generalizing F G with
 | zero=>simp only[CF,pad];grind
 | succ n ih=>have:=ih (tl F) (tl G);simp only[BJ,Yv,this];simp only[pad,BJ];grind
theorem MS(a:Rat)(F G:Nat->Rat):cv F (psc a G)=psc a (cv F G):=by
 funext n
 induction n generalizing F with
 | zero=>simp only[CF,psc];grind
 | succ n ih=>have:=ih (tl F);simp only[BJ,psc]at this ⊢;rw[this];grind
theorem Cv(a:Rat)(F G:Nat->Rat):cv (psc a F) G=psc a (cv F G):=by
 funext n
 induction n generalizing F with
 | zero=>simp only[CF,psc];grind
 | succ n ih=>have:=ih (tl F);simp only[BJ,dI,this];simp only[psc,BJ];grind
theorem Oe(F G:Nat->Rat):psb F G=pad F (psc (-1) G):=by funext n;simp only[psb,pad,psc];grind
theorem Fu(F G H:Nat->Rat):cv (psb F G) H=psb (cv F H) (cv G H):=by rw[Oe,Oe,CG,Cv]
theorem QJ(F G:Nat->Rat)(n:Nat):cv F G (n+1)=cv F (tl G) n+F (n+1)*G 0:=by
 induction n generalizing F with
 | zero=>simp only[BJ,CF,tl]
 | succ n ih=>rw[BJ,ih,BJ];simp only[tl];grind
theorem Av(F G:Nat->Rat):cv F G=cv G F:=by
 funext n
 induction n generalizing F G with
 | zero=>simp only[CF];grind
 | succ n ih=>rw[BJ,QJ,ih];grind
theorem Ag(F G H:Nat->Rat):cv (cv F G) H=cv F (cv G H):=by
 funext n
 induction n generalizing F with
 | zero=>simp only[CF];grind
 | succ n ih =>
  rw[BJ,jE,CG,Cv];have h1:∀ A B:Nat->Rat,pad A B n=A n+B n:=fun _ _=>rfl;have h2:∀(a:Rat) (B:Nat->Rat),psc a B n=a*B n:=fun _ _=>rfl;rw[h1,h2,ih,BJ F,BJ G,CF];grind
theorem Br(F:Nat->Rat):cv pone F=F:=by
 funext n
 cases n with
 | zero=>rw[CF];show 1*_=_;grind
 | succ n=>rw[BJ];show 1*_+cv pz F n=_;rw[Cn];show _+0=_;grind
theorem Ew(F:Nat->Rat):cv F pone=F:=by rw[Av,Br]
theorem L8(a:Rat)(F G:Nat->Rat):cv (cs a F) G=pad (psc a G) (cs 0 (cv F G)):=by
 funext n
 cases n with
 | zero=>rw[CF];show a*_=a*_+0;grind
 | succ n=>rw[BJ];rfl
theorem QU(F G:Nat->Rat):cv (cs 0 F) G=cs 0 (cv F G):=by
 rw[L8]
 funext n
 show 0*G n+_=_;grind
theorem Ws(F G:Nat->Rat):cv F (cs 0 G)=cs 0 (cv F G):=by rw[Av,QU,Av]
/-! ### sums -/
def sm(n:Nat)(f:Nat->Rat):Rat:=match n with
 | 0=>0
 | n+1=>sm n f+f n
theorem Fa(f:Nat->Rat):sm 0 f=0:=rfl
theorem Bz(n:Nat)(f:Nat->Rat):sm (n+1) f=sm n f+f n:=rfl
theorem Cz{n:Nat}{f g:Nat->Rat}(h:∀ i,i < n->f i=g i):sm n f=sm n g:=by
 induction n with
 | zero=>rfl
 | succ n ih=>rw[Bz,Bz,ih (fun i hi=>h i Aa),h n Aa]
theorem QM(n:Nat)(f:Nat->Rat):sm (n+1) f=f 0+sm n (fun i=>f (i+1)):=by
 induction n with
 | zero=>simp only[Bz,Fa];grind
 | succ n ih=>rw[Bz,ih,Bz n];grind
theorem MP(n:Nat):sm n (fun _=>0)=0:=by
 induction n with
 | zero=>rfl
 | succ n ih=>rw[Bz,ih];grind
theorem dY(n:Nat)(f g:Nat->Rat):sm n (fun i=>f i+g i)=sm n f+sm n g:=by
 induction n with
 | zero=>simp only[Fa];grind
 | succ n ih=>rw[Bz,ih,Bz,Bz];grind
theorem Sn(n:Nat)(a:Rat)(f:Nat->Rat):sm n (fun i=>a*f i)=a*sm n f:=by
 induction n with
 | zero=>simp only[Fa];grind
 | succ n ih=>rw[Bz,ih,Bz];grind
theorem Yi(F G:Nat->Rat)(n:Nat):cv F G n=sm (n+1) (fun i=>F i*G (n - i)):=by
 induction n generalizing F with
 | zero=>rw[CF,Bz,Fa];grind
 | succ n ih =>
  rw[BJ,ih,QM (n+1)];congr 1
  apply Cz
  intro i hi;show F (i+1)*_=F (i+1)*G (n+1 - (i+1));rw[show n+1 - (i+1)=n - i from by omega]
/-! ### degrees -/
def Be(n:Nat)(F:Nat->Rat):Prop:=∀ i,n<=i->F i=0
theorem Be.mono{n m:Nat}{F:Nat->Rat}(h:Be n F)(k:n<=m):Be m F:=fun i hi=>h i Aa
theorem Be.tl{n:Nat}{F:Nat->Rat}(h:Be (n+1) F):Be n (tl F):=fun i hi=>h (i+1) Aa
theorem Be.pad{n:Nat}{F G:Nat->Rat}(h:Be n F)(k:Be n G):Be n (pad F G):=fun i hi=>by show F i+G i=0;rw[h i hi,k i hi];grind
theorem Be.psb{n:Nat}{F G:Nat->Rat}(h:Be n F)(k:Be n G):Be n (psb F G):=fun i hi=>by show F i - G i=0;rw[h i hi,k i hi];grind
theorem Be.psc{n:Nat}{F:Nat->Rat}(a:Rat)(h:Be n F):Be n (psc a F):=fun i hi=>by show a*F i=0;rw[h i hi];exact Rat.mul_zero _
theorem Be.pz(n:Nat):Be n pz:=fun _ _=>rfl
theorem Be.cs{n:Nat}{F:Nat->Rat}(a:Rat)(h:Be n F):Be (n+1) (cs a F):=fun i hi=>by
 obtain⟨i,rfl⟩:∃ j,i=j+1:=⟨i - 1,Aa⟩
 exact h i Aa
theorem Be.zero{F:Nat->Rat}(h:Be 0 F):F=Hp.pz:=by funext i;exact h i (Nat.zero_le _)
theorem Be.cv{n m:Nat}{F G:Nat->Rat}(h:Be n F)(k:Be m G):Be (n+m - 1) (cv F G):=by
 induction n generalizing F with
 | zero=>rw[h.zero,Cn];exact fun _ _=>rfl
 | succ n ih =>
  intro i hi;have h1:=ih h.tl;cases i with
  | zero =>
   rw[CF,k 0 Aa];exact Rat.mul_zero _
  | succ i =>
   rw[BJ,k (i+1) Aa];rcases Nat.eq_zero_or_pos n with h0 | h0
   ·subst h0;rw[h.tl.zero,Cn];show _*0+0=0;grind
   ·rw[h1 i Aa];grind
theorem Si{n m:Nat}{F G:Nat->Rat}(h:Be (n+1) F)(k:Be (m+1) G):cv F G (n+m)=F n*G m:=by
 induction n generalizing F with
 | zero =>
  cases m with
  | zero=>rw[CF]
  | succ m=>rw[Nat.zero_add,BJ,h.tl.zero,Cn];show _+0=_;grind
 | succ n ih =>
  have:=ih h.tl;rw[show n+1+m=n+m+1 from Aa,BJ,this,k (n+m+1) Aa];show _*0+F (n+1)*G m=_;grind
theorem KM(l:List Rat):Be l.length (co l):=fun i hi=>by unfold co;rw[List.getD_eq_getElem?_getD,List.getElem?_eq_none hi];rfl
theorem OI:co []=pz:=rfl
theorem F6{l:List Rat}{i:Nat}(h:i < l.length):co l i=l[i]:=by unfold co;rw[List.getD_eq_getElem?_getD,List.getElem?_eq_getElem h];rfl
def Ae(F:Nat->Rat):Prop:=∃ n,Be n F
theorem NJ{p:Nat->Prop}(h:∃ n,p n):∃ n,p n/\∀ m,m < n->¬ p m:=by
 obtain⟨n,hn⟩:=h;induction n using Nat.strongRecOn with
 | _ n ih =>
  by_cases hm:∃ m,m < n/\p m
  ·obtain⟨m,h1,h2⟩:=hm;exact ih m h1 h2
  ·exact⟨n,hn,fun m h1 h2=>hm ⟨m,h1,h2⟩⟩
open Classical in
/-- One more than the degree;0 of 0. -/
noncomputable def pl(F:Nat->Rat):Nat:=if h:Ae F then(NJ h).choose else 0
theorem AA{F:Nat->Rat}(h:Ae F):Be (pl F) F:=by
 unfold pl;rw[dif_pos h];exact(NJ h).choose_spec.1
theorem BD{F:Nat->Rat}{n:Nat}(h:Be n F):pl F<=n:=by
 have hf:Ae F:=⟨n,h⟩
 rcases Nat.lt_or_ge n (pl F)with hlt | hge
 ·unfold pl at hlt;rw[dif_pos hf]at hlt
  exact absurd h ((NJ hf).choose_spec.2 n hlt)
 ·exact hge
theorem EA{F:Nat->Rat}(h:Ae F)(h0:0 < pl F):F (pl F - 1)≠0:=by
 intro e;have:=BD (F:=F) (n:=pl F - 1) fun i hi=>by
  rcases Nat.eq_or_lt_of_le hi with e' | e'
  ·rw[<-e'];exact e
  ·exact AA h i Aa
 omega
theorem Iq{F:Nat->Rat}{n:Nat}(h:Be n F)(h0:0 < n->F (n - 1)≠0):pl F=n:=by
 have h1:=BD h;rcases Nat.lt_or_ge (pl F) n with hlt | hge
 ·exact absurd (AA ⟨n,h⟩ (n - 1) Aa) (h0 Aa)
 ·omega
theorem BR:pl pz=0:=by have:=BD (Be.pz 0);omega
theorem BI{F:Nat->Rat}(h:Ae F):pl F=0↔F=pz:=by
 constructor
 ·intro e;have:=AA h;rw[e]at this;exact this.zero
 ·rintro rfl;exact BR
theorem Ae.pad{F G:Nat->Rat}(h:Ae F)(k:Ae G):Ae (pad F G):=by
 obtain⟨n,h⟩:=h;obtain⟨m,k⟩:=k;exact⟨max n m,(h.mono Aa).pad (k.mono Aa)⟩
theorem Ae.psb{F G:Nat->Rat}(h:Ae F)(k:Ae G):Ae (psb F G):=by
 obtain⟨n,h⟩:=h;obtain⟨m,k⟩:=k;exact⟨max n m,(h.mono Aa).psb (k.mono Aa)⟩
theorem Ae.psc{F:Nat->Rat}(a:Rat)(h:Ae F):Ae (psc a F):=by obtain⟨n,h⟩:=h;exact⟨n,h.psc a⟩
theorem Ae.cv{F G:Nat->Rat}(h:Ae F)(k:Ae G):Ae (cv F G):=by obtain⟨n,h⟩:=h;obtain⟨m,k⟩:=k;exact⟨_,h.cv k⟩
theorem Ae.pz:Ae pz:=⟨0,Be.pz 0⟩
theorem Ae.co(l:List Rat):Ae (co l):=⟨_,KM l⟩
theorem Ae.cs{F:Nat->Rat}(a:Rat)(h:Ae F):Ae (cs a F):=by obtain⟨n,h⟩:=h;exact⟨n+1,h.cs a⟩
theorem Du{F G:Nat->Rat}(h:Ae F)(k:Ae G)(hF:F≠pz)(hG:G≠pz):pl (cv F G)=pl F+pl G - 1:=by
 have p1:0 < pl F:=Nat.pos_of_ne_zero fun e=>hF ((BI h).1 e);have p2:0 < pl G:=Nat.pos_of_ne_zero fun e=>hG ((BI k).1 e);refine Iq ((AA h).cv (AA k)) fun _=>?_;have h1:=AA h;have h2:=AA k;have e:=Si (n:=pl F - 1) (m:=pl G - 1) (F:=F) (G:=G) (by rw[show pl F - 1+1=pl F from by omega];exact h1) (by rw[show pl G - 1+1=pl G from by omega];exact h2);rw[show pl F+pl G - 1 - 1=pl F - 1+(pl G - 1)from Aa,e]
 intro h0;rcases Rat.mul_eq_zero.1 h0 with h0 | h0
 ·exact EA h p1 h0
 ·exact EA k p2 h0
theorem H6{F G:Nat->Rat}(h:Ae F)(k:Ae G)(e:cv F G=pz):F=pz\/G=pz:=by
 by_cases hF:F=pz
 ·exact .inl hF
 ·by_cases hG:G=pz
  ·exact .inr hG
  ·have:=Du h k hF hG
   rw[e,BR]at this;have p1:0 < pl F:=Nat.pos_of_ne_zero fun e=>hF ((BI h).1 e);have p2:0 < pl G:=Nat.pos_of_ne_zero fun e=>hG ((BI k).1 e);have:=Iq (F:=F) (n:=1) (fun i hi=>?_) (fun _=>?_)
   ·exact absurd (by
     have hF1:F 0≠0:=by have:=EA h p1;rwa[show pl F - 1=0 from by omega]at this
     have hG1:G 0≠0:=by have:=EA k p2;rwa[show pl G - 1=0 from by omega]at this
     have h0:cv F G 0=0:=by rw[e];rfl
     rw[CF]at h0;rcases Rat.mul_eq_zero.1 h0 with h0 | h0
     ·exact hF1 h0
     ·exact hG1 h0) not_false
   ·have:pl F=1:=by omega
    exact AA h i Aa
   ·have:=EA h p1
    rwa[show pl F - 1=0 from by omega]at this
/-! ### division -/
theorem Mc{F G Q R Q' R':Nat->Rat}(hG:Ae G)(hQ:Ae Q)(hQ':Ae Q')(h0:G≠pz)(h:F=pad (cv Q G) R)(h':F=pad (cv Q' G) R')(hR:Be (pl G - 1) R)(hR':Be (pl G - 1) R'):Q=Q'/\R=R':=by
 have p2:0 < pl G:=Nat.pos_of_ne_zero fun e=>h0 ((BI hG).1 e);have e1:cv (psb Q Q') G=psb R' R:=by
  rw[Fu]
  funext n
  have:=congrFun (h.symm.trans h') n;simp only[pad,psb]at this ⊢;grind
 have hs:Be (pl G - 1) (cv (psb Q Q') G):=by rw[e1];exact hR'.psb hR
 have hz:psb Q Q'=pz:=by
  by_cases hz:psb Q Q'=pz
  ·exact hz
  ·have h1:=Du (hQ.psb hQ') hG hz h0
   have h2:=BD hs;have p1:0 < pl (psb Q Q'):=Nat.pos_of_ne_zero fun e=>hz ((BI (hQ.psb hQ')).1 e);omega
 constructor
 ·funext n
  have:=congrFun hz n;simp only[psb,pz]at this;grind
 ·rw[hz,Cn]at e1
  funext n
  have:=congrFun e1 n;simp only[psb,pz]at this;grind
/-! ### derivations -/
theorem dZ(F:Nat->Rat):tl (WN F)=pad (WN (tl F)) (tl F):=by
 funext n
 simp only[tl,WN,pad];have:((n+1:Nat):Rat)=(n:Rat)+1:=by simp
 rw[this];grind
theorem bY(F G:Nat->Rat):WN (cv F G)=pad (cv (WN F) G) (cv F (WN G)):=by
 funext n
 induction n generalizing F with
 | zero =>
  simp only[WN,pad,CF];have:((0:Nat):Rat)=0:=rfl;rw[this];grind
 | succ n ih =>
  have h:=ih (tl F);have h1:∀ A B:Nat->Rat,∀ m,pad A B m=A m+B m:=fun _ _ _=>rfl;have h2:∀(A:Nat->Rat) m,WN A m=(m:Rat)*A m:=fun _ _=>rfl;rw[h1,h2]at h;rw[h1,h2,BJ,BJ,BJ,dZ,CG,h1,h2,h2];have e:((n+1:Nat):Rat)=(n:Rat)+1:=by simp
  have e0:((0:Nat):Rat)=0:=rfl;rw[e,e0];grind
theorem WX(F:Nat->Rat):pd F=tl (WN F):=rfl
theorem Ji(F G:Nat->Rat):pd (cv F G)=pad (cv (pd F) G) (cv F (pd G)):=by
 funext n
 rw[WX,bY,Yv];show cv (WN F) G (n+1)+cv F (WN G) (n+1)=cv (pd F) G n+cv F (pd G) n;have e0:((0:Nat):Rat)=0:=rfl;rw[BJ,QJ,<-WX,<-WX];show((0:Nat):Rat)*F 0*_+_+(_+_*(((0:Nat):Rat)*G 0))=_;rw[e0];grind
/-! ### values -/
def CL:Nat->(Nat->Rat)->Rat->Rat
 | 0,_,_=>0
 | n+1,F,x=>F 0+x*CL n (tl F) x
theorem SC(n:Nat)(x:Rat):CL n pz x=0:=by
 induction n with
 | zero=>rfl
 | succ n ih=>show 0+x*CL n pz x=0;rw[ih];grind
theorem Lx{n m:Nat}{F:Nat->Rat}(h:Be n F)(k:n<=m)(x:Rat):CL m F x=CL n F x:=by
 induction n generalizing F m with
 | zero=>rw[h.zero,SC];rfl
 | succ n ih =>
  obtain⟨m,rfl⟩:∃ j,m=j+1:=⟨m - 1,Aa⟩
  show F 0+x*CL m (tl F) x=F 0+x*CL n (tl F) x;rw[ih h.tl Aa]
noncomputable def ev(F:Nat->Rat)(x:Rat):Rat:=CL (pl F) F x
theorem Ee{n:Nat}{F:Nat->Rat}(h:Be n F)(x:Rat):ev F x=CL n F x:=(Lx (AA ⟨n,h⟩) (BD h) x).symm
theorem Ud(n:Nat)(F G:Nat->Rat)(x:Rat):CL n (pad F G) x=CL n F x+CL n G x:=by
 induction n generalizing F G with
 | zero=>show(0:Rat)=0+0;grind
 | succ n ih =>
  show F 0+G 0+x*CL n (pad (tl F) (tl G)) x=F 0+x*CL n (tl F) x+(G 0+x*CL n (tl G) x);rw[ih];grind
theorem YV(n:Nat)(a:Rat)(F:Nat->Rat)(x:Rat):CL n (psc a F) x=a*CL n F x:=by
 induction n generalizing F with
 | zero=>show(0:Rat)=a*0;grind
 | succ n ih =>
  show a*F 0+x*CL n (psc a (tl F)) x=a*(F 0+x*CL n (tl F) x);rw[ih];grind
theorem GI{F G:Nat->Rat}(h:Ae F)(k:Ae G)(x:Rat):ev (pad F G) x=ev F x+ev G x:=by
 obtain⟨n,h⟩:=h;obtain⟨m,k⟩:=k;have h1:=h.mono (Nat.le_max_left n m);have k1:=k.mono (Nat.le_max_right n m);rw[Ee (h1.pad k1),Ee h1,Ee k1,Ud]
theorem DX{F:Nat->Rat}(a:Rat)(h:Ae F)(x:Rat):ev (psc a F) x=a*ev F x:=by
 obtain⟨n,h⟩:=h;rw[Ee (h.psc a),Ee h,YV]
theorem bV{F G:Nat->Rat}(h:Ae F)(k:Ae G)(x:Rat):ev (psb F G) x=ev F x - ev G x:=by
 rw[Oe,GI h (k.psc _),DX _ k];grind
theorem Rb(x:Rat):ev pz x=0:=by unfold ev;rw[SC]
theorem MI{F:Nat->Rat}(a:Rat)(h:Ae F)(x:Rat):ev (cs a F) x=a+x*ev F x:=by
 obtain⟨n,h⟩:=h;rw[Ee (h.cs a),Ee h];rfl
theorem Cy{F G:Nat->Rat}(h:Ae F)(k:Ae G)(x:Rat):ev (cv F G) x=ev F x*ev G x:=by
 obtain⟨n,h⟩:=h;induction n generalizing F with
 | zero=>rw[h.zero,Cn,Rb];grind
 | succ n ih =>
  have e:=L8 (F 0) (tl F) G;rw[Ra]at e;have hf:Ae (tl F):=⟨n,h.tl⟩
  rw[e,GI (k.psc _) ((hf.cv k).cs 0),DX _ k,MI 0 (hf.cv k),ih h.tl];have e2:=MI (F 0) hf x;rw[Ra]at e2;rw[e2];grind
end Go.Hp
namespace Go.Proofs.YtmhgnigpmompmaaGreat
open Go.RowKit Go.Hp
abbrev Bg(f:FuncId)(a:Array Value)(w:World)(R:Value->World->Prop):Prop:=Calls Tryz.prog f a w (Ai w R)
theorem Xk{k j:IntKind}{a b c d:Int}(h:a=c)(h':b=d):Ending.returned (.tuple #[.int k a,.int j b]) = .returned (.tuple #[.int k c,.int j d]):=by rw[h,h']
theorem Eu{k:IntKind}{a b:Int}(h:a=b):Ending.returned (.int k a) = .returned (.int k b):=by rw[h]
theorem Gi(x y c:Int)(w:World)(hx:0<=x)(hx':x < 4294967296)(hy:0<=y)(hy':y < 4294967296)(hc:0<=c)(hc':c<=1) :
  Calls Tryz.prog 186 #[.int .u32 x,.int .u32 y,.int .u32 c] w fun e w'=>e = .returned (.tuple #[.int .u32 ((x+y+c) % 4294967296),.int .u32 ((x+y+c) / 4294967296)])/\w=w':=by
 go_enter Tryz.func186,Tryz.ntmps186
 go_wp2
 go_ret2
 exact⟨rfl,rfl⟩
def TQ(x y c:Int):Int:=if x < y+c then 1 else 0
theorem YG{x y c:Int}(h:x < y+c):TQ x y c=1:=if_pos h
theorem ZL{x y c:Int}(h:y+c<=x):TQ x y c=0:=if_neg Aa
theorem OU(x y c:Int):0<=TQ x y c/\TQ x y c<=1:=by unfold TQ;split<;>omega
theorem YE(n:Nat)(h:n < 4294967296):n / 2147483648=(n.testBit 31).toNat:=by
 rw[Nat.testBit_eq_decide_div_mod_eq];by_cases hc:n / 2^31 % 2=1
 ·rw[decide_eq_true hc];show _=1;omega
 ·rw[decide_eq_false hc];show _=0;omega
theorem Mq(n:Nat)(h:n < 4294967296):n.testBit 31=decide (2147483648<=n):=by
 rw[Nat.testBit_eq_decide_div_mod_eq];by_cases hc:2147483648<=n
 ·rw[decide_eq_true hc,decide_eq_true Aa]
 ·rw[decide_eq_false hc,decide_eq_false Aa]
theorem Rj(X Y D:Nat)(c:Int)(hX:X < 4294967296)(hY:Y < 4294967296)(hc:0<=c)(hc':c<=1)(hD:(D:Int)=((X:Int) - Y - c) % 4294967296) :
  (((4294967295 ^^^ X) &&& Y ||| (4294967295 ^^^ (X ^^^ Y)) &&& D:Nat):Int) / 2147483648=TQ X Y c:=by
 have hD':D < 4294967296:=by omega
 have hlt:((4294967295 ^^^ X) &&& Y ||| (4294967295 ^^^ (X ^^^ Y)) &&& D) < 2^32:=by
  apply Nat.or_lt_two_pow
  ·exact Nat.lt_of_le_of_lt Nat.and_le_right hY
  ·exact Nat.lt_of_le_of_lt Nat.and_le_right hD'
 have h1:=YE _ hlt;simp only[Nat.testBit_or,Nat.testBit_and,Nat.testBit_xor]at h1;rw[Mq X hX,Mq Y hY,Mq D hD',show Nat.testBit 4294967295 31=true from by decide]at h1;have h2:(((4294967295 ^^^ X) &&& Y ||| (4294967295 ^^^ (X ^^^ Y)) &&& D:Nat):Int) / 2147483648=((((4294967295 ^^^ X) &&& Y ||| (4294967295 ^^^ (X ^^^ Y)) &&& D) / 2147483648:Nat):Int):=by omega
 rw[h2,h1];unfold TQ;by_cases a:2147483648<=X<;>by_cases b:2147483648<=Y<;>by_cases d:2147483648<=D<;>simp only[decide_eq_true_eq,a,b,d,decide_true,decide_false,Bool.xor_true,Bool.xor_false,Bool.not_true,Bool.not_false,Bool.true_and,Bool.false_and,Bool.and_true,Bool.and_false,Bool.or_true,Bool.or_false,Bool.true_or,Bool.false_or,Bool.toNat_true,Bool.toNat_false]<;>split<;>omega
theorem Y3(x y c:Int)(hx:0<=x)(hx':x < 4294967296)(hy:0<=y)(hy':y < 4294967296)(hc:0<=c)(hc':c<=1) :
  bits .or .u32 (bits .and .u32 (bits .xor .u32 IntKind.u32.max x) y) (bits .and .u32 (bits .xor .u32 IntKind.u32.max (bits .xor .u32 x y)) ((x - y - c) % 4294967296)) / 2147483648=TQ x y c:=by
 obtain⟨X,rfl⟩:=Int.eq_ofNat_of_zero_le hx;obtain⟨Y,rfl⟩:=Int.eq_ofNat_of_zero_le hy;obtain⟨D,hD⟩:=Int.eq_ofNat_of_zero_le (show 0<=((X:Int) - Y - c) % 4294967296 by omega);have hb:=Rj X Y D c Aa Aa hc hc' hD.symm;have e1:bits .xor .u32 IntKind.u32.max (X:Int)=((4294967295 ^^^ X:Nat):Int):=u32_xor_nat 4294967295 X Ab Aa;have l1:(4294967295 ^^^ X:Nat) < 2^32:=Nat.xor_lt_two_pow Ab Aa;have e2:bits .and .u32 ((4294967295 ^^^ X:Nat):Int) (Y:Int)=(((4294967295 ^^^ X) &&& Y:Nat):Int):=u32_and_nat _ Y l1 Aa
 have e3:bits .xor .u32 (X:Int) (Y:Int)=((X ^^^ Y:Nat):Int):=u32_xor_nat X Y Aa Aa;have l3:(X ^^^ Y:Nat) < 2^32:=Nat.xor_lt_two_pow Aa Aa;have e4:bits .xor .u32 IntKind.u32.max ((X ^^^ Y:Nat):Int)=((4294967295 ^^^ (X ^^^ Y):Nat):Int):=u32_xor_nat 4294967295 _ Ab l3;have l4:(4294967295 ^^^ (X ^^^ Y):Nat) < 2^32:=Nat.xor_lt_two_pow Ab l3;have e5:bits .and .u32 ((4294967295 ^^^ (X ^^^ Y):Nat):Int) (D:Int)=(((4294967295 ^^^ (X ^^^ Y)) &&& D:Nat):Int):=u32_and_nat _ D l4 Aa
 have e6:bits .or .u32 (((4294967295 ^^^ X) &&& Y:Nat):Int) (((4294967295 ^^^ (X ^^^ Y)) &&& D:Nat):Int)=(((4294967295 ^^^ X) &&& Y ||| (4294967295 ^^^ (X ^^^ Y)) &&& D:Nat):Int):=
  u32_or_nat _ _ (Nat.lt_of_le_of_lt Nat.and_le_right Aa) (Nat.lt_of_le_of_lt Nat.and_le_right Aa)
 rw[e1,e2,e3,e4,hD,e5,e6,hb]
theorem Gt(x y c:Int)(w:World)(hx:0<=x)(hx':x < 4294967296)(hy:0<=y)(hy':y < 4294967296)(hc:0<=c)(hc':c<=1) :
  Calls Tryz.prog 187 #[.int .u32 x,.int .u32 y,.int .u32 c] w fun e w'=>e = .returned (.tuple #[.int .u32 ((x - y - c) % 4294967296),.int .u32 (TQ x y c)])/\w=w':=by
 have H:=Af (Y3 x y c hx hx' hy hy' hc hc')
 go_enter Tryz.func187,Tryz.ntmps187
 go_wp2
 go_ret2
 exact⟨Xk rfl H.out,rfl⟩
theorem Qw(x:Int)(w:World)(hx : -9223372036854775808<=x)(hx':x < 9223372036854775808) :
  Calls Tryz.prog 192 #[.int .i64 x] w fun e w'=>e = .returned (.int .i64 x.sign)/\w=w':=by
 rcases Int.lt_trichotomy x 0 with h | h | h
 ·go_enter Tryz.func192,Tryz.ntmps192
  go_wp2
  go_ret
  exact⟨Eu (Int.sign_eq_neg_one_of_neg h).symm,rfl⟩
 ·subst h
  go_enter Tryz.func192,Tryz.ntmps192
  go_wp2
  go_ret
  exact⟨rfl,rfl⟩
 ·go_enter Tryz.func192,Tryz.ntmps192
  go_wp2
  go_ret
  exact⟨Eu (Int.sign_eq_one_of_pos h).symm,rfl⟩
theorem JJ:(Tryz.prog.info? 113).map (fun i=>(i.zero,i.size,i.bytes))=some (some (.int .u32 0),1,4):=by kernel_rfl
theorem ET(n:Nat)(x:Int)(hx:x=n)(hn:n<=70368744177664)(w:World) :
  (Instr.makeSlice 24 (.int .i64 x) (.int .i64 x)).run Tryz.prog w = .ok (.slice (some ⟨w.heap.size,0,none⟩) n n) (w.alloc (.cells (FJ n) 113)):=by
 subst hx;obtain⟨i0,hi,hz0,hz1,hz2⟩:=info_parts JJ;have h:=run_make (P:=Tryz.prog) w 24 113 i0 (.int .u32 0) Tryz.underlying24 hi hz0 .i64 .i64 (n:Int) (n:Int) Aa Aa (by rw[hz2];omega) Aa;rw[h,hz1,Nat.mul_one,Int.toNat_natCast];rw[show Value.cells (.int .u32 0)=#[Value.int .u32 0]from rfl,MC]
theorem NN(v:Value)(ds:List Nat)(w:World)(h:BH w v ds)(hn:ds.length<=8796093022208):Bg 167 #[v] w (fun r w'=>BH w' r ds):=by
 obtain⟨A,c,rfl,hl,hc,hd,hA⟩:=h;cases A with
 | none =>
  have h0:ds=[]:=by
   rcases Nat.eq_zero_or_pos ds.length with h | h
   ·exact List.eq_nil_of_length_eq_zero h
   ·obtain⟨a,ha,_⟩:=hA h;cases ha
  subst h0;have hq:=fun w n c=>Lib.run_eql_slice_nil (P:=Tryz.prog) w 24 113 none n c 0 0 Tryz.underlying24
  go_enter Tryz.func167,Tryz.ntmps167
  go_wp2
  go_ret
  exact Ai.mk ⟨none,0,rfl,Ac,Aa,hd,fun h=>by simp at h⟩ (Ext.refl _)
 | some a =>
  have hcell:∀(j:Nat) (u:Value),(ds.map fun d=>Value.int .u32 (d:Nat))[j]? = some u->w.cell? (a.add j)=some u:=by
   intro j u hu;rw[List.getElem?_map]at hu;rcases Nat.lt_or_ge j ds.length with h | h
   ·rw[List.getElem?_eq_getElem h]at hu
    obtain⟨a',ha,hc⟩:=hA Aa;cases ha;rw[hc j h];simpa using hu
   ·rw[List.getElem?_eq_none h]at hu;cases hu
  obtain⟨i0,hi,hz0,hz1,hz2⟩:=info_parts JJ;have hq:=fun w n c=>Lib.run_eql_slice_nil (P:=Tryz.prog) w 24 113 (some a) n c 0 0 Tryz.underlying24;clear hA;have hcell':=Af hcell;clear hcell
  go_enter Tryz.func167,Tryz.ntmps167
  go_wp2_with (at_builtin;refine wpList_append_own _ rfl _ _ 24 rfl w.heap.size 113 i0 (.int .u32 0) 1 4 Tryz.underlying24 hi hz0 hz1 hz2 rfl Ab _ _ _ rfl (World.ownsRow_made w #[] 0 (Nat.le_refl _) (by simp[maxLen]) rfl) a ds.length c (ds.map fun d=>Value.int .u32 (d:Nat)) rfl Ac ?c1 ?c2 ?c3 ?c4 ?c5 ?_)
  case c1=>intro j u hu;exact((Ext.refl w).alloc _).cell (hcell'.out j u hu)
  case c2=>intro u hu;simp at hu;obtain⟨d,_,rfl⟩:=hu;rfl
  case c3=>simp only[maxLen];omega
  case c4=>omega
  case c5=>simp
  intro v' w1 hown hg _;go_wp2
  go_ret
  refine Ai.mk (BH.of_own (by simpa using hown) hd) (((Ext.refl w).alloc _).grown hg ?_);intro k hk;simp[Value.ownBlock]at hk;omega
theorem JM(h l:Int)(hh:0<=h)(hh':h < 4294967296)(hl:0<=l)(hl':l < 4294967296):bits .or .u64 (h*4294967296) l=h*4294967296+l:=by
 obtain⟨H,rfl⟩:=Int.eq_ofNat_of_zero_le hh;obtain⟨L,rfl⟩:=Int.eq_ofNat_of_zero_le hl;have e:=u64_or_nat (H*4294967296) L Aa Aa;have e2:H*4294967296 ||| L=H*4294967296+L:=by
  rw[show H*4294967296=2^32*H from by omega];exact(Nat.two_pow_add_eq_or_of_lt Aa H).symm
 rw[e2]at e;simpa using e
theorem UM(h l d:Int)(w:World)(hh:0<=h)(hl:0<=l)(hl':l < 4294967296)(hd:h < d)(hd':d < 4294967296) :
  Bg 193 #[.int .u32 h,.int .u32 l,.int .u32 d] w (fun r _=>r = .tuple #[.int .u32 ((h*4294967296+l) / d),.int .u32 ((h*4294967296+l) % d)]):=by
 have b1:(d != 0)=true:=by simp;omega
 have b2:decide (d<=h)=false:=by simp;omega
 have q0:0<=(h*4294967296+l) / d:=Int.ediv_nonneg Aa Aa;have q1:(h*4294967296+l) / d < 4294967296:=Int.ediv_lt_of_lt_mul Aa (by
  have:(h+1)*4294967296<=d*4294967296:=by omega
  omega)
 have r0:0<=(h*4294967296+l) % d:=Int.emod_nonneg _ Aa;have r1:(h*4294967296+l) % d < d:=Int.emod_lt_of_pos _ Aa;have d1:1<=d:=by omega
 have ho:=JM h l hh Aa hl hl'
 go_enter Tryz.func193,Tryz.ntmps193
 go_wp2;refine EE 11 [23,24,25,26,27,28,29,30,31,32,6] [8,2] [_,_] [(kv ?_),(kv ?_),(kv ?_),(kv ?_),(kv ?_),(kv ?_),(kv ?_),(kv ?_),(kv ?_),(kv ?_),(kv ?_)] (fun γ w'=>[True,True,True,True,True,True,True,True,True,True,True]) ?s1 ?_
 case s1 =>
  iterate 11 refine⟨?_,?_⟩
  trivial
  iterate 11 focus
   refine Bi fun _ w' he R hR=>?_;have hc:=he.cells;go_simp;(try go_ints);(try(rw[if_neg Aa]));(try(rw[if_pos Aa]));(try go_simp);(try go_ints)
   exact C8 hR
 intro γ w1 hx1 hF;clear hF;simp only[Bw,Nat.reduceAdd];clear γ;go_wp2
 go_ret2
 exact Ai.mk rfl hx1
theorem G7(n:Nat):∀ x,x<=n->x < 2^64->x < 2^Lib.bitLen x/\(x≠0->2^Lib.bitLen x<=2*x):=by
 induction n with
 | zero=>intro x hx _;obtain rfl:x=0:=Aa;exact⟨Ab,fun h=>absurd rfl h⟩
 | succ n ih =>
  intro x hx h64;by_cases h0:x=0
  ·subst h0;exact⟨Ab,fun h=>absurd rfl h⟩
  ·obtain⟨i1,i2⟩:=ih (x / 2) Aa Aa
   rw[Lib.bitLen_half x h0 h64,Nat.add_comm,Nat.pow_succ];refine⟨Aa,fun _=>?_⟩;by_cases h1:x / 2=0
   ·rw[h1]
    have:2^Lib.bitLen 0=1:=by decide
    omega
   ·have:=i2 h1
    omega
theorem Eg(b:Int)(h0:0<=b)(h1:b<=255):wrap64 (Lib.len8 b)=(Lib.bitLen b.toNat:Int):=by
 rw[Lib.len8_of b h0 h1];have:=Lib.bitLen_le8' b h0 h1;exact IntWalk.wrap64_in _ ⟨Aa,Aa⟩
set_option maxRecDepth 100000 in
theorem O0(x:Int)(w:World)(h0:0<=x)(h1:x<=4294967295) :
  Calls Tryz.prog 188 #[.int .u32 x] w fun e w'=>e = .returned (.int .i64 (Lib.bitLen x.toNat))/\w'=w:=by
 have ts:=Tryz.underlying9;by_cases c1:x < 65536
 ·by_cases c2:x < 256
  ·have c3:x<=255:=by omega
   go_enter Tryz.func188,Tryz.ntmps188
   go_wp2
   go_ret
   refine⟨Eu ?_,rfl⟩;have e:=Eg x h0 c3;show wrap64 (wrap64 (Lib.len8 x))=_;rw[e];have:=Lib.bitLen_le8' x h0 c3;exact IntWalk.wrap64_in _ ⟨Aa,Aa⟩
  ·have c3:x / 256<=255:=by omega
   have c4:0<=x / 256:=by omega
   go_enter Tryz.func188,Tryz.ntmps188
   go_wp2
   go_ret
   refine⟨Eu ?_,rfl⟩;show wrap64 (8+wrap64 (Lib.len8 (x / 256)))=_;have l:=Lib.bitLen_le8' (x / 256) c4 c3;have s:=Lib.bitLen_shift8 x.toNat Aa Aa;rw[Eg _ c4 c3,IntWalk.wrap64_in _ ⟨Aa,Aa⟩,s,show(x / 256).toNat=x.toNat / 256 from by omega];omega
 ·by_cases c2:x / 65536 < 256
  ·have c3:x / 65536<=255:=by omega
   have c4:0<=x / 65536:=by omega
   go_enter Tryz.func188,Tryz.ntmps188
   go_wp2
   go_ret
   refine⟨Eu ?_,rfl⟩;show wrap64 (16+wrap64 (Lib.len8 (x / 65536)))=_;have l:=Lib.bitLen_le8' (x / 65536) c4 c3;have s:=Lib.bitLen_shift16 x.toNat Aa Aa;rw[Eg _ c4 c3,IntWalk.wrap64_in _ ⟨Aa,Aa⟩,s,show(x / 65536).toNat=x.toNat / 65536 from by omega];omega
  ·have c3:x / 65536 / 256<=255:=by omega
   have c4:0<=x / 65536 / 256:=by omega
   go_enter Tryz.func188,Tryz.ntmps188
   go_wp2
   go_ret
   refine⟨Eu ?_,rfl⟩;show wrap64 (24+wrap64 (Lib.len8 (x / 65536 / 256)))=_;have l:=Lib.bitLen_le8' (x / 65536 / 256) c4 c3;have s:=Lib.bitLen_shift24 x.toNat Aa Aa;rw[Eg _ c4 c3,IntWalk.wrap64_in _ ⟨Aa,Aa⟩,s,show(x / 65536 / 256).toNat=x.toNat / 16777216 from by omega];rw[show(x / 65536 / 256).toNat=x.toNat / 16777216 from by omega]at l;omega
theorem WU(x:Int)(w:World)(h0:0<=x)(h1:x<=4294967295) :
  Calls Tryz.prog 182 #[.int .u32 x] w fun e w'=>e = .returned (.int .i64 (32 - (Lib.bitLen x.toNat:Int)))/\w=w':=by
 have hb:(Lib.bitLen x.toNat:Int)<=32:=by
  have:=Lib.bitLen_le x.toNat 32 Ab Aa;omega
 go_enter Tryz.func182,Tryz.ntmps182
 go_wp2_with (go_at_call 188;refine(O0 _ _ Aa Aa).mono ?_;rintro e w' ⟨rfl,rfl⟩)
 go_ret
 exact⟨rfl,rfl⟩
def lz(x:Nat):Nat:=32 - Lib.bitLen x
theorem ZF{x:Nat}(h0:0 < x)(h1:x < 4294967296):lz x < 32/\(x+1)*2^lz x<=4294967296/\2147483648<=x*2^lz x:=by
 have hl:=Lib.bitLen_le x 32 Ab Aa;obtain⟨b1,b2⟩:=G7 x x (Nat.le_refl _) Aa;have b2:=b2 Aa;have hp:0 < Lib.bitLen x:=by
  rcases Nat.eq_zero_or_pos (Lib.bitLen x)with h | h
  ·rw[h]at b1;omega
  ·exact h
 unfold lz;generalize Lib.bitLen x=b at *;have e:2^b*2^(32 - b)=4294967296:=by rw[<-Nat.pow_add,show b+(32 - b)=32 from by omega]
 refine⟨Aa,?_,?_⟩
 ·rw[<-e];exact Nat.mul_le_mul_right _ b1
 ·have:=Nat.mul_le_mul_right (2^(32 - b)) b2
  rw[e,Nat.mul_assoc]at this;omega
theorem cZ(x:Nat)(w:World)(h1:x < 4294967296) :
  Calls Tryz.prog 182 #[.int .u32 (x:Nat)] w fun e w'=>e = .returned (.int .i64 (lz x:Nat))/\w=w':=by
 refine(WU (x:Nat) w Aa Aa).mono ?_;rintro e w' ⟨rfl,rfl⟩;have hl:=Lib.bitLen_le x 32 Ab Aa;refine⟨Eu ?_,rfl⟩;unfold lz;rw[Int.toNat_natCast];omega
/-- bigint.trimmed: the digits without leading zeros,in their place. -/
theorem Mi(A:Option Addr)(c:Nat)(ds:List Nat)(w:World)(hl:ds.length<=c)(hc:c<=9223372036854775807)(hA:FP w A ds) :
  Calls Tryz.prog 144 #[.slice A ds.length c] w fun e w'=>e = .returned (.slice A (trim ds).length c)/\w=w':=by
 obtain⟨hd,hA⟩:=hA
 go_enter Tryz.func144,Tryz.ntmps144
 go_wp2
 go_loop [0] (fun v=>∃ m:Nat,m<=ds.length/\v = .slice A m c/\∀ j,m<=j->(h:j < ds.length)->ds[j]=0) (fun v=>match v with | .slice _ m _=>m | _=>0)
 case atStart=>exact⟨ds.length,Nat.le_refl _,rfl,fun j h1 h2=>Aa⟩
 case round =>
  obtain⟨m,hm,rfl,hz⟩:=hrel;by_cases h0:0 < m
  ·obtain⟨m,rfl⟩:∃ k,m=k+1:=⟨m - 1,Aa⟩
   obtain⟨a,rfl,hcell⟩:=hA Aa;have hcm:=hcell m Aa;by_cases hd0:ds[m]'(Aa)=0
   ·have hb:(((ds[m]'(Aa):Nat):Int)==0)=true:=by simp[hd0]
    clear hcell hA;go_wp2
    go_round
    case rel=>exact⟨m,Aa,rfl,fun j h1 h2=>by
     rcases Nat.eq_or_lt_of_le h1 with e | e
     ·subst e;exact hd0
     ·exact hz j Aa h2⟩
    case measure=>simp
   ·have hb:(((ds[m]'(Aa):Nat):Int)==0)=false:=by simp;omega
    clear hA;go_wp2
    go_ret
    have ht:=KP hm hz (fun h _=>by simpa using hd0);have hlen:(trim ds).length=m+1:=by rw[<-ht];simp;omega
    exact⟨by rw[hlen];rfl,rfl⟩
  ·obtain rfl:m=0:=by omega
   go_wp2
   go_ret
   have ht:=KP hm hz (fun h hh=>Aa);have hlen:(trim ds).length=0:=by rw[<-ht];rfl
   exact⟨by rw[hlen];rfl,rfl⟩
theorem FX(v:Value)(ds:List Nat)(w:World)(h:BH w v ds):Bg 144 #[v] w (fun r w'=>BH w' r (trim ds)):=by
 obtain⟨A,c,rfl,hl,hc,hA⟩:=h;refine(Mi A c ds w hl hc hA).mono ?_;rintro e w' ⟨rfl,rfl⟩;exact Ai.mk ⟨A,c,rfl,by have:=R9 ds;omega,hc,hA.trim⟩ (Ext.refl _)
theorem Cu{w:World}{A:Option Addr}{ds:List Nat}(h:FP w A ds){k:Nat}(hk:k < ds.length):∃ a,A=some a/\w.cell? (a.add k)=some (.int .u32 (dg ds k:Nat)):=by
 obtain⟨a,e,hc⟩:=h.2 Aa;exact⟨a,e,by rw[hc k hk,DN hk]⟩
theorem X8(v u:Value)(ds es:List Nat)(w:World)(hv:BH w v ds)(hu:BH w u es)(hn:ds.length<=4398046511104)(hm:es.length<=4398046511104) :
  Bg 169 #[v,u] w (fun r w'=>∃ l,BH w' r l/\nv l=nv ds+nv es/\l.length=max ds.length es.length+1):=by
 obtain⟨A,p1,rfl,hl,hc,hA⟩:=hv;obtain⟨E,p2,rfl,hl',hc',hE⟩:=hu;by_cases hlt:ds.length < es.length
 ·have hb0:decide (ds.length < es.length)=true:=by simp;omega --@1 --@2   · have hb0:decide (ds.length < es.length)=false:=by simp;omega
  have hmk:=fun W=>ET (es.length+1) ((es.length:Int)+1) Aa Aa W
  go_enter Tryz.func169,Tryz.ntmps169
  go_wp2
  go_loopw [6,23] (fun cv iv wr=>∃ (k c0:Nat) (l:List Nat),k<=es.length/\iv = .int .i64 k/\cv = .int .u32 c0/\c0<=1/\l.length=es.length+1/\BA wr w.heap.size 113 l/\Bc l/\nv (l.take k)+c0*bp k=nv (es.take k)+nv (ds.take k)/\Ext w wr) (fun _ iv _=>es.length - (intOf iv).toNat)
  case atStart=>exact⟨0,0,_,Nat.zero_le _,rfl,rfl,Nat.zero_le _,List.length_replicate,BA.new _ _ _,Bc.zeros _,by simp[C9],(Ext.refl w).alloc _⟩
  case round =>
   obtain⟨k,c0,l,hk,rfl,rfl,hc0,hll,hblk,hdl,hval,hx⟩:=hrel;have hfz:=hblk.frozen k;have hcl:=hblk.celld (i:=k) Aa;by_cases hkl:k < es.length
   ·obtain⟨a,rfl,hca⟩:=Cu hE hkl
    have hca:=hx.cell hca;have x1:=AZ hE.1 k;have y1:=AZ hA.1 k;generalize hxx:dg es k=x at *;generalize hyy:dg ds k=y at *;have Hx:=Af hxx;clear hxx;have Hy:=Af hyy;clear hyy;have Hv:=Af hval;clear hval;have Hll:=Af hll;clear hll;by_cases hke:k < ds.length
    ·obtain⟨b,rfl,hcb⟩:=Cu hA hke
     rw[Hy.out]at hcb;have hcb:=hx.cell hcb
     go_wp2_with (go_at_call 186;refine(Gi _ _ _ _ Aa Aa Aa Aa Aa Aa).mono ?_;rintro e w' ⟨rfl,rfl⟩)
     go_roundw
     case rel =>
      refine⟨k+1,(x+y+c0) / 4294967296,l.set k ((x+y+c0) % 4294967296),Aa,by go_num,by go_num,Aa,by simpa using Hll.out,hblk.setI _ _ Aa,hdl.set Aa _,?_,hx.setCell _ _ (Nat.le_refl _)⟩;rw[BP (by have:=Hll.out;omega),AP,AP,Hx.out,Hy.out,BO];exact IA Hv.out
     case measure=>simp[intOf];omega
    ·obtain rfl:y=0:=by rw[<-Hy.out];exact LV Aa
     go_wp2_with (go_at_call 186;refine(Gi _ _ _ _ Aa Aa Aa Aa Aa Aa).mono ?_;rintro e w' ⟨rfl,rfl⟩)
     go_roundw
     case rel =>
      refine⟨k+1,(x+0+c0) / 4294967296,l.set k ((x+0+c0) % 4294967296),Aa,by go_num,by go_num,Aa,by simpa using Hll.out,hblk.setI _ _ Aa,hdl.set Aa _,?_,hx.setCell _ _ (Nat.le_refl _)⟩;rw[BP (by have:=Hll.out;omega),AP,AP,Hx.out,Hy.out,BO];exact IA Hv.out
     case measure=>simp[intOf];omega
   ·obtain rfl:k=es.length:=by omega
    have Hll:=Af hll;clear hll;go_wp2
    go_ret
    have hll:=Hll.out;have hb:=hblk.setI es.length c0 (z:=(c0:Int)) rfl;have hnv:nv (l.set es.length c0)=nv ds+nv es:=by
     have h1:=BP (l:=l) (k:=es.length) (d:=c0) Aa;rw[List.take_of_length_le Dq]at h1;rw[h1,Nat.mul_comm,hval,List.take_of_length_le (Nat.le_refl _),List.take_of_length_le Aa];omega
    refine Ai.mk ⟨l.set es.length c0,?_,Aa,by simp[hll];omega⟩ (hx.setCell _ _ (Nat.le_refl _));have hq:=hb.digv (hdl.set Aa _) (c:=es.length+1) (by simp[hll]) Aa;rw[List.length_set,hll]at hq;exact hq
 ·have hb0:decide (ds.length < es.length)=false:=by simp;omega
  have hmk:=fun W=>ET (ds.length+1) ((ds.length:Int)+1) Aa Aa W
  go_enter Tryz.func169,Tryz.ntmps169
  go_wp2
  go_loopw [6,23] (fun cv iv wr=>∃ (k c0:Nat) (l:List Nat),k<=ds.length/\iv = .int .i64 k/\cv = .int .u32 c0/\c0<=1/\l.length=ds.length+1/\BA wr w.heap.size 113 l/\Bc l/\nv (l.take k)+c0*bp k=nv (ds.take k)+nv (es.take k)/\Ext w wr) (fun _ iv _=>ds.length - (intOf iv).toNat)
  case atStart=>exact⟨0,0,_,Nat.zero_le _,rfl,rfl,Nat.zero_le _,List.length_replicate,BA.new _ _ _,Bc.zeros _,by simp[C9],(Ext.refl w).alloc _⟩
  case round =>
   obtain⟨k,c0,l,hk,rfl,rfl,hc0,hll,hblk,hdl,hval,hx⟩:=hrel;have hfz:=hblk.frozen k;have hcl:=hblk.celld (i:=k) Aa;by_cases hkl:k < ds.length
   ·obtain⟨a,rfl,hca⟩:=Cu hA hkl
    have hca:=hx.cell hca;have x1:=AZ hA.1 k;have y1:=AZ hE.1 k;generalize hxx:dg ds k=x at *;generalize hyy:dg es k=y at *;have Hx:=Af hxx;clear hxx;have Hy:=Af hyy;clear hyy;have Hv:=Af hval;clear hval;have Hll:=Af hll;clear hll;by_cases hke:k < es.length
    ·obtain⟨b,rfl,hcb⟩:=Cu hE hke
     rw[Hy.out]at hcb;have hcb:=hx.cell hcb
     go_wp2_with (go_at_call 186;refine(Gi _ _ _ _ Aa Aa Aa Aa Aa Aa).mono ?_;rintro e w' ⟨rfl,rfl⟩)
     go_roundw
     case rel =>
      refine⟨k+1,(x+y+c0) / 4294967296,l.set k ((x+y+c0) % 4294967296),Aa,by go_num,by go_num,Aa,by simpa using Hll.out,hblk.setI _ _ Aa,hdl.set Aa _,?_,hx.setCell _ _ (Nat.le_refl _)⟩;rw[BP (by have:=Hll.out;omega),AP,AP,Hx.out,Hy.out,BO];exact IA Hv.out
     case measure=>simp[intOf];omega
    ·obtain rfl:y=0:=by rw[<-Hy.out];exact LV Aa
     go_wp2_with (go_at_call 186;refine(Gi _ _ _ _ Aa Aa Aa Aa Aa Aa).mono ?_;rintro e w' ⟨rfl,rfl⟩)
     go_roundw
     case rel =>
      refine⟨k+1,(x+0+c0) / 4294967296,l.set k ((x+0+c0) % 4294967296),Aa,by go_num,by go_num,Aa,by simpa using Hll.out,hblk.setI _ _ Aa,hdl.set Aa _,?_,hx.setCell _ _ (Nat.le_refl _)⟩;rw[BP (by have:=Hll.out;omega),AP,AP,Hx.out,Hy.out,BO];exact IA Hv.out
     case measure=>simp[intOf];omega
   ·obtain rfl:k=ds.length:=by omega
    have Hll:=Af hll;clear hll;go_wp2
    go_ret
    have hll:=Hll.out;have hb:=hblk.setI ds.length c0 (z:=(c0:Int)) rfl;have hnv:nv (l.set ds.length c0)=nv es+nv ds:=by
     have h1:=BP (l:=l) (k:=ds.length) (d:=c0) Aa;rw[List.take_of_length_le Dq]at h1;rw[h1,Nat.mul_comm,hval,List.take_of_length_le (Nat.le_refl _),List.take_of_length_le Aa];omega
    refine Ai.mk ⟨l.set ds.length c0,?_,Aa,by simp[hll];omega⟩ (hx.setCell _ _ (Nat.le_refl _));have hq:=hb.digv (hdl.set Aa _) (c:=ds.length+1) (by simp[hll]) Aa;rw[List.length_set,hll]at hq;exact hq
theorem Yc(L X Y p:Nat)(b x y:Nat)(hx:x < 4294967296)(hy:y < 4294967296)(hb:b<=1)(h:L+Y=X+b*p) :
  L+p*((x+4294967296 - y - b) % 4294967296)+(Y+p*y)=X+p*x+(if x < y+b then 1 else 0)*(4294967296*p):=by
 have e:(x+4294967296 - y - b) % 4294967296+y+b=x+(if x < y+b then 1 else 0)*4294967296:=by
  by_cases hc:x < y+b
  ·rw[if_pos hc];omega
  ·rw[if_neg hc];omega
 generalize (x+4294967296 - y - b) % 4294967296=r at *;generalize (if x < y+b then 1 else 0)=q at *;have e2:p*(r+y+b)=p*(x+q*4294967296):=by rw[e]
 grind
theorem WS(v u:Value)(ds es:List Nat)(w:World)(hv:BH w v ds)(hu:BH w u es)(hn:ds.length<=4398046511104)(hle:es.length<=ds.length)(hge:nv es<=nv ds) :
  Bg 170 #[v,u] w (fun r w'=>∃ l,BH w' r l/\nv l=nv ds - nv es/\l.length=ds.length):=by
 obtain⟨A,p1,rfl,hl,hc,hA⟩:=hv;obtain⟨E,p2,rfl,hl',hc',hE⟩:=hu;have hmk:=fun W=>ET ds.length (ds.length:Int) Aa Aa W
 go_enter Tryz.func170,Tryz.ntmps170
 go_wp2
 go_loopw [6,15] (fun cv iv wr=>∃ (k c0:Nat) (l:List Nat),k<=ds.length/\iv = .int .i64 k/\cv = .int .u32 c0/\c0<=1/\l.length=ds.length/\BA wr w.heap.size 113 l/\Bc l/\nv (l.take k)+nv (es.take k)=nv (ds.take k)+c0*bp k/\Ext w wr) (fun _ iv _=>ds.length - (intOf iv).toNat)
 case atStart=>exact⟨0,0,_,Nat.zero_le _,rfl,rfl,Nat.zero_le _,List.length_replicate,BA.new _ _ _,Bc.zeros _,by simp[C9],(Ext.refl w).alloc _⟩
 case round =>
  obtain⟨k,c0,l,hk,rfl,rfl,hc0,hll,hblk,hdl,hval,hx⟩:=hrel;have hfz:=hblk.frozen k;by_cases hkl:k < ds.length
  ·have hcl:=hblk.celld (i:=k) Aa
   obtain⟨a,rfl,hca⟩:=Cu hA hkl;have hca:=hx.cell hca;have x1:=AZ hA.1 k;have y1:=AZ hE.1 k;generalize hxx:dg ds k=x at *;generalize hyy:dg es k=y at *;have Hx:=Af hxx;clear hxx;have Hy:=Af hyy;clear hyy;have Hv:=Af hval;clear hval;have Hll:=Af hll;clear hll;have fin:∀ z,z=y->nv ((l.set k ((x+4294967296 - z - c0) % 4294967296)).take (k+1))+nv (es.take (k+1))=nv (ds.take (k+1))+(if x < z+c0 then 1 else 0)*bp (k+1):=by
    rintro z rfl;rw[BP (by have:=Hll.out;omega),AP,AP,Hx.out,Hy.out,BO];exact Yc _ _ _ _ _ _ _ x1 y1 hc0 Hv.out
   have Hfin:=Af fin;clear fin;by_cases hke:k < es.length
   ·obtain⟨b,rfl,hcb⟩:=Cu hE hke
    rw[Hy.out]at hcb;have hcb:=hx.cell hcb;have hbm:=OU x y c0
    go_wp2_with (go_at_call 187;refine(Gt _ _ _ _ Aa Aa Aa Aa Aa Aa).mono ?_;rintro e w' ⟨rfl,rfl⟩)
    go_roundw
    case rel =>
     refine⟨k+1,if x < y+c0 then 1 else 0,l.set k ((x+4294967296 - y - c0) % 4294967296),Aa,by go_num,?_,by split<;>omega,by simpa using Hll.out,hblk.setI _ _ Aa,hdl.set Aa _,Hfin.out y rfl,hx.setCell _ _ (Nat.le_refl _)⟩;unfold TQ;split<;>split<;>first | rfl | omega
    case measure=>simp[intOf];omega
   ·obtain rfl:y=0:=by rw[<-Hy.out];exact LV Aa
    have hbm:=OU x 0 c0
    go_wp2_with (go_at_call 187;refine(Gt _ _ _ _ Aa Aa Aa Aa Aa Aa).mono ?_;rintro e w' ⟨rfl,rfl⟩)
    go_roundw
    case rel =>
     refine⟨k+1,if x < 0+c0 then 1 else 0,l.set k ((x+4294967296 - 0 - c0) % 4294967296),Aa,by go_num,?_,by split<;>omega,by simpa using Hll.out,hblk.setI _ _ Aa,hdl.set Aa _,Hfin.out 0 rfl,hx.setCell _ _ (Nat.le_refl _)⟩;unfold TQ;split<;>split<;>first | rfl | omega
    case measure=>simp[intOf];omega
  ·obtain rfl:k=ds.length:=by omega
   have Hll:=Af hll;clear hll;go_wp2
   go_ret
   have hll:=Hll.out;rw[List.take_of_length_le Aa,List.take_of_length_le hle,List.take_of_length_le (Nat.le_refl _)]at hval;have hb:=Ey hdl;have hc00:c0=0:=by
    rcases Nat.eq_zero_or_pos c0 with h | h
    ·exact h
    ·obtain rfl:c0=1:=by omega
     rw[hll]at hb;omega
   subst hc00;refine Ai.mk ⟨l,?_,Aa,hll⟩ hx;have hq:=hblk.digv hdl (c:=ds.length) Aa Aa;rw[hll]at hq;exact hq
theorem UW{w:World}{g:Nat}{t:TypeId}{a:Nat}(h:w.heap[g]? = some (.cells #[.int .u32 (a:Nat)] t (0,0))):BA w g t [a]:=h
theorem NH{w:World}{g:Nat}{t:TypeId}{a b:Nat}(h:w.heap[g]? = some (.cells #[.int .u32 (a:Nat),.int .u32 (b:Nat)] t (0,0))):BA w g t [a,b]:=h
theorem Ij(n:Nat)(x:Int)(hxn:x=n)(w:World)(hn:n < 18446744073709551616) :
  Bg 160 #[.int .u64 x] w (fun r w'=>∃ l,BH w' r l/\nv l=n/\JH l/\l.length<=2):=by
 have h0:0<=x:=by omega
 have h1:x < 18446744073709551616:=by omega
 have Hx:=Af hxn;clear hxn;by_cases c0:x=0
 ·subst c0
  go_enter Tryz.func160,Tryz.ntmps160
  go_wp2
  go_ret
  refine Ai.mk ⟨[],⟨none,0,rfl,Ac,Aa,Bc.nil,fun h=>by simp at h⟩,?_,JH.nil,Ac⟩ (Ext.refl _);have:=Hx.out;simp only[C9];omega
 ·have b0:(x==0)=false:=by simpa using c0
  have Hc:=Af c0;clear c0;by_cases c1:x < 4294967296
  ·go_enter Tryz.func160,Tryz.ntmps160
   go_wp2
   go_ret
   have hx:=Hx.out;have hc:=Hc.out;refine Ai.mk ⟨[n],?_,by simp[Cm,C9],?_,Ac⟩ ((Ext.refl _).alloc _)
   ·have hb:BA (w.alloc (.cells #[.int .u32 x] 113)) w.heap.size 113 [n]:=by
     rw[hx];exact UW (heap_alloc_new w _)
    exact hb.digv (Bc.cons Aa Bc.nil) (c:=1) Ac Aa
   ·intro _;simp;omega
  ·go_enter Tryz.func160,Tryz.ntmps160
   go_wp2
   go_ret
   have hx:=Hx.out;refine Ai.mk ⟨[n % 4294967296,n / 4294967296],?_,by simp[Cm,C9];omega,?_,Ac⟩ ((Ext.refl _).alloc _)
   ·have hb:BA (w.alloc (.cells #[.int .u32 (x % 4294967296),.int .u32 (x / 4294967296)] 113)) w.heap.size 113 [n % 4294967296,n / 4294967296]:=by
     have e:x % 4294967296=((n % 4294967296:Nat):Int):=by omega
     have e':x / 4294967296=((n / 4294967296:Nat):Int):=by omega
     rw[e,e'];exact NH (heap_alloc_new w _)
    exact hb.digv (Bc.cons Aa (Bc.cons Aa Bc.nil)) (c:=2) Ac Aa
   ·intro _;simp;omega
theorem UU(h l:Int)(hh:0<=h)(hh':h < 4294967296)(hl:0<=l)(hl':l < 4294967296):bits .or .u64 (h*4294967296) l=l+4294967296*h:=by rw[JM h l hh hh' hl hl'];omega
theorem N9(v:Value)(ds:List Nat)(w:World)(hv:BH w v ds)(hl:ds.length<=2) :
  Bg 173 #[v] w (fun r _=>r = .int .u64 (nv ds:Nat)):=by
 obtain⟨A,c,rfl,hlc,hc,hd,hA⟩:=hv
 match ds,hl,hlc,hd,hA with
 | [],_,hlc,hd,hA =>
  clear hd hA
  go_enter Tryz.func173,Tryz.ntmps173
  go_wp2
  go_ret
  exact Ai.mk rfl (Ext.refl _)
 | [a],_,hlc,hd,hA =>
  obtain⟨p,rfl,hcell⟩:=hA Ac;have c0:w.cell? p=some (.int .u32 (a:Nat)):=hcell 0 Ac;have ha:=hd a Ac;clear hcell hA hd
  go_enter Tryz.func173,Tryz.ntmps173
  go_wp2
  go_ret
  refine Ai.mk ?_ (Ext.refl _);simp[Cm,C9]
 | [a,b],_,hlc,hd,hA =>
  obtain⟨p,rfl,hcell⟩:=hA Ac;have c0:w.cell? p=some (.int .u32 (a:Nat)):=hcell 0 Ac;have c1:w.cell? ⟨p.block,p.off+1,none⟩=some (.int .u32 (b:Nat)):=hcell 1 Ac;have ha:=hd a Ac;have hb:=hd b Ac;have ho:=UU b a Aa Aa Aa Aa;clear hcell hA hd
  go_enter Tryz.func173,Tryz.ntmps173
  go_wp2;refine EE 9 [13,14,15,16,17,18,19,20,21] [0] [_] [(kv ?_),(kv ?_),(kv ?_),(kv ?_),(kv ?_),(kv ?_),(kv ?_),(kv ?_),(kv ?_)] (fun γ w'=>[True,True,True,True,True,True,True,True,True]) ?s1 ?_
  case s1 =>
   iterate 9 refine⟨?_,?_⟩
   trivial
   iterate 9 focus
    refine Bi fun _ w' he R hR=>?_;have hc:=he.cells;have cq0:=he.cell c0;have cq1:=he.cell c1;go_simp;(try go_ints);(try(rw[if_neg Aa]));(try(rw[if_pos Aa]));(try go_simp);(try go_ints)
    exact C8 hR
  intro γ w1 hx1 hF;clear hF;simp only[Bw,Nat.reduceAdd];clear γ;go_wp2
  go_ret
  refine Ai.mk ?_ hx1;simp[Cm,C9]
def cmp(x y:Nat):Int:=((x:Int) - y).sign
theorem Oa{x y:Nat}(h:x < y):cmp x y = -1:=Int.sign_eq_neg_one_of_neg Aa
theorem PO{x y:Nat}(h:y < x):cmp x y=1:=Int.sign_eq_one_of_pos Aa
theorem cmp_eq{x y:Nat}(h:x=y):cmp x y=0:=by subst h;unfold cmp;rw[Int.sub_self];rfl
theorem KS{ds es:List Nat}(hd:Bc ds)(he:Bc es){k:Nat}(hk:k < ds.length)(hk':k < es.length)(h:nv (ds.drop (k+1))=nv (es.drop (k+1)))(hlt:dg ds k < dg es k):nv ds < nv es:=by
 have h1:=Eo ds k Aa;have h2:=Eo es k Aa;rw[Ep hk]at h1;rw[Ep hk']at h2;rw[DN hk,DN hk']at hlt;have l1:=Ey (hd.take k);rw[List.length_take,Nat.min_eq_left Aa]at l1;rw[h1,h2,h];have:bp k*(ds[k]+1+4294967296*nv (es.drop (k+1)))<=bp k*(es[k]+4294967296*nv (es.drop (k+1))):=Nat.mul_le_mul_left _ Aa;generalize nv (es.drop (k+1))=M at *;simp only[Nat.mul_add,Nat.mul_one]at this ⊢;omega
theorem EI(v u:Value)(ds es:List Nat)(w:World)(hv:BH w v ds)(hu:BH w u es)(htd:JH ds)(hte:JH es)(hn:ds.length<=4398046511104)(hm:es.length<=4398046511104) :
  Bg 180 #[v,u] w (fun r _=>r = .int .i64 (cmp (nv ds) (nv es))):=by
 obtain⟨A,p1,rfl,hl,hc,hA⟩:=hv;obtain⟨E,p2,rfl,hl',hc',hE⟩:=hu;by_cases hne:ds.length=es.length
 ·have hb0:((ds.length:Int) != es.length)=false:=by simp[hne]
  have Hne:=Af hne;clear hne;have hle:es.length<=ds.length:=by have:=Hne.out;omega
  go_enter Tryz.func180,Tryz.ntmps180
  go_wp2
  go_loopw [5] (fun iv wr=>∃ k:Nat,k<=ds.length/\(∃ q:Int,q+1=k/\iv = .int .i64 q)/\nv (ds.drop k)=nv (es.drop k)/\Ext w wr) (fun iv _=>(intOf iv+1).toNat)
  case atStart=>exact⟨ds.length,Nat.le_refl _,⟨_,Aa,rfl⟩,by rw[List.drop_length,List.drop_of_length_le hle],Ext.refl _⟩
  case round =>
   obtain⟨k,hk,⟨q,hq,rfl⟩,hval,hx⟩:=hrel;have Hv:=Af hval;clear hval;by_cases hk0:0 < k
   ·obtain⟨k,rfl⟩:∃ j,k=j+1:=⟨k - 1,Aa⟩
    obtain rfl:q=(k:Int):=by omega
    clear hq;have hke:k < es.length:=by have:=Hne.out;omega
    obtain⟨a,rfl,hca⟩:=Cu hA (k:=k) Aa;obtain⟨b,rfl,hcb⟩:=Cu hE (k:=k) hke;replace hca:=hx.cell hca;replace hcb:=hx.cell hcb;have x1:=AZ hA.1 k;have y1:=AZ hE.1 k;generalize hxx:dg ds k=x at *;generalize hyy:dg es k=y at *;have Hx:=Af hxx;clear hxx;have Hy:=Af hyy;clear hyy;rcases Nat.lt_trichotomy x y with hlt | heq | hgt
    ·have b1:((x:Int) != y)=true:=by simp;omega
     have b2:decide ((x:Int) < y)=true:=by simp;omega
     go_wp2;refine EE 8 [24,25,26,27,28,29,30,31] [0,5,1] [_,_,_] [(kv ?_),(kv ?_),(kv ?_),(kv ?_),(kv ?_),(kv ?_),(kv ?_),(kv ?_)] (fun γ w'=>[True,True,True,True,True,True,True,True]) ?s2 ?_
     case s2 =>
      iterate 8 refine⟨?_,?_⟩
      trivial
      iterate 8 focus
       refine Bi fun _ w' he R hR=>?_;have hc:=he.cells;have cq0:=he.cell hca;have cq1:=he.cell hcb;go_simp;(try go_ints);(try(rw[if_neg Aa]));(try(rw[if_pos Aa]));(try go_simp);(try go_ints)
       exact C8 hR
     intro γ w1 hx1 hF;clear hF;simp only[Bw,Nat.reduceAdd];clear γ;replace hca:=hx1.cell hca;replace hcb:=hx1.cell hcb;go_wp2;refine EE 8 [33,34,35,36,37,38,39,40] [0,5,1] [_,_,_] [(kv ?_),(kv ?_),(kv ?_),(kv ?_),(kv ?_),(kv ?_),(kv ?_),(kv ?_)] (fun γ w'=>[True,True,True,True,True,True,True,True]) ?s3 ?_
     case s3 =>
      iterate 8 refine⟨?_,?_⟩
      trivial
      iterate 8 focus
       refine Bi fun _ w' he R hR=>?_;have hc:=he.cells;have cq0:=he.cell hca;have cq1:=he.cell hcb;go_simp;(try go_ints);(try(rw[if_neg Aa]));(try(rw[if_pos Aa]));(try go_simp);(try go_ints)
       exact C8 hR
     intro γ w2 hx2 hF;clear hF;simp only[Bw,Nat.reduceAdd];clear γ;go_wp2
     go_ret
     refine Ai.mk ?_ ((hx.trans hx1).trans hx2);rw[Oa (KS hA.1 hE.1 Aa hke Hv.out (by rw[Hx.out,Hy.out];exact hlt))];rfl
    ·subst heq
     have b1:((x:Int) != x)=false:=by simp
     go_wp2;refine EE 8 [24,25,26,27,28,29,30,31] [0,5,1] [_,_,_] [(kv ?_),(kv ?_),(kv ?_),(kv ?_),(kv ?_),(kv ?_),(kv ?_),(kv ?_)] (fun γ w'=>[True,True,True,True,True,True,True,True]) ?s4 ?_
     case s4 =>
      iterate 8 refine⟨?_,?_⟩
      trivial
      iterate 8 focus
       refine Bi fun _ w' he R hR=>?_;have hc:=he.cells;have cq0:=he.cell hca;have cq1:=he.cell hcb;go_simp;(try go_ints);(try(rw[if_neg Aa]));(try(rw[if_pos Aa]));(try go_simp);(try go_ints)
       exact C8 hR
     intro γ w1 hx1 hF;clear hF;simp only[Bw,Nat.reduceAdd];clear γ;go_wp2
     go_roundw
     case rel =>
      refine⟨k,Aa,⟨_,Aa,rfl⟩,?_,hx.trans hx1⟩;rw[Ep Aa,Ep hke,<-DN,<-DN,Hx.out,Hy.out,Hv.out]
     case measure=>simp[intOf]<;>omega
    ·have b1:((x:Int) != y)=true:=by simp;omega
     have b2:decide ((x:Int) < y)=false:=by simp;omega
     go_wp2;refine EE 8 [24,25,26,27,28,29,30,31] [0,5,1] [_,_,_] [(kv ?_),(kv ?_),(kv ?_),(kv ?_),(kv ?_),(kv ?_),(kv ?_),(kv ?_)] (fun γ w'=>[True,True,True,True,True,True,True,True]) ?s5 ?_
     case s5 =>
      iterate 8 refine⟨?_,?_⟩
      trivial
      iterate 8 focus
       refine Bi fun _ w' he R hR=>?_;have hc:=he.cells;have cq0:=he.cell hca;have cq1:=he.cell hcb;go_simp;(try go_ints);(try(rw[if_neg Aa]));(try(rw[if_pos Aa]));(try go_simp);(try go_ints)
       exact C8 hR
     intro γ w1 hx1 hF;clear hF;simp only[Bw,Nat.reduceAdd];clear γ;replace hca:=hx1.cell hca;replace hcb:=hx1.cell hcb;go_wp2;refine EE 8 [33,34,35,36,37,38,39,40] [0,5,1] [_,_,_] [(kv ?_),(kv ?_),(kv ?_),(kv ?_),(kv ?_),(kv ?_),(kv ?_),(kv ?_)] (fun γ w'=>[True,True,True,True,True,True,True,True]) ?s6 ?_
     case s6 =>
      iterate 8 refine⟨?_,?_⟩
      trivial
      iterate 8 focus
       refine Bi fun _ w' he R hR=>?_;have hc:=he.cells;have cq0:=he.cell hca;have cq1:=he.cell hcb;go_simp;(try go_ints);(try(rw[if_neg Aa]));(try(rw[if_pos Aa]));(try go_simp);(try go_ints)
       exact C8 hR
     intro γ w2 hx2 hF;clear hF;simp only[Bw,Nat.reduceAdd];clear γ;go_wp2
     go_ret
     refine Ai.mk ?_ ((hx.trans hx1).trans hx2);rw[PO (KS hE.1 hA.1 hke Aa Hv.out.symm (by rw[Hx.out,Hy.out];exact hgt))];rfl
   ·obtain rfl:k=0:=by omega
    have q1:q < 0:=by omega
    have Hq:=Af hq;clear hq;go_wp2
    go_ret
    refine Ai.mk ?_ hx;rw[cmp_eq (by simpa using Hv.out)];rfl
 ·have hb0:((ds.length:Int) != es.length)=true:=by simp;omega
  go_enter Tryz.func180,Tryz.ntmps180
  go_wp2_with (go_at_call 192;refine(Qw _ _ Aa Aa).mono ?_;rintro e w' ⟨rfl,rfl⟩)
  go_ret
  refine Ai.mk ?_ (Ext.refl _);rcases Nat.lt_or_ge ds.length es.length with h | h
  ·rw[Oa (Jt hA.1 hte h)]
   exact congrArg (Value.int .i64) (Int.sign_eq_neg_one_of_neg Aa)
  ·rw[PO (Jt hE.1 htd Aa)]
   exact congrArg (Value.int .i64) (Int.sign_eq_one_of_pos Aa)
theorem Yo{l:List Nat}{p d:Nat}(hp:p < l.length):nv (l.set p d)+bp p*dg l p=nv l+bp p*d:=by
 have hp':p < (l.set p d).length:=by simpa using hp
 have h1:=Eo l p Aa;have h2:=Eo (l.set p d) p Aa;rw[Ep hp]at h1;rw[Ep hp']at h2;rw[DN hp,h1,h2];simp only[List.take_set_of_le (Nat.le_refl p),List.getElem_set_self,List.drop_set_of_lt (Nat.lt_succ_self p)];grind
theorem Gf{l:List Nat}{p q d:Nat}(h:q≠p):dg (l.set p d) q=dg l q:=by
 unfold dg;rw[List.getD_eq_getElem?_getD,List.getD_eq_getElem?_getD,List.getElem?_set_ne Aa]
theorem XJ{M M' N pi pj E x y z c:Nat}(hM:M'+(pi*pj)*z=M+(pi*pj)*((x*y+z+c) % 4294967296))(h:M+c*(pi*pj)=N+x*pi*E) :
  M'+(x*y+z+c) / 4294967296*(pi*(4294967296*pj))=N+x*pi*(E+pj*y):=by
 have e:(x*y+z+c) % 4294967296+4294967296*((x*y+z+c) / 4294967296)=x*y+z+c:=Nat.mod_add_div _ _;generalize (x*y+z+c) % 4294967296=r at *;generalize (x*y+z+c) / 4294967296=q at *;grind
theorem V7(v u:Value)(ds es:List Nat)(w:World)(hv:BH w v ds)(hu:BH w u es)(hn:ds.length<=4398046511104)(hm:es.length<=4398046511104) :
  Bg 161 #[v,u] w (fun r w'=>∃ l,BH w' r l/\nv l=nv ds*nv es/\l.length<=ds.length+es.length):=by
 obtain⟨A,p1,rfl,hl,hc,hA⟩:=hv;obtain⟨E,p2,rfl,hl',hc',hE⟩:=hu;by_cases h0:ds.length=0
 ·obtain rfl:=List.eq_nil_of_length_eq_zero h0
  clear hA hE
  go_enter Tryz.func161,Tryz.ntmps161
  go_wp2
  go_ret
  exact Ai.mk ⟨[],⟨none,0,rfl,Ac,Aa,Bc.nil,fun h=>by simp at h⟩,by simp[C9],Ac⟩ (Ext.refl _)
 by_cases h1:es.length=0
 ·have b0:((ds.length:Int)==0)=false:=by simpa using h0
  obtain rfl:=List.eq_nil_of_length_eq_zero h1;clear hA hE
  go_enter Tryz.func161,Tryz.ntmps161
  go_wp2
  go_ret
  exact Ai.mk ⟨[],⟨none,0,rfl,Ac,Aa,Bc.nil,fun h=>by simp at h⟩,by simp[C9],Ac⟩ (Ext.refl _)
 have b0:((ds.length:Int)==0)=false:=by simpa using h0
 have b1:((es.length:Int)==0)=false:=by simpa using h1
 by_cases h2:ds.length=1/\es.length=1
 ·obtain⟨h2,h3⟩:=h2
  match ds,es,h2,h3,hA,hE,b0,b1,hl,hl' with
  | [x],[y],_,_,hA,hE,b0,b1,hl,hl' =>
   clear b0 b1;obtain⟨a,rfl,hca⟩:=Cu hA (k:=0) Ac;obtain⟨b,rfl,hcb⟩:=Cu hE (k:=0) Ac;replace hca:w.cell? a=some (.int .u32 (x:Nat)):=hca;replace hcb:w.cell? b=some (.int .u32 (y:Nat)):=hcb;have hx:x < 4294967296:=hA.1 x Ac;have hy:y < 4294967296:=hE.1 y Ac;have hxy:x*y<=4294967295*4294967295:=Nat.mul_le_mul Aa Aa;have hxy2:x*y < 18446744073709551616:=Nat.lt_of_le_of_lt hxy Ab;have k1:(0:Int)<=(x:Int)*y:=by rw[<-Int.natCast_mul];omega
   have k2:(x:Int)*y < 18446744073709551616:=by rw[<-Int.natCast_mul];omega
   clear hxy;clear hA hE
   go_enter Tryz.func161,Tryz.ntmps161
   go_wp2;refine EE 8 [28,29,30,31,32,33,34,35] [0,1] [_,_] [(kv ?_),(kv ?_),(kv ?_),(kv ?_),(kv ?_),(kv ?_),(kv ?_),(kv ?_)] (fun γ w'=>[True,True,True,True,True,True,True,True]) ?s1 ?_
   case s1 =>
    iterate 8 refine⟨?_,?_⟩
    trivial
    iterate 8 focus
     refine Bi fun _ w' he R hR=>?_;have hc:=he.cells;have cq0:=he.cell hca;have cq1:=he.cell hcb;go_simp;(try go_ints);(try(rw[if_neg Aa]));(try(rw[if_pos Aa]));(try go_simp);(try go_ints)
     exact C8 hR
   intro γ w1 hx1 hF;clear hF;simp only[Bw,Nat.reduceAdd];clear γ
   go_wp2_with (go_at_call 160;refine(Ij (x*y) _ Ac _ Aa).mono ?_;rintro e w2 ⟨r,rfl,⟨l,q1,q2,q3,q4⟩,hx2⟩)
   go_ret
   exact Ai.mk ⟨l,q1,by simpa[Cm,C9] using q2,by simpa using q4⟩ (hx1.trans hx2)
 ·have hor:¬ ((ds.length:Int)=1/\(es.length:Int)=1):=fun⟨a,b⟩=>h2 ⟨Aa,Aa⟩
  have hb2:((ds.length:Int)==1)=false\/(((ds.length:Int)==1)=true/\((es.length:Int)==1)=false):=by
   by_cases q:ds.length=1
   ·right
    refine⟨by simp[q],?_⟩;have:¬ (es.length:Int)=1:=fun e=>hor ⟨Aa,e⟩;simpa using this
   ·left;simp;omega
  clear h2 hor;have hmk:=fun W=>ET (ds.length+es.length) ((ds.length:Int)+es.length) Aa Aa W;rcases hb2 with hb2 | ⟨hb2,hb3⟩
  all_goals
   go_enter Tryz.func161,Tryz.ntmps161
   go_wp2
   go_loopw [46] (fun iv wr=>∃ (i:Nat) (l:List Nat),i<=ds.length/\iv = .int .i64 i/\l.length=ds.length+es.length/\BA wr w.heap.size 113 l/\Bc l/\(∀ q,i+es.length<=q->dg l q=0)/\nv l=nv (ds.take i)*nv es/\Ext w wr) (fun iv _=>ds.length - (intOf iv).toNat)
   case atStart=>exact⟨0,_,Nat.zero_le _,rfl,List.length_replicate,BA.new _ _ _,Bc.zeros _,fun q _=>by unfold dg;rw[List.getD_eq_getElem?_getD,List.getElem?_replicate];split<;>rfl,by rw[Xf];simp[C9],(Ext.refl w).alloc _⟩
   case round =>
    obtain⟨i,l,hi,rfl,hll,hblk,hdl,hz,hval,hx⟩:=hrel;have Hll:=Af hll;clear hll;have Hval:=Af hval;clear hval;have Hz:=Af hz;clear hz;by_cases hil:i < ds.length
    ·obtain⟨a,rfl,hca⟩:=Cu hA hil
     have hcar:=hx.cell hca;have x1:=AZ hA.1 i;generalize hxx:dg ds i=x at *;have Hx:=Af hxx;clear hxx;clear hca;go_wp2;obtain⟨wo,rfl⟩:∃ wo:World,wo=wr:=⟨_,rfl⟩
     go_loopw [8,53] (fun cv jv wr=>∃ (j c0:Nat) (m:List Nat),j<=es.length/\jv = .int .i64 j/\cv = .int .u64 c0/\c0 < 4294967296/\m.length=ds.length+es.length/\BA wr w.heap.size 113 m/\Bc m/\(∀ q,i+es.length<=q->dg m q=0)/\nv m+c0*(bp i*bp j)=nv l+x*bp i*nv (es.take j)/\Ext w wr) (fun _ jv _=>es.length - (intOf jv).toNat)
     case atStart=>exact⟨0,0,l,Nat.zero_le _,rfl,rfl,Aa,Hll.out,hblk,hdl,Hz.out,by simp[C9],hx⟩
     case round =>
      obtain⟨j,c0,m,hj,rfl,rfl,hc0,hml,hbm,hdm,hzm,hvm,hxm⟩:=hrel;have Hml:=Af hml;clear hml;have Hvm:=Af hvm;clear hvm;have Hzm:=Af hzm;clear hzm;by_cases hje:j < es.length
      ·obtain⟨b,rfl,hcb⟩:=Cu hE hje
       replace hcb:=hxm.cell hcb;have y1:=AZ hE.1 j;generalize hyy:dg es j=y at *;have Hy:=Af hyy;clear hyy;have hmc:=hbm.celld (i:=i+j) (by have:=Hml.out;omega);have z1:=AZ hdm (i+j);have hfz:=hbm.frozen (i+j);generalize hzz:dg m (i+j)=z at *;have Hzz:=Af hzz;clear hzz;have hxy:x*y<=4294967295*4294967295:=Nat.mul_le_mul Aa Aa;have hxy2:x*y<=18446744065119617025:=hxy;clear hxy;have k1:(0:Int)<=(x:Int)*y:=by rw[<-Int.natCast_mul];omega
       have k2:(x:Int)*y<=18446744065119617025:=by rw[<-Int.natCast_mul];omega
       have Hxy:=Af hxy2;clear hxy2;go_wp2
       go_roundw
       case rel =>
        have hml:=Hml.out;have e1:(((x*y+z+c0) % 4294967296:Nat):Int)=((x:Int)*y+z+c0) % 4294967296:=by rw[<-Int.natCast_mul];omega
        have e2:(((x*y+z+c0) / 4294967296:Nat):Int)=((x:Int)*y+z+c0) / 4294967296:=by rw[<-Int.natCast_mul];omega
        refine⟨j+1,(x*y+z+c0) / 4294967296,m.set (i+j) ((x*y+z+c0) % 4294967296),Aa,by go_num,by rw[e2],by have:=Hxy.out;omega,by simpa using hml,hbm.setI _ _ e1.symm,hdm.set Aa _,fun q hq=>by rw[Gf Aa];exact Hzm.out q hq,?_,hxm.setCell _ _ (Nat.le_refl _)⟩;have hs:=Yo (l:=m) (p:=i+j) (d:=(x*y+z+c0) % 4294967296) Aa;rw[Hzz.out,MQ]at hs;rw[AP,Hy.out,BO];exact XJ hs Hvm.out
       case measure=>simp[intOf];omega
      ·obtain rfl:j=es.length:=by omega
       have hmc:=hbm.celld (i:=i+es.length) (by have:=Hml.out;omega);have hfz:=hbm.frozen (i+es.length);go_wp2
       go_roundw
       case rel =>
        have hml:=Hml.out;refine⟨i+1,m.set (i+es.length) c0,Aa,by go_num,by simpa using hml,hbm.setI _ _ Aa,hdm.set Aa _,fun q hq=>by rw[Gf Aa];exact Hzm.out q Aa,?_,hxm.setCell _ _ (Nat.le_refl _)⟩;have hs:=Yo (l:=m) (p:=i+es.length) (d:=c0) Aa;rw[Hzm.out _ (Nat.le_refl _),Nat.mul_zero,Nat.add_zero,MQ]at hs;have h1:=Hvm.out;rw[List.take_of_length_le (Nat.le_refl _),Hval.out]at h1;rw[hs,AP,Hx.out,Nat.mul_comm _ c0,h1]
        grind
       case measure=>simp[intOf];omega
    ·obtain rfl:i=ds.length:=by omega
     go_wp2
     go_ret
     have hll:=Hll.out;refine Ai.mk ⟨l,?_,by rw[Hval.out,List.take_of_length_le (Nat.le_refl _)],Aa⟩ hx;have hq:=hblk.digv hdl (c:=ds.length+es.length) Aa Aa;rw[hll]at hq;exact hq
theorem UN(v:Value)(ds:List Nat)(d:Nat)(w:World)(hv:BH w v ds)(hd0:0 < d)(hd1:d < 4294967296)(hn:ds.length<=4398046511104) :
  Bg 181 #[v,.int .u32 (d:Nat)] w (fun r w'=>∃ q l,r = .tuple #[q,.int .u32 ((nv ds % d:Nat):Int)]/\BH w' q l/\nv l=nv ds / d/\l.length=ds.length):=by
 obtain⟨A,p1,rfl,hl,hc,hA⟩:=hv;have hmk:=fun W=>ET ds.length (ds.length:Int) Aa Aa W
 go_enter Tryz.func181,Tryz.ntmps181
 go_wp2
 go_loopw [7,8] (fun rv iv wr=>∃ (k r:Nat) (l:List Nat),k<=ds.length/\(∃ q:Int,q+1=k/\iv = .int .i64 q)/\rv = .int .u32 r/\r < d/\l.length=ds.length/\BA wr w.heap.size 113 l/\Bc l/\nv (l.drop k)*d+r=nv (ds.drop k)/\Ext w wr) (fun _ iv _=>(intOf iv+1).toNat)
 case atStart=>exact⟨ds.length,0,_,Nat.le_refl _,⟨_,Aa,rfl⟩,rfl,hd0,List.length_replicate,BA.new _ _ _,Bc.zeros _,by rw[List.drop_length,List.drop_of_length_le Ac];simp[C9],(Ext.refl w).alloc _⟩
 case round =>
  obtain⟨k,r,l,hk,⟨q,hq,rfl⟩,rfl,hr,hll,hblk,hdl,hval,hx⟩:=hrel;have Hll:=Af hll;clear hll;have Hv:=Af hval;clear hval;by_cases hk0:0 < k
  ·obtain⟨k,rfl⟩:∃ j,k=j+1:=⟨k - 1,Aa⟩
   obtain rfl:q=(k:Int):=by omega
   clear hq;obtain⟨a,rfl,hca⟩:=Cu hA (k:=k) Aa;replace hca:=hx.cell hca;have x1:=AZ hA.1 k;have hkl:k < l.length:=by have:=Hll.out;omega
   generalize hxx:dg ds k=x at *;have Hx:=Af hxx;clear hxx
   go_wp2_with (go_at_call 193;refine(UM _ _ _ _ Aa Aa Aa Aa Aa).mono ?_;rintro e w2 ⟨rr,rfl,rfl,hx2⟩;replace hblk:=hblk.ext hx2;have hcl:=hblk.celld (i:=k) hkl;have hfz:=hblk.frozen k)
   go_roundw
   case rel =>
    have e1:(((r*4294967296+x) / d:Nat):Int)=((r:Int)*4294967296+x) / d:=by simp
    have e2:(((r*4294967296+x) % d:Nat):Int)=((r:Int)*4294967296+x) % d:=by simp
    have hq:(r*4294967296+x) / d < 4294967296:=by
     apply Nat.div_lt_of_lt_mul
     have:(r+1)*4294967296<=d*4294967296:=Nat.mul_le_mul_right _ hr;omega
    refine⟨k,(r*4294967296+x) % d,l.set k ((r*4294967296+x) / d),Aa,⟨_,Aa,rfl⟩,by rw[e2],Nat.mod_lt _ hd0,by simpa using Hll.out,hblk.setI _ _ e1.symm,hdl.set hq _,?_,(hx.trans hx2).setCell _ _ (Nat.le_refl _)⟩;have hkl':k < (l.set k ((r*4294967296+x) / d)).length:=by simpa using hkl
    rw[Ep hkl',Ep (ds:=ds) (i:=k) Aa,<-DN (ds:=ds) (k:=k),Hx.out,<-Hv.out];simp only[List.getElem_set_self,List.drop_set_of_lt (Nat.lt_succ_self k)];have e:d*((r*4294967296+x) / d)+(r*4294967296+x) % d=r*4294967296+x:=Nat.div_add_mod _ _;generalize (r*4294967296+x) / d=qq at *;generalize (r*4294967296+x) % d=rr at *;grind
   case measure=>simp[intOf]<;>omega
  ·obtain rfl:k=0:=by omega
   have q1:q < 0:=by omega
   have Hq:=Af hq;clear hq;go_wp2
   go_ret2
   have hv:=Hv.out;simp only[List.drop_zero]at hv;have e:=Nat.div_add_mod (nv ds) d;have hm:nv ds % d=r:=by rw[<-hv,Nat.mul_add_mod_self_right,Nat.mod_eq_of_lt hr]
   have hqq:nv ds / d=nv l:=by rw[<-hv,Nat.add_comm,Nat.add_mul_div_right _ _ hd0,Nat.div_eq_of_lt hr];omega
   refine Ai.mk ⟨_,l,by rw[hm];rfl,?_,hqq.symm,Hll.out⟩ hx;have hq:=hblk.digv hdl (c:=ds.length) (by have:=Hll.out;omega) Aa;rw[Hll.out]at hq;exact hq
theorem U0{x z s S:Nat}(hS:2^s=S)(hs:s < 32)(hz:z < S):z ||| (x*S % 4294967296)=z+x*S % 4294967296/\z+x*S % 4294967296 < 4294967296:=by
 subst hS;have e:(4294967296:Nat)=2^s*2^(32 - s):=by rw[<-Nat.pow_add,show s+(32 - s)=32 from by omega]
 have h1:x*2^s % 4294967296=2^s*(x % 2^(32 - s)):=by rw[e,Nat.mul_comm x,Nat.mul_mod_mul_left]
 have h2:x % 2^(32 - s)+1<=2^(32 - s):=Nat.mod_lt _ (Nat.two_pow_pos _);have h3:2^s*(x % 2^(32 - s)+1)<=2^s*2^(32 - s):=Nat.mul_le_mul_left _ h2;rw[Nat.mul_add,Nat.mul_one]at h3;rw[<-e]at h3;rw[h1];constructor
 ·rw[Nat.or_comm,<-Nat.two_pow_add_eq_or_of_lt hz,Nat.add_comm]
 ·omega
theorem Td{x z s S:Nat}(hS:2^s=S)(hs:s < 32)(hz:z < S):bits .or .u32 (z:Int) ((x:Int)*S % 4294967296)=(z:Int)+(x:Int)*S % 4294967296:=by
 have⟨h1,h2⟩:=U0 (x:=x) hS hs hz;have h:=u32_or_nat z (x*S % 4294967296) Aa Aa;rw[h1]at h;simpa using h
theorem KW(v:Value)(ds:List Nat)(s:Nat)(w:World)(hv:BH w v ds)(hs:s < 32)(hn:ds.length<=4398046511104) :
  Bg 183 #[v,.int .u64 (s:Nat)] w (fun r w'=>∃ l g,r = .slice (some ⟨g,0,none⟩) (ds.length+1) (ds.length+1)/\w.heap.size<=g/\BA w' g 113 l/\Bc l/\nv l=nv ds*2^s/\l.length=ds.length+1):=by
 obtain⟨A,p1,rfl,hl,hc,hA⟩:=hv;have hmk:=fun W=>ET (ds.length+1) ((ds.length:Int)+1) Aa Aa W;obtain⟨S,hS⟩:∃ S,2^s=S:=⟨_,rfl⟩
 have hSi:(2:Int)^s=(S:Nat):=by rw[<-hS];simp
 have hS1:S<=2147483648:=by rw[<-hS];exact Nat.pow_le_pow_right Ab (show s<=31 by omega)
 have hS0:0 < S:=by rw[<-hS];exact Nat.two_pow_pos _
 rw[hS];have HS:=Af hS;clear hS
 go_enter Tryz.func183,Tryz.ntmps183
 go_wp2
 go_loopw [15] (fun iv wr=>∃ (k:Nat) (l:List Nat),k<=ds.length/\iv = .int .i64 k/\l.length=ds.length+1/\BA wr w.heap.size 113 l/\Bc l/\dg l k < S/\nv (l.take (k+1))=nv (ds.take k)*S/\Ext w wr) (fun iv _=>ds.length - (intOf iv).toNat)
 case atStart =>
  refine⟨0,_,Nat.zero_le _,rfl,List.length_replicate,BA.new _ _ _,Bc.zeros _,?_,?_,(Ext.refl w).alloc _⟩
  ·rw[DN Ac,List.getElem_replicate];exact hS0
  ·rw[List.replicate_succ];simp[Cm,C9]
 case round =>
  obtain⟨k,l,hk,rfl,hll,hblk,hdl,hlo,hval,hx⟩:=hrel;have Hll:=Af hll;clear hll;have Hv:=Af hval;clear hval;by_cases hkl:k < ds.length
  ·obtain⟨a,rfl,hca⟩:=Cu hA hkl
   replace hca:=hx.cell hca;have x1:=AZ hA.1 k;have hcl:=hblk.celld (i:=k) (by have:=Hll.out;omega);have hfz:=hblk.frozen k;have hcl2:=hblk.celld (i:=k+1) (by have:=Hll.out;omega);have hfz2:=hblk.frozen (k+1);generalize hxx:dg ds k=x at *;generalize hzz:dg l k=z at *;have Hx:=Af hxx;clear hxx;have Hz:=Af hzz;clear hzz;have ho:=Td (x:=x) HS.out hs hlo;have hlo2:=(U0 (x:=x) HS.out hs hlo).2;have hxS:x*S<=4294967295*2147483648:=Nat.mul_le_mul Aa hS1
   have hxS2:x*S<=9223372034707292160:=hxS;clear hxS;have hxhi:x*S / 4294967296 < S:=Nat.div_lt_of_lt_mul (by rw[Nat.mul_comm];exact Nat.mul_lt_mul_of_pos_left x1 hS0 |> fun h=>by rw[Nat.mul_comm S,Nat.mul_comm S]at h;rw[Nat.mul_comm];omega);have k1:(0:Int)<=(x:Int)*S:=by rw[<-Int.natCast_mul];omega
   have k2:(x:Int)*S<=9223372034707292160:=by rw[<-Int.natCast_mul];omega
   have e1:((z+x*S % 4294967296:Nat):Int)=(z:Int)+(x:Int)*S % 4294967296:=by rw[<-Int.natCast_mul];omega
   have e2:((x*S / 4294967296:Nat):Int)=(x:Int)*S / 4294967296:=by rw[<-Int.natCast_mul];omega
   have Hh:=Af (Au hxhi (Au hlo2 (Au e1 e2)));clear hxS2 hxhi hlo2 e1 e2;go_wp2
   go_roundw
   case rel =>
    obtain⟨a1,a2,a3,a4⟩:=Hh.out;have hll:=Hll.out;refine⟨k+1,(l.set k (z+x*S % 4294967296)).set (k+1) (x*S / 4294967296),Aa,by go_num,by simpa using hll,(hblk.setI k _ a3.symm).setI (k+1) _ a4.symm,(hdl.set a2 _).set Aa _,?_,?_,(hx.setCell _ _ (Nat.le_refl _)).setCell _ _ (Nat.le_refl _)⟩
    ·rw[DN Dq,List.getElem_set_self];exact a1
    ·rw[BP Dq,BP Aa,AP ds,Hx.out,BO]
     have h1:=Hv.out;rw[AP,Hz.out]at h1;have e:x*S % 4294967296+4294967296*(x*S / 4294967296)=x*S:=Nat.mod_add_div _ _;generalize x*S % 4294967296=r at *;generalize x*S / 4294967296=q at *;grind
   case measure=>simp[intOf]<;>omega
  ·obtain rfl:k=ds.length:=by omega
   go_wp2
   go_ret
   have hll:=Hll.out;have hv:=Hv.out;rw[List.take_of_length_le Aa,List.take_of_length_le (Nat.le_refl _)]at hv;exact Ai.mk ⟨l,_,rfl,Nat.le_refl _,hblk,hdl,hv,hll⟩ hx
theorem Vh(h l:Int)(hh:0<=h)(hh':h < 4294967296)(hl:0<=l)(hl':l < 4294967296):bits .or .u64 l (h*4294967296)=l+4294967296*h:=by
 obtain⟨H,rfl⟩:=Int.eq_ofNat_of_zero_le hh;obtain⟨L,rfl⟩:=Int.eq_ofNat_of_zero_le hl;have e:=u64_or_nat L (H*4294967296) Aa Aa;have e2:L ||| H*4294967296=L+4294967296*H:=by
  rw[Nat.or_comm,show H*4294967296=2^32*H from Aa,<-Nat.two_pow_add_eq_or_of_lt Aa H];omega
 rw[e2]at e;simpa using e
theorem X5{x y S S':Nat}(hS:4294967296=S*S')(hS0:0 < S)(hx:x < 4294967296):(x+4294967296*y) / S % 4294967296*S=(x - x % S)+4294967296*(y % S):=by
 have h1:(x+4294967296*y) / S=x / S+S'*y:=by
  rw[show 4294967296*y=S*(S'*y)from by rw[hS,Nat.mul_assoc],Nat.add_mul_div_left _ _ hS0]
 have hS'0:0 < S':=by
  rcases Nat.eq_zero_or_pos S' with h | h
  ·subst h;omega
  ·exact h
 have hxS:x / S < S':=Nat.div_lt_of_lt_mul (by rw[<-hS];exact hx);have h2:(x / S+S'*y) % 4294967296=x / S+S'*(y % S):=by
  have e:x / S+S'*y=(x / S+S'*(y % S))+4294967296*(y / S):=by
   have:=Nat.mod_add_div y S;have h:S'*y=S'*(y % S+S*(y / S)):=by rw[this]
   rw[h,Nat.mul_add,<-Nat.mul_assoc S' S,Nat.mul_comm S' S,<-hS];omega
  rw[e,Nat.add_mul_mod_self_left,Nat.mod_eq_of_lt];have h3:S'*(y % S+1)<=S'*S:=Nat.mul_le_mul_left _ (Nat.mod_lt _ hS0);rw[Nat.mul_add,Nat.mul_one,Nat.mul_comm S' S,<-hS]at h3;omega
 rw[h1,h2,Nat.add_mul];have h4:=Nat.mod_add_div x S;rw[Nat.mul_comm S (x / S)]at h4;have h5:S'*(y % S)*S=4294967296*(y % S):=by rw[hS];grind
 rw[h5];omega
theorem Qs{L R X p S S' x y:Nat}(hS:4294967296=S*S')(hS0:0 < S)(hx:x < 4294967296)(h:L*S+R=X+x % S*p) :
  (L+p*((x+4294967296*y) / S % 4294967296))*S+R=X+p*x+y % S*(4294967296*p):=by
 have e:=X5 (y:=y) hS hS0 hx;have e2:=Nat.mod_le x S;generalize (x+4294967296*y) / S % 4294967296=q at *;obtain⟨m,hm⟩:∃ m,x=x % S+m:=⟨x - x % S,Aa⟩
 rw[show x - x % S=m from by omega]at e;generalize x % S=xs at *;generalize y % S=ys at *;subst hm;have e3:p*(q*S)=p*(m+4294967296*ys):=by rw[e]
 grind
theorem Xc(a:Addr)(k:Nat):a.add (k+1)=⟨a.block,a.off+(k+1),none⟩:=by unfold Addr.add;rw[if_neg Aa]
theorem Ny(v:Value)(ds:List Nat)(s:Nat)(w:World)(hv:BH w v ds)(hs:s < 32)(hn:ds.length<=4398046511104) :
  Bg 185 #[v,.int .u64 (s:Nat)] w (fun r w'=>∃ l,BH w' r l/\nv l=nv ds / 2^s/\l.length=ds.length):=by
 obtain⟨A,p1,rfl,hl,hc,hA⟩:=hv;have hmk:=fun W=>ET ds.length (ds.length:Int) Aa Aa W;obtain⟨S,hS⟩:∃ S,2^s=S:=⟨_,rfl⟩
 have hSi:(2:Int)^s=(S:Nat):=by rw[<-hS];simp
 have hS0:0 < S:=by rw[<-hS];exact Nat.two_pow_pos _
 have hSS:4294967296=S*2^(32 - s):=by rw[<-hS,<-Nat.pow_add,show s+(32 - s)=32 from by omega]
 rw[hS];have HS:=Af (Au hS hSS);clear hS hSS
 go_enter Tryz.func185,Tryz.ntmps185
 go_wp2
 go_loopw [13] (fun iv wr=>∃ (k:Nat) (l:List Nat),k<=ds.length/\iv = .int .i64 k/\l.length=ds.length/\BA wr w.heap.size 113 l/\Bc l/\nv (l.take k)*S+nv ds % S=nv (ds.take k)+dg ds k % S*bp k/\Ext w wr) (fun iv _=>ds.length - (intOf iv).toNat)
 case atStart =>
  refine⟨0,_,Nat.zero_le _,rfl,List.length_replicate,BA.new _ _ _,Bc.zeros _,?_,(Ext.refl w).alloc _⟩;simp only[List.take_zero,C9,Nat.zero_mul,Nat.zero_add,IP,Nat.mul_one];cases ds with
  | nil=>rfl
  | cons d ds=>rw[Cm,HS.out.2,Nat.mul_assoc,Nat.add_mul_mod_self_left];rfl
 case round =>
  obtain⟨k,l,hk,rfl,hll,hblk,hdl,hval,hx⟩:=hrel;have Hll:=Af hll;clear hll;have Hv:=Af hval;clear hval;by_cases hkl:k < ds.length
  ·obtain⟨a,rfl,hca⟩:=Cu hA hkl
   replace hca:=hx.cell hca;have x1:=AZ hA.1 k;have y1:=AZ hA.1 (k+1);have hcl:=hblk.celld (i:=k) (by have:=Hll.out;omega);have hfz:=hblk.frozen k;have hs1:(1:Int)<=S:=by omega
   by_cases hkl1:k+1 < ds.length
   ·obtain⟨a',ha,hcb⟩:=Cu hA hkl1
    cases ha;replace hcb:=hx.cell hcb;rw[Xc]at hcb;generalize hxx:dg ds k=x at *;generalize hyy:dg ds (k+1)=y at *;have Hx:=Af (Au hxx hyy);clear hxx hyy;have ho:=Vh y x Aa Aa Aa Aa;go_wp2
    go_roundw
    case rel =>
     have e1:(((x+4294967296*y) / S % 4294967296:Nat):Int)=((x:Int)+4294967296*y) / S % 4294967296:=by simp
     refine⟨k+1,l.set k ((x+4294967296*y) / S % 4294967296),Aa,by go_num,by simpa using Hll.out,hblk.setI _ _ e1.symm,hdl.set Aa _,?_,hx.setCell _ _ (Nat.le_refl _)⟩;rw[BP (by have:=Hll.out;omega),AP,Hx.out.1,Hx.out.2,BO];have h1:=Hv.out;exact Qs HS.out.2 hS0 x1 h1
    case measure=>simp[intOf]<;>omega
   ·generalize hxx:dg ds k=x at *
    have Hx:=Af hxx;clear hxx;have hyy:dg ds (k+1)=0:=LV Aa;have Hy:=Af hyy;clear hyy;go_wp2
    go_roundw
    case rel =>
     have e1:(((x+4294967296*0) / S % 4294967296:Nat):Int)=(x:Int) / S % 4294967296:=by simp
     refine⟨k+1,l.set k ((x+4294967296*0) / S % 4294967296),Aa,by go_num,by simpa using Hll.out,hblk.setI _ _ e1.symm,hdl.set Aa _,?_,hx.setCell _ _ (Nat.le_refl _)⟩;rw[BP (by have:=Hll.out;omega),AP,Hx.out,Hy.out,BO];have h1:=Hv.out;exact Qs HS.out.2 hS0 x1 h1
    case measure=>simp[intOf]<;>omega
  ·obtain rfl:k=ds.length:=by omega
   go_wp2
   go_ret
   have hll:=Hll.out;have hv:=Hv.out;rw[List.take_of_length_le Aa,List.take_of_length_le (Nat.le_refl _),LV (Nat.le_refl _),Nat.zero_mod,Nat.zero_mul,Nat.add_zero]at hv;refine Ai.mk ⟨l,?_,?_,hll⟩ hx
   ·have hq:=hblk.digv hdl (c:=ds.length) Aa Aa
    rw[hll]at hq;exact hq
   ·rw[<-hv,Nat.mul_comm,Nat.mul_add_div hS0,Nat.div_eq_of_lt (Nat.mod_lt _ hS0)];rfl
set_option maxRecDepth 100000 in
theorem UG(g j L cu cv:Nat)(U vs:List Nat)(av:Addr)(w:World)(hU:BA w g 113 U)(dU:Bc U)(hL:2<=L)(hLj:j+L+1<=U.length)(hUl:U.length<=4398046511105)
  (hvl:vs.length=L) (dV:Bc vs) (hva:∀ k,k < L->w.cell? (av.add k)=some (.int .u32 (dg vs k:Nat))) (hag:av.block≠g) (htop:4294967296<=2*dg vs (L - 1)) (hlt:nv (U.drop j) < 4294967296*nv vs) (hcu:L+1<=cu) (hcv:L<=cv) :
  Calls Tryz.prog 184 #[.slice (some ⟨g,j,none⟩) (L+1) cu,.slice (some av) L cv] w fun e w'=>e = .returned (.int .u32 (nv (U.drop j) / nv vs:Nat)) /\
   ∃ U',BA w' g 113 U'/\Bc U'/\U'.length=U.length/\U'.take j=U.take j/\nv (U'.drop j)=nv (U.drop j) % nv vs/\w.grownBy w' (some g):=by
 obtain⟨P,Vl,Wl,K⟩:=VE hL hLj dU dV hvl htop hlt;have hQ:=K.q_lt;generalize hQe:nv (U.drop j) / nv vs=Q at *;have HQ:=Af hQe;clear hQe;have hcn:=hU.celld (i:=j+L) Aa;have hcn1:=hU.celld (i:=j+(L - 1)) Aa;have hcn2:=hU.celld (i:=j+(L - 2)) Aa;have hv1:=hva (L - 1) Aa;have hv2:=hva (L - 2) Aa;have bn:=AZ dU (j+L);have bn1:=AZ dU (j+(L - 1));have bn2:=AZ dU (j+(L - 2));have bv1:=AZ dV (L - 1);have bv2:=AZ dV (L - 2)
 generalize hun:dg U (j+L)=un at *;generalize hun1:dg U (j+(L - 1))=un1 at *;generalize hun2:dg U (j+(L - 2))=un2 at *;generalize hvv1:dg vs (L - 1)=v1 at *;generalize hvv2:dg vs (L - 2)=v2 at *;have ho:=JM (un:Int) un1 Aa Aa Aa Aa;have Hf:=Af (Au hun (Au hun1 (Au hun2 (Au hvv1 hvv2))));clear hun hun1 hun2 hvv1 hvv2;have Hva:=Af hva;clear hva;have Hlt:=Af hlt;clear hlt;have Hvl:=Af hvl;clear hvl
 go_enter Tryz.func184,Tryz.ntmps184
 go_wp2;refine EE 12 [19,20,21,22,23,24,25,26,27,28,29,30] [0,5] [_,_] [(kv ?_),(kv ?_),(kv ?_),(kv ?_),(kv ?_),(kv ?_),(kv ?_),(kv ?_),(kv ?_),(kv ?_),(kv ?_),(kv ?_)] (fun γ w'=>[True,True,True,True,True,True,True,True,True,True,True,True]) ?s1 ?_
 case s1 =>
  iterate 12 refine⟨?_,?_⟩
  trivial
  iterate 12 focus
   refine Bi fun _ w' he R hR=>?_;have hc:=he.cells;have cq0:=he.cell hcn;have cq1:=he.cell hcn1;go_simp;(try go_ints);(try(rw[if_neg Aa]));(try(rw[if_pos Aa]));(try go_simp);(try go_ints)
   exact C8 hR
 intro γ w1 hx1 hF;clear hF;simp only[Bw,Nat.reduceAdd];clear γ;have v1p:(1:Int)<=v1:=by omega
 replace hv1:=hx1.cell hv1;replace hv2:=hx1.cell hv2;replace hcn2:=hx1.cell hcn2;clear hcn hcn1;go_wp2;refine EE 17 [32,33,34,35,36,37,38,39,40,41,42,43,44,45,46,47,7] [6,1,5] [_,_,_] [(kv ?_),(kv ?_),(kv ?_),(kv ?_),(kv ?_),(kv ?_),(kv ?_),(kv ?_),(kv ?_),(kv ?_),(kv ?_),(kv ?_),(kv ?_),(kv ?_),(kv ?_),(kv ?_),(kv ?_)] (fun γ w'=>[True,True,True,True,True,True,True,True,True,True,True,True,True,True,True,True,True]) ?s2 ?_
 case s2 =>
  iterate 17 refine⟨?_,?_⟩
  trivial
  iterate 17 focus
   refine Bi fun _ w' he R hR=>?_;have hc:=he.cells;have cq0:=he.cell hv1;go_simp;(try go_ints);(try(rw[if_neg Aa]));(try(rw[if_pos Aa]));(try go_simp);(try go_ints)
   exact C8 hR
 intro γ w2 hx2 hF;clear hF;simp only[Bw,Nat.reduceAdd];clear γ;replace hx1:=hx1.trans hx2;replace hv1:=hx2.cell hv1;replace hv2:=hx2.cell hv2;replace hcn2:=hx2.cell hcn2;clear hx2 w1
 go_upto_block 0 with(fail)
 go_cut [7] (fun gv wx=>∃ G:Nat,gv = .int .u64 G/\Q<=G/\G<=Q+1/\Ext w wx)
 case first =>
  go_wp2
  go_loopw [7,8] (fun gv rv wr=>∃ G R:Nat,gv = .int .u64 G/\rv = .int .u64 R/\R < 4294967296/\G<=4294967297/\G*v1+R=un*4294967296+un1/\Q<=G/\Ext w wr) (fun gv _ _=>(intOf gv).toNat)
  case atStart =>
   refine⟨(un*4294967296+un1) / v1,(un*4294967296+un1) % v1,Ac,Ac,?_,K.guess_le,?_,?_,hx1⟩
   ·have:=Nat.mod_lt (un*4294967296+un1) (show 0 < v1 by omega);omega
   ·rw[Nat.mul_comm];exact Nat.div_add_mod _ _
   ·rw[<-HQ.out];exact K.guess_ge
  case round =>
   obtain⟨G,R,rfl,rfl,hR,hG,hGR,hQG,hxr⟩:=hrel;clear hx1 hv1 hv2 hcn2;have HGR:=Af hGR;clear hGR;have hv1:=hxr.cell (Hva.out (L - 1) Aa);have hv2:=hxr.cell (Hva.out (L - 2) Aa);have hcn2:=hxr.cell (hU.celld (i:=j+(L - 2)) Aa);rw[Hf.out.2.2.2.1]at hv1;rw[Hf.out.2.2.2.2]at hv2;rw[Hf.out.2.2.1]at hcn2;by_cases hGB:4294967296<=G
   ·have hb:decide ((4294967296:Int)<=G)=true:=by simp;omega
    have lw:=K.lower (g:=G) (r:=R) HGR.out (by rw[HQ.out];exact hQG) (.inl hGB);rw[HQ.out]at lw;have hstep:(G - 1)*v1+(R+v1)=un*4294967296+un1:=by
     obtain⟨F,rfl⟩:∃ F,G=F+1:=⟨G - 1,Aa⟩
     rw[<-HGR.out,Nat.add_sub_cancel,Nat.add_mul,Nat.one_mul];omega
    have Hs:=Af hstep;clear hstep;by_cases hbr:4294967296<=R+v1
    ·have hb2:decide ((4294967296:Int)<=(R:Int)+v1)=true:=by simp;omega
     have ex:=K.exit2 (g:=G - 1) (r:=R+v1) Hs.out Aa hbr;rw[HQ.out]at ex;go_wp2
     go_quiet (fail)
     go_wp2
     go_meet
     case rel=>exact⟨G - 1,by go_num,lw.1,ex,hxr.drewN _⟩
    ·have hb2:decide ((4294967296:Int)<=(R:Int)+v1)=false:=by simp;omega
     go_wp2
     go_quiet (fail)
     go_wp2
     go_roundw
     case rel=>exact⟨G - 1,R+v1,by go_num,by go_num,Aa,Aa,Hs.out,lw.1,hxr.drewN _⟩
     case measure=>simp[intOf]<;>omega
   ·have hb:decide ((4294967296:Int)<=G)=false:=by simp;omega
    have hor:=JM (R:Int) un2 Aa Aa Aa Aa;have hp:G*v2<=4294967295*4294967295:=Nat.mul_le_mul Aa Aa;have hp2:G*v2<=18446744065119617025:=hp;clear hp;have k1:(0:Int)<=(G:Int)*v2:=by rw[<-Int.natCast_mul];omega
    have k2:(G:Int)*v2<=18446744065119617025:=by rw[<-Int.natCast_mul];omega
    have Hp:=Af hp2;clear hp2;by_cases hc:R*4294967296+un2 < G*v2
    ·have hcb:decide ((R:Int)*4294967296+un2 < (G:Int)*v2)=true:=by rw[<-Int.natCast_mul];simp only[decide_eq_true_eq];omega
     have lw:=K.lower (g:=G) (r:=R) HGR.out (by rw[HQ.out];exact hQG) (.inr hc);rw[HQ.out]at lw;have Hc:=Af hc;clear hc;go_wp2;have hstep:(G - 1)*v1+(R+v1)=un*4294967296+un1:=by
      obtain⟨F,rfl⟩:∃ F,G=F+1:=⟨G - 1,Aa⟩
      rw[<-HGR.out,Nat.add_sub_cancel,Nat.add_mul,Nat.one_mul];omega
     have Hs:=Af hstep;clear hstep;by_cases hbr:4294967296<=R+v1
     ·have hb2:decide ((4294967296:Int)<=(R:Int)+v1)=true:=by simp;omega
      have ex:=K.exit2 (g:=G - 1) (r:=R+v1) Hs.out Aa hbr;rw[HQ.out]at ex;refine EE 20 [48,49,50,51,52,53,54,55,56,57,58,59,60,61,62,63,64,65,66,67] [7,1,5,8,0] [_,_,_,_,_] [(kv ?_),(kv ?_),(kv ?_),(kv ?_),(kv ?_),(kv ?_),(kv ?_),(kv ?_),(kv ?_),(kv ?_),(kv ?_),(kv ?_),(kv ?_),(kv ?_),(kv ?_),(kv ?_),(kv ?_),(kv ?_),(kv ?_),(kv ?_)] (fun γ w'=>[True,True,True,True,True,True,True,True,True,True,True,True,True,True,True,True,True,True,True,True]) ?s3 ?_
      case s3 =>
       iterate 20 refine⟨?_,?_⟩
       trivial
       iterate 3 focus
        refine Bi fun _ w' he R hR=>?_;have hc:=he.cells;go_simp;(try go_ints);(try(rw[if_neg Aa]));(try(rw[if_pos Aa]));(try go_simp);(try go_ints)
        exact C8 hR
       iterate 17 focus
        intro γ w' he hf;clear hf;refine⟨by trivial,?_⟩;intro R hR;have hc:=he.cells;have cq0:=he.cell hv2;have cq1:=he.cell hcn2;go_simp;(try go_ints);(try(rw[if_neg Aa]));(try(rw[if_pos Aa]));(try go_simp);(try go_ints)
        exact C8 hR
      intro γ w3 hx3 hF;clear hF;simp only[Bw,Nat.reduceAdd];clear γ;replace hv1:=hx3.cell hv1;go_wp2
      go_meet
      case rel=>exact⟨G - 1,by go_num,lw.1,ex,hxr.trans hx3⟩
     ·have hb2:decide ((4294967296:Int)<=(R:Int)+v1)=false:=by simp;omega
      refine EE 20 [48,49,50,51,52,53,54,55,56,57,58,59,60,61,62,63,64,65,66,67] [7,1,5,8,0] [_,_,_,_,_] [(kv ?_),(kv ?_),(kv ?_),(kv ?_),(kv ?_),(kv ?_),(kv ?_),(kv ?_),(kv ?_),(kv ?_),(kv ?_),(kv ?_),(kv ?_),(kv ?_),(kv ?_),(kv ?_),(kv ?_),(kv ?_),(kv ?_),(kv ?_)] (fun γ w'=>[True,True,True,True,True,True,True,True,True,True,True,True,True,True,True,True,True,True,True,True]) ?s4 ?_
      case s4 =>
       iterate 20 refine⟨?_,?_⟩
       trivial
       iterate 3 focus
        refine Bi fun _ w' he R hR=>?_;have hc:=he.cells;go_simp;(try go_ints);(try(rw[if_neg Aa]));(try(rw[if_pos Aa]));(try go_simp);(try go_ints)
        exact C8 hR
       iterate 17 focus
        intro γ w' he hf;clear hf;refine⟨by trivial,?_⟩;intro R hR;have hc:=he.cells;have cq0:=he.cell hv2;have cq1:=he.cell hcn2;go_simp;(try go_ints);(try(rw[if_neg Aa]));(try(rw[if_pos Aa]));(try go_simp);(try go_ints)
        exact C8 hR
      intro γ w3 hx3 hF;clear hF;simp only[Bw,Nat.reduceAdd];clear γ;replace hv1:=hx3.cell hv1;go_wp2
      go_roundw
      case rel=>exact⟨G - 1,R+v1,by go_num,by go_num,Aa,Aa,Hs.out,lw.1,hxr.trans hx3⟩
      case measure=>simp[intOf]<;>omega
    ·have hcb:decide ((R:Int)*4294967296+un2 < (G:Int)*v2)=false:=by rw[<-Int.natCast_mul];simp only[decide_eq_false_iff_not];omega
     have ex:=K.exit1 (g:=G) (r:=R) HGR.out Aa Aa;rw[HQ.out]at ex;have Hc:=Af hc;clear hc;go_wp2;refine EE 20 [48,49,50,51,52,53,54,55,56,57,58,59,60,61,62,63,64,65,66,67] [7,1,5,8,0] [_,_,_,_,_] [(kv ?_),(kv ?_),(kv ?_),(kv ?_),(kv ?_),(kv ?_),(kv ?_),(kv ?_),(kv ?_),(kv ?_),(kv ?_),(kv ?_),(kv ?_),(kv ?_),(kv ?_),(kv ?_),(kv ?_),(kv ?_),(kv ?_),(kv ?_)] (fun γ w'=>[True,True,True,True,True,True,True,True,True,True,True,True,True,True,True,True,True,True,True,True]) ?s5 ?_
     case s5 =>
      iterate 20 refine⟨?_,?_⟩
      trivial
      iterate 3 focus
       refine Bi fun _ w' he R hR=>?_;have hc:=he.cells;go_simp;(try go_ints);(try(rw[if_neg Aa]));(try(rw[if_pos Aa]));(try go_simp);(try go_ints)
       exact C8 hR
      iterate 17 focus
       intro γ w' he hf;clear hf;refine⟨by trivial,?_⟩;intro R hR;have hc:=he.cells;have cq0:=he.cell hv2;have cq1:=he.cell hcn2;go_simp;(try go_ints);(try(rw[if_neg Aa]));(try(rw[if_pos Aa]));(try go_simp);(try go_ints)
       exact C8 hR
     intro γ w3 hx3 hF;clear hF;simp only[Bw,Nat.reduceAdd];clear γ;go_wp2
     go_meet
     case rel=>exact⟨G,rfl,hQG,ex,hxr.trans hx3⟩
 case rest =>
  obtain⟨G,rfl,hQG,hGQ,hxc⟩:=hcut;obtain⟨pre,X,hpre,hUX,hXd⟩:∃ pre X:List Nat,pre.length=j/\U=pre ++ X/\X=U.drop j:=⟨U.take j,U.drop j,Dq,(List.take_append_drop j U).symm,rfl⟩
  have hXl:L+1<=X.length:=by rw[hXd];simp;omega
  have hXlen:X.length+j=U.length:=by rw[hXd];simp;omega
  have dX:Bc X:=by rw[hXd];exact dU.drop j
  have hG4:G<=4294967296:=by omega
  have hU0:BA wc g 113 (pre ++ X):=by rw[<-hUX];exact hU.ext hxc
  have hg0:w.grownBy wc (some g):=Vt g hxc;have HX:=Af (Au hUX hXd);clear hUX hXd;have HXlen:=Af hXlen;clear hXlen;have Hpre:=Af hpre;clear hpre;clear hxc hx1 hv1 hv2 hcn2 ho;go_wp2
  go_loopw [9,10,84] (fun cv bv iv wr=>∃ (k c0 b0:Nat) (X1:List Nat),k<=L/\iv = .int .i64 k/\cv = .int .u64 c0/\c0 < 4294967296/\bv = .int .u32 b0/\b0<=1/\BA wr g 113 (pre ++ X1)/\Bc X1/\X1.length=X.length/\(∀ q,k<=q->dg X1 q=dg X q)/\nv (X1.take k)+G*nv (vs.take k)=nv (X.take k)+(c0+b0)*bp k/\w.grownBy wr (some g)) (fun _ _ iv _=>L - (intOf iv).toNat)
  case atStart=>exact⟨0,0,0,X,Nat.zero_le _,rfl,rfl,Aa,rfl,Aa,hU0,dX,rfl,fun _ _=>rfl,by simp[C9],hg0⟩
  case round =>
   obtain⟨k,c0,b0,X1,hk,rfl,rfl,hc0,rfl,hb0,hb1,dX1,hl1,hs1,hn1,hg1⟩:=hrel;have Hl1:=Af hl1;clear hl1;have Hs1:=Af hs1;clear hs1;have Hn1:=Af hn1;clear hn1;clear hU0 hg0;by_cases hkL:k < L
   ·have hca:=World.grownBy.cell hg1 (Hva.out k hkL) (by rw[NP];intro e;exact hag (by injection e))
    have hcb:=hb1.cellR Hpre.out (k:=k) (by rw[Hl1.out];omega);have hfz:=hb1.frozen (j+k);rw[Hs1.out k (Nat.le_refl _)]at hcb;have x1:=AZ dX k;have y1:=AZ dV k;generalize hxx:dg X k=x at *;generalize hyy:dg vs k=y at *;have Hxy:=Af (Au hxx hyy);clear hxx hyy;have hp:G*y<=4294967296*4294967295:=Nat.mul_le_mul hG4 Aa;have hp2:G*y<=18446744069414584320:=hp;clear hp;have k1:(0:Int)<=(G:Int)*y:=by rw[<-Int.natCast_mul];omega
    have k2:(G:Int)*y<=18446744069414584320:=by rw[<-Int.natCast_mul];omega
    have k3:(0:Int)<=((G:Int)*y+c0) % 4294967296:=by omega
    have k4:((G:Int)*y+c0) % 4294967296 < 4294967296:=by omega
    have hbm:=OU x (((G:Int)*y+c0) % 4294967296) b0;have e1:(((G*y+c0) % 4294967296:Nat):Int)=((G:Int)*y+c0) % 4294967296:=by rw[<-Int.natCast_mul];omega
    have e2:(((G*y+c0) / 4294967296:Nat):Int)=((G:Int)*y+c0) / 4294967296:=by rw[<-Int.natCast_mul];omega
    have hlo:(G*y+c0) % 4294967296 < 4294967296:=Nat.mod_lt _ Ab;have He:=Af (Au e1 (Au e2 (Au hlo hp2)));clear e1 e2 hlo hp2
    go_wp2_with (go_at_call 187;refine(Gt _ _ _ _ Aa Aa Aa Aa Aa Aa).mono ?_;rintro e w' ⟨rfl,rfl⟩)
    go_roundw
    case rel =>
     obtain⟨e1,e2,hlo,hp2⟩:=He.out;refine⟨k+1,(G*y+c0) / 4294967296,if x < (G*y+c0) % 4294967296+b0 then 1 else 0,X1.set k ((x+4294967296 - (G*y+c0) % 4294967296 - b0) % 4294967296),Aa,by go_num,by rw[e2],Aa,?_,by split<;>omega,hb1.setR Hpre.out k _ ?_,dX1.set (Nat.mod_lt _ Ab) _,by rw[List.length_set];exact Hl1.out,fun q hq=>by rw[Gf Aa];exact Hs1.out q Aa,?_,IK hg1 _ _⟩
     ·rw[<-e1];unfold TQ;split<;>split<;>first | rfl | omega
     ·rw[<-e1];omega
     ·rw[BP (by rw[Hl1.out];omega),AP,AP,Hxy.out.1,Hxy.out.2,BO]
      exact Qc x1 hb0 Hn1.out
    case measure=>simp[intOf]<;>omega
   ·obtain rfl:k=L:=by omega
    have hcb:=hb1.cellR Hpre.out (k:=k) (by rw[Hl1.out];omega);have hfz:=hb1.frozen (j+k);rw[Hs1.out k (Nat.le_refl _)]at hcb;have x1:=AZ dX k;have hW:nv X < bp (k+1):=by
     have h1:=Hlt.out;rw[<-HX.out.2]at h1;have h2:=Ey dV;rw[Hvl.out]at h2;rw[BO];omega
    have hn2:=Hn1.out;rw[List.take_of_length_le (l:=vs) (by rw[Hvl.out];exact Nat.le_refl _)]at hn2;have hlast:=Mh hXl Hl1.out Hs1.out hn2 hc0 hb0 x1 hW;have dX2:Bc (X1.set k ((dg X k+4294967296 - c0 - b0) % 4294967296)):=dX1.set (Nat.mod_lt _ Ab) _;have hl2:(X1.set k ((dg X k+4294967296 - c0 - b0) % 4294967296)).length=X.length:=by rw[List.length_set];exact Hl1.out
    have hs2:∀ q,k+1<=q->dg (X1.set k ((dg X k+4294967296 - c0 - b0) % 4294967296)) q=dg X q:=fun q hq=>by rw[Gf Aa];exact Hs1.out q Aa
    have hx2:dg (X1.set k ((dg X k+4294967296 - c0 - b0) % 4294967296)) k=(dg X k+4294967296 - c0 - b0) % 4294967296:=by rw[DN (by rw[hl2];omega),List.getElem_set_self]
    have hz:(((dg X k+4294967296 - c0 - b0) % 4294967296:Nat):Int)=((dg X k:Nat) - (c0:Int) - b0) % 4294967296:=by omega
    have hb2:=hb1.setR Hpre.out k ((dg X k+4294967296 - c0 - b0) % 4294967296) hz.symm;have hg2:=IK hg1 (j+k) (.int .u32 (((dg X k:Nat) - (c0:Int) - b0) % 4294967296));have HQ2:nv X / nv vs=Q:=by rw[HX.out.2];exact HQ.out
    have hX2lt:nv (X1.set k ((dg X k+4294967296 - c0 - b0) % 4294967296)) < bp (k+1):=by
     have h2:=Mh hXl Hl1.out Hs1.out hn2 hc0 hb0 x1 hW;have⟨z1,z2⟩:=LC hXl hW;rw[Kq Hl1.out (by rw[Hl1.out];exact hXl) Hs1.out z1];have h3:=Ey (dX1.take k);rw[List.length_take,Nat.min_eq_left (by rw[Hl1.out];omega)]at h3;have h4:(dg X k+4294967296 - c0 - b0) % 4294967296+1<=4294967296:=Nat.mod_lt _ Ab;have h5:=Nat.mul_le_mul_left (bp k) h4;rw[Nat.mul_add,Nat.mul_one]at h5;rw[BO];omega
    generalize X1.set k ((dg X k+4294967296 - c0 - b0) % 4294967296)=X2 at *;have Hlast:=Af hlast;clear hlast;have Hl2:=Af hl2;clear hl2;have Hs2:=Af hs2;clear hs2;have Hx2:=Af hx2;clear hx2;clear hz hn2;have HX2lt:=Af hX2lt;clear hX2lt;have HQ3:=Af HQ2;clear HQ2;generalize hxx:dg X k=x at *;have Hxx:=Af hxx;clear hxx;by_cases hbor:x < c0+b0
    ·have hbq:TQ (x:Int) c0 b0=1:=YG Aa
     have hl:=Hlast.out;rw[if_pos hbor,Nat.one_mul]at hl;obtain⟨e1,e2⟩:=Rs (W:=nv X) (V:=nv vs) (G:=G) (A:=nv X2) (p:=bp (k+1)) K.vpos (by rw[HQ3.out];exact hGQ) HX2lt.out hl;rw[HQ3.out]at e1;have hG1:1<=G:=by omega
     clear hl;have He:=Af (Au e1 e2);clear e1 e2
     go_upto_block 4 with(go_at_call 187;refine(Gt _ _ _ _ Aa Aa Aa Aa Aa Aa).mono ?_;rintro e w' ⟨rfl,rfl⟩)
     go_wp2;clear Hlast hb1 hcb hfz
     go_loopw [14,132] (fun cv iv wr=>∃ (i c1:Nat) (X3:List Nat),i<=k/\iv = .int .i64 i/\cv = .int .u32 c1/\c1<=1/\BA wr g 113 (pre ++ X3)/\Bc X3/\X3.length=X.length/\(∀ q,i<=q->dg X3 q=dg X2 q)/\nv (X3.take i)+c1*bp i=nv (X2.take i)+nv (vs.take i)/\w.grownBy wr (some g)) (fun _ iv _=>k - (intOf iv).toNat)
     case atStart=>exact⟨0,0,X2,Nat.zero_le _,rfl,rfl,Aa,hb2,dX2,Hl2.out,fun _ _=>rfl,by simp[C9],hg2⟩
     case round =>
      obtain⟨i,c1,X3,hi,rfl,rfl,hc1,hb3,dX3,hl3,hs3,hn3,hg3⟩:=hrel;have Hl3:=Af hl3;clear hl3;have Hs3:=Af hs3;clear hs3;have Hn3:=Af hn3;clear hn3;clear hb2 hg2;by_cases hik:i < k
      ·have hca:=World.grownBy.cell hg3 (Hva.out i hik) (by rw[NP];intro e;exact hag (by injection e))
       have hcb:=hb3.cellR Hpre.out (k:=i) (by rw[Hl3.out];omega);have hfz:=hb3.frozen (j+i);rw[Hs3.out i (Nat.le_refl _)]at hcb;have x2b:=AZ dX2 i;have y1:=AZ dV i;generalize hxx:dg X2 i=x2 at *;generalize hyy:dg vs i=y at *;have Hxy:=Af (Au hxx hyy);clear hxx hyy
       go_wp2_with (go_at_call 186;refine(Gi _ _ _ _ Aa Aa Aa Aa Aa Aa).mono ?_;rintro e w' ⟨rfl,rfl⟩)
       go_roundw
       case rel =>
        refine⟨i+1,(x2+y+c1) / 4294967296,X3.set i ((x2+y+c1) % 4294967296),Aa,by go_num,by go_num,Aa,hb3.setR Hpre.out i _ Aa,dX3.set (Nat.mod_lt _ Ab) _,by rw[List.length_set];exact Hl3.out,fun q hq=>by rw[Gf Aa];exact Hs3.out q Aa,?_,IK hg3 _ _⟩;rw[BP (by rw[Hl3.out];omega),AP,AP,Hxy.out.1,Hxy.out.2,BO];exact IA Hn3.out
       case measure=>simp[intOf]<;>omega
      ·obtain rfl:i=k:=by omega
       have hcb:=hb3.cellR Hpre.out (k:=i) (by rw[Hl3.out];omega);have hfz:=hb3.frozen (j+i);rw[Hs3.out i (Nat.le_refl _)]at hcb;have hn3:=Hn3.out;rw[List.take_of_length_le (l:=vs) (by rw[Hvl.out];exact Nat.le_refl _)]at hn3;have hfin:=Nn (by rw[Hl2.out];exact hXl) (by rw[Hl3.out,Hl2.out]) dX3 Hs3.out hn3 hc1 He.out.2 HX2lt.out (AZ dX2 i);have x2b:=AZ dX2 i;have hz:(((dg X2 i+c1) % 4294967296:Nat):Int)=((dg X2 i:Nat)+(c1:Int)) % 4294967296:=by omega
       have hb4:=hb3.setR Hpre.out i ((dg X2 i+c1) % 4294967296) hz.symm;have hg4:=IK hg3 (j+i) (.int .u32 (((dg X2 i:Nat)+(c1:Int)) % 4294967296));have dX4:Bc (X3.set i ((dg X2 i+c1) % 4294967296)):=dX3.set (Nat.mod_lt _ Ab) _;have Hfin:=Af hfin;clear hfin;have Hhz:=Af hz;clear hz hn3;have hG2:G - 1 < 4294967296:=by omega
       generalize dg X2 i=x2 at *;go_wp2
       go_ret
       refine⟨Eu (by have:=He.out.1;omega),pre ++ X3.set i ((x2+c1) % 4294967296),hb4,(HX.out.1▸dU).left.append dX4,?_,?_,?_,hg4⟩
       ·rw[HX.out.1];simp[Hl3.out]
       ·rw[HX.out.1,List.take_append_of_le_length (by rw[Hpre.out];exact Nat.le_refl _),List.take_append_of_le_length (by rw[Hpre.out];exact Nat.le_refl _)]
       ·rw[<-Hpre.out,List.drop_left,Hpre.out,Hfin.out,HX.out.2]
    ·have hbq:TQ (x:Int) c0 b0=0:=ZL Aa
     have hl:=Hlast.out;rw[if_neg hbor,Nat.zero_mul,Nat.add_zero]at hl;obtain⟨e1,e2⟩:=RH (W:=nv X) (V:=nv vs) (G:=G) (A:=nv X2) K.vpos (by rw[HQ3.out];exact hQG) hl;rw[HQ3.out]at e1;have hG1:G < 4294967296:=by omega
     clear hl;have He:=Af (Au e1 e2);clear e1 e2
     go_wp2_with (go_at_call 187;refine(Gt _ _ _ _ Aa Aa Aa Aa Aa Aa).mono ?_;rintro e w' ⟨rfl,rfl⟩)
     go_ret
     refine⟨Eu (by rw[He.out.1]),pre ++ X2,hb2,(HX.out.1▸dU).left.append dX2,?_,?_,?_,hg2⟩
     ·rw[HX.out.1];simp[Hl2.out]
     ·rw[HX.out.1,List.take_append_of_le_length (by rw[Hpre.out];exact Nat.le_refl _),List.take_append_of_le_length (by rw[Hpre.out];exact Nat.le_refl _)]
     ·rw[<-Hpre.out,List.drop_left,Hpre.out];rw[He.out.2,HX.out.2]
theorem YO{x y:Nat}(h:x < y):decide (cmp x y < 0)=true:=by rw[Oa h];decide
theorem Jq{x y:Nat}(h:y<=x):decide (cmp x y < 0)=false:=by
 rcases Nat.eq_or_lt_of_le h with e | e
 ·rw[cmp_eq e.symm];decide
 ·rw[PO e];decide
def Y0(n d:Nat)(r:Value)(w:World):Prop:=∃ a b,r = .tuple #[a,b]/\Bt w a (n / d)/\Bt w b (n % d)
theorem Pj(v u:Value)(ds es:List Nat)(w:World)(hv:BH w v ds)(hu:BH w u es)(htd:JH ds)(hte:JH es)(hn:ds.length<=4398046511104)(hm:es.length<=4398046511104)(h0:0 < nv es)(hc:nv ds < nv es) :
  Bg 168 #[v,u] w ((Y0 (nv ds) (nv es))):=by
 have hq:=YO hc;have Hc:=Af hc;clear hc;have Hv:=Af hv;have Hu:=Af hu;obtain⟨A,p1,rfl,hl,hc,hA⟩:=hv;obtain⟨E,p2,rfl,hl',hc',hE⟩:=hu
 go_enter Tryz.func168,Tryz.ntmps168
 go_wp2_with fail
 refine AQ (EI _ _ ds es w Hv.out Hu.out htd hte hn hm) ?_;rintro r w1 rfl hx1
 go_wp2_with fail
 refine AQ (NN _ ds w1 (Hv.out.ext hx1) Aa) ?_;rintro r w2 hr hx2;go_wp2
 go_ret2
 refine Ai.mk ⟨_,_,rfl,⟨[],⟨none,0,rfl,Ac,Aa,Bc.nil,fun h=>by simp at h⟩,?_,fun h=>absurd rfl h⟩,⟨ds,hr,?_,htd⟩⟩ (hx1.trans hx2)
 ·rw[Nat.div_eq_of_lt Hc.out];rfl
 ·rw[Nat.mod_eq_of_lt Hc.out]
theorem QO(v u:Value)(ds es:List Nat)(w:World)(hv:BH w v ds)(hu:BH w u es)(htd:JH ds)(hte:JH es)(hn:ds.length<=2)(h0:0 < nv es)(hc:nv es<=nv ds) :
  Bg 168 #[v,u] w ((Y0 (nv ds) (nv es))):=by
 have hq:=Jq hc;have hm:es.length<=2:=by
  have:=LW hv.choose_spec.choose_spec.2.2.2.1 hte hc;omega
 have hb1:=Ey hv.choose_spec.choose_spec.2.2.2.1;have hb2:=Ey hu.choose_spec.choose_spec.2.2.2.1;have hb3:=Jf hn;have hb4:=Jf hm;rw[OD]at hb3 hb4;have hx1':nv ds < 18446744073709551616:=by omega
 have hx2':nv es < 18446744073709551616:=by omega
 clear hb1 hb2 hb3 hb4;have Hc:=Af hc;clear hc;have Hv:=Af hv;have Hu:=Af hu;obtain⟨A,p1,rfl,hl,hc,hA⟩:=hv;obtain⟨E,p2,rfl,hl',hc',hE⟩:=hu
 go_enter Tryz.func168,Tryz.ntmps168
 go_wp2_with fail
 refine AQ (EI _ _ ds es w Hv.out Hu.out htd hte Aa Aa) ?_;rintro r w1 rfl hx1
 go_wp2_with fail
 refine AQ (N9 _ ds w1 (Hv.out.ext hx1) hn) ?_;rintro r w2 rfl hx2
 go_wp2_with fail
 refine AQ (N9 _ es w2 ((Hu.out.ext hx1).ext hx2) hm) ?_;rintro r w3 rfl hx3;generalize nv ds=N at *;generalize nv es=V at *;have hV1:(1:Int)<=V:=by omega
 have q0:(0:Int)<=(N:Int) / V:=Int.ediv_nonneg Aa Aa;have q1:(N:Int) / V < 18446744073709551616:=by
  have:((N / V:Nat):Int)<=(N:Int):=Int.ofNat_le.2 (Nat.div_le_self _ _);rw[Int.natCast_ediv]at this;omega
 have qn:N / V < 18446744073709551616:=Nat.lt_of_le_of_lt (Nat.div_le_self _ _) hx1';have rn:N % V < 18446744073709551616:=Nat.lt_of_le_of_lt (Nat.mod_le _ _) hx1';have Hq:=Af (Au qn rn);clear qn rn;go_wp2;refine EE 7 [28,29,30,31,32,33,34] [6,7] [_,_] [(kv ?_),(kv ?_),(kv ?_),(fun γ=>γ 3),(kv ?_),(kv ?_),(kv ?_)] (fun γ w'=>[True,True,True,Bt w' (γ 3) (N / V),True,True,True]) ?s1 ?_
 case s1 =>
  iterate 7 refine⟨?_,?_⟩
  trivial
  iterate 3 focus
   refine Bi fun _ w' he R hR=>?_;have hc:=he.cells;go_simp;(try go_ints);(try(rw[if_neg Aa]));(try(rw[if_pos Aa]));(try go_simp);(try go_ints)
   exact C8 hR
  ·refine Bi fun _ w' he R hR=>?_
   go_simp;exact BF (F:=fun r w''=>Bt w'' (r) (N / V)) (Ai.imp (Ij (N / V) _ Ac w' Hq.out.1) (fun _ _ ⟨l,a,b,c,_⟩=>⟨l,a,b,c⟩)) hR
  iterate 3 focus
   refine Bi fun _ w' he R hR=>?_;have hc:=he.cells;go_simp;(try go_ints);(try(rw[if_neg Aa]));(try(rw[if_pos Aa]));(try go_simp);(try go_ints)
   exact C8 hR
 intro γ w4 hx4 hF;have p3:Bt w4 (γ 3) (N / V):=AC.get hF 3 Ab;clear hF;simp only[Bw,Nat.reduceAdd];generalize γ 3=g3 at *;clear γ
 go_wp2_with fail
 refine AQ (Ij (N % V) _ Ac w4 Hq.out.2) ?_;rintro r w5 ⟨l,a,b,c,_⟩ hx5;go_wp2
 go_ret2
 exact Ai.mk ⟨_,_,rfl,p3.ext hx5,⟨l,a,b,c⟩⟩ ((((hx1.trans hx2).trans hx3).trans hx4).trans hx5)
theorem OY(v u:Value)(ds:List Nat)(d:Nat)(w:World)(hv:BH w v ds)(hu:BH w u [d])(htd:JH ds)(hte:JH [d])(hn:ds.length<=4398046511104)(hn2:2 < ds.length)(h0:0 < nv [d])(hc:nv [d]<=nv ds) :
  Bg 168 #[v,u] w ((Y0 (nv ds) (nv [d]))):=by
 have hq:=Jq hc;clear hc;have Hv:=Af hv;have Hu:=Af hu;obtain⟨A,p1,rfl,hl,hc,hA⟩:=hv;obtain⟨E,p2,rfl,hl',hc',hE⟩:=hu;obtain⟨a,rfl,hcb⟩:=Cu hE (k:=0) Ac;replace hcb:w.cell? a=some (.int .u32 (d:Nat)):=hcb;have hd1:d < 4294967296:=hE.1 d Ac;have hd0:0 < d:=by simpa[Cm,C9] using h0
 have hdd:nv [d]=d:=by simp[Cm,C9]
 have Hdd:=Af hdd;clear hdd;clear hE
 go_enter Tryz.func168,Tryz.ntmps168
 go_wp2_with fail
 refine AQ (EI _ _ ds [d] w Hv.out Hu.out htd hte hn Ac) ?_;rintro r w1 rfl hx1;replace hcb:=hx1.cell hcb
 go_wp2_with fail
 refine AQ (UN _ ds d w1 (Hv.out.ext hx1) hd0 hd1 hn) ?_;rintro r w2 ⟨q,l,rfl,hql,hqn,hqle⟩ hx2;have hr:nv ds % d < 4294967296:=Nat.lt_trans (Nat.mod_lt _ hd0) hd1;obtain⟨lq,hlq⟩:∃ x,nv ds % d=x:=⟨_,rfl⟩
 rw[hlq]at hr ⊢;have Hlq:=Af hlq;clear hlq
 go_wp2_with fail
 refine AQ (FX _ l w2 hql) ?_;rintro q2 w3 hq2 hx3
 go_wp2_with fail
 refine AQ (Ij lq _ rfl w3 Aa) ?_;rintro r2 w4 ⟨l2,a2,b2,c2,_⟩ hx4;go_wp2
 go_ret2
 refine Ai.mk ⟨_,_,rfl,⟨trim l,hq2.ext hx4,?_,Gh l⟩,⟨l2,a2,?_,c2⟩⟩ (((hx1.trans hx2).trans hx3).trans hx4)
 ·rw[GH,hqn,Hdd.out]
 ·rw[b2,Hdd.out,Hlq.out]
set_option maxRecDepth 100000 in
theorem Rk(v u:Value)(ds es:List Nat)(w:World)(hv:BH w v ds)(hu:BH w u es)(htd:JH ds)(hte:JH es)(hn:ds.length<=4398046511103)(hn2:2 < ds.length)(hL2:2<=es.length)(hc:nv es<=nv ds) :
  Bg 168 #[v,u] w ((Y0 (nv ds) (nv es))):=by
 have hq:=Jq hc;have dD:Bc ds:=hv.choose_spec.choose_spec.2.2.2.1;have dE:Bc es:=hu.choose_spec.choose_spec.2.2.2.1;have hLn:es.length<=ds.length:=LW dD hte hc;clear hc;have Hv:=Af hv;have Hu:=Af hu;obtain⟨A,p1,rfl,hl,hc,hA⟩:=hv;obtain⟨E,p2,rfl,hl',hc',hE⟩:=hu;obtain⟨a,rfl,hcb⟩:=Cu hE (k:=es.length - 1) Aa;have hd1:=AZ dE (es.length - 1);have hd0:0 < dg es (es.length - 1):=by
  have hne:es≠[]:=fun e=>by rw[e]at hL2;simp at hL2
  have:=hte hne;rw[List.getLast_eq_getElem]at this;rw[DN Aa];omega
 have hsp:=ZF hd0 hd1;generalize hd:dg es (es.length - 1)=d at *;have Hd:=Af hd;clear hd;clear hE hA;obtain⟨m,hm⟩:∃ m,m+es.length=ds.length+1:=⟨ds.length+1 - es.length,Aa⟩
 have Hm:=Af hm;have hm1:1<=m:=by omega
 have hm2:m<=ds.length:=by omega
 clear hm
 go_enter Tryz.func168,Tryz.ntmps168
 go_wp2_with fail
 refine AQ (EI _ _ ds es w Hv.out Hu.out htd hte Aa Aa) ?_;rintro r w1 rfl hx1;replace hcb:=hx1.cell hcb;have b2:decide ((ds.length:Int)<=2)=false:=by simp;omega
 go_wp2_with fail
 refine Calls.mono (cZ d w1 hd1) ?_;rintro e w2 ⟨rfl,rfl⟩;obtain⟨s,hs⟩:∃ s,lz d=s:=⟨_,rfl⟩
 rw[hs]at hsp ⊢;clear hs;obtain⟨hs32,hhi,hlo⟩:=hsp;obtain⟨S,hS⟩:∃ S,2^s=S:=⟨_,rfl⟩
 have hS0:0 < S:=by rw[<-hS];exact Nat.two_pow_pos _
 rw[hS]at hhi hlo;have Hsp:=Af (Au hhi (Au hlo hS));clear hhi hlo hS
 go_wp2_with fail
 refine AQ (KW _ ds s w1 (Hv.out.ext hx1) hs32 Aa) ?_;rintro r w2 ⟨lu,g,rfl,hg1,hbu,dlu,hlu,hlul⟩ hx2
 go_wp2_with fail
 refine AQ (KW _ es s w2 ((Hu.out.ext hx1).ext hx2) hs32 Aa) ?_;rintro r w3 ⟨lv,g',rfl,hg2,hbv,dlv,hlv,hlvl⟩ hx3;have hlvl':lv.length=es.length+1:=hlvl
 go_wp2_with fail
 rw[<-hlvl'];refine Calls.mono (Mi (some ⟨g',0,none⟩) lv.length lv w3 (Nat.le_refl _) Aa (hbv.digat dlv)) ?_;rintro e w4 ⟨rfl,rfl⟩;rw[Hsp.out.2.2]at hlu hlv;have nd:=Ya dE rfl Aa hS0 (by rw[Hd.out];exact Hsp.out.1) (by rw[Hd.out];exact Hsp.out.2.1) (Gq dlv) (Gh lv) (by rw[GH,hlv]);have hmk:=fun W=>ET m ((ds.length:Int)+1 - es.length) (by have:=Hm.out;omega) Aa W;obtain⟨ndl,ndt⟩:=nd;rw[ndl];obtain⟨V,hV⟩:∃ V,nv (trim lv)=V:=⟨_,rfl⟩
 have hVe:nv es*S=V:=by rw[<-hV,GH,hlv]
 have hVpos:0 < V:=by rw[<-hVe];exact Nat.mul_pos (by have:=(hte.len Aa);have:=Ia (es.length - 1);omega) hS0
 have hst:nv (lu.drop m) < V:=by rw[<-hVe];exact Ta dD hte Aa hS0 hlu Hm.out Aa
 have hgg:g < w2.heap.size:=hbu.lt;have hgg':g' < w3.heap.size:=hbv.lt;have hsz2:=hx1.size;have hsz3:=hx2.size;have hsz4:=hx3.size;have Hgs:=Af (Au hgg (Au hgg' (Au hg1 (Au hg2 (Au hsz2 (Au hsz3 hsz4))))));have hxa:=((hx1.trans hx2).trans hx3).alloc (.cells (FJ m) 113);have hbu3:=(hbu.ext hx3).alloc (.cells (FJ m) 113);have hbv3:=hbv.alloc (.cells (FJ m) 113);have Hve:=Af (Au hV (Au hVe (Au hst hlu)));clear hV hVe hst hlu
 clear hlv hsz2 hsz3 hsz4 hg1 hg2 hgg hgg' hcb hx2 hx3 hx1;have Hlul:=Af hlul;clear hlul;have Hlv:=Af (Au hlvl ndl);clear hlvl hlvl' ndl;go_wp2
 go_loopw [14] (fun iv wr=>∃ (k:Nat) (U ql:List Nat),k<=m/\(∃ q:Int,q+1=k/\iv = .int .i64 q)/\BA wr g 113 U/\Bc U/\U.length=ds.length+1/\BA wr w3.heap.size 113 ql/\Bc ql/\ql.length=m/\BA wr g' 113 lv/\nv (U.take k)+bp k*nv (U.drop k)+nv (ql.drop k)*bp k*V=nv ds*S/\nv (U.drop k) < V/\Ext w wr) (fun iv _=>(intOf iv+1).toNat)
 case atStart=>exact⟨m,lu,_,Nat.le_refl _,⟨_,Aa,rfl⟩,hbu3,dlu,Hlul.out,BA.new _ _ _,Bc.zeros _,List.length_replicate,hbv3,by rw[List.drop_of_length_le (l:=List.replicate m 0) Ac,C9,<-Eo lu m (by have:=Hlul.out;omega),Hve.out.2.2.2];simp,Hve.out.2.2.1,hxa⟩
 case round =>
  obtain⟨k,U,ql,hk,⟨q,hq,rfl⟩,hbU,dU,hUl,hbq,dq,hql,hbV,hval,hlt,hx⟩:=hrel;have HUl:=Af hUl;clear hUl;have Hql:=Af hql;clear hql;have Hval:=Af (Au hval hlt);clear hval hlt;clear hbu3 hbv3 hxa;by_cases hk0:0 < k
  ·obtain⟨j,rfl⟩:∃ j,k=j+1:=⟨k - 1,Aa⟩
   obtain rfl:q=(j:Int):=by omega
   clear hq;have hjm:=Hm.out;have hj1:j+es.length+1<=ds.length+1:=by omega
   have hj0:j<=ds.length:=by omega
   clear hjm
   go_wp2_with fail
   rw[show j+es.length+1 - j=es.length+1 from by omega];obtain⟨hgg,hgg',hg1,hg2,hsz2,hsz3,hsz4⟩:=Hgs.out;obtain⟨hV,hVe,_,_⟩:=Hve.out;have hUl:=HUl.out;have hXj:nv (U.drop j) < 4294967296*V:=by
    rw[Ep Aa];exact XD (dU.get Aa) Hval.out.2
   refine Calls.mono (UG g j es.length _ _ U (trim lv) ⟨g',0,none⟩ wr hbU dU hL2 Aa Aa Hlv.out.2 (Gq dlv) (fun k hk=>?hva) (fun e=>?hne) ndt (by rw[hV];exact hXj) Aa (by have:=Hlv.out.1;omega)) ?_
   case hva =>
    obtain⟨a',ha,hc⟩:=Cu (hbV.digat dlv).trim (k:=k) (by rw[Hlv.out.2];exact hk);cases ha;exact hc
   case hne=>simp only at e;omega
   rintro e w5 ⟨rfl,U',hbU',dU',hUl',hUt,hUd,hgr⟩;have hq5:BA w5 w3.heap.size 113 ql:=(hgr.block _ hbq.lt (by intro e;injection e;omega)).trans hbq;have hV5:BA w5 g' 113 lv:=(hgr.block _ hbV.lt (by intro e;injection e;omega)).trans hbV;have hx5:Ext w w5:=hx.grown hgr (by intro k hk;injection hk;omega);rw[hV]at hUd;rw[hV];have hqj:nv (U.drop j) / V < 4294967296:=Nat.div_lt_of_lt_mul (by rw[Nat.mul_comm];exact hXj)
   have hcell:=hq5.celld (i:=j) (by have:=Hql.out;omega);have hfz:=hq5.frozen j;have Hmore:=Af (Au hUl' (Au hUt (Au hUd hqj)));clear hUl' hUt hUd hqj hUl hXj hgg hgg' hg1 hg2 hsz2 hsz3 hsz4 hV hVe;obtain⟨qd,hqd⟩:∃ x,nv (U.drop j) / V=x:=⟨_,rfl⟩
   rw[hqd];have Hqd:=Af hqd;clear hqd;clear hbq hbV hbU hx hgr;go_wp2
   go_roundw
   case rel =>
    obtain⟨hUl',hUt,hUd,hqj⟩:=Hmore.out;rw[Hqd.out]at hqj;have hUl:=HUl.out;have hql:=Hql.out;refine⟨j,U',ql.set j qd,Aa,⟨_,Aa,rfl⟩,hbU'.far (fun e=>?_) _,dU',Aa,hq5.setI j qd rfl,dq.set hqj _,by simpa using hql,hV5.far (fun e=>?_) _,?_,by rw[hUd];exact Nat.mod_lt _ hVpos,hx5.setCell _ _ ?_⟩
    ·have:=Hgs.out;simp only at e;omega
    ·have:=Hgs.out;simp only at e;omega
    ·have hql':j < (ql.set j qd).length:=by simp;omega
     rw[Ep hql',hUt,hUd];simp only[List.getElem_set_self,List.drop_set_of_lt (Nat.lt_succ_self j)];rw[<-Hqd.out];refine VA ?_;have h1:=Hval.out.1;rw[<-BO,<-h1,AP,BO];rw[Ep (ds:=U) (i:=j) Aa,DN Aa];grind
    ·have:=Hgs.out;simp only;omega
   case measure=>simp[intOf]<;>omega
  ·obtain rfl:k=0:=by omega
   have q1:q < 0:=by omega
   have Hq:=Af hq;clear hq;obtain⟨hV,hVe,_,_⟩:=Hve.out;have hval:=Hval.out;simp only[List.take_zero,C9,IP,Nat.one_mul,Nat.zero_add,Nat.mul_one,List.drop_zero]at hval;obtain⟨e1,e2⟩:=Zv hval.2 hval.1;have hUL:nv (U.take es.length)=nv U:=by
    refine(LC (by rw[HUl.out];omega) ?_).2;have h1:=Ey (Gq dlv);rw[hV,Hlv.out.2]at h1;omega
   have hesp:0 < nv es:=by
    rcases Nat.eq_zero_or_pos (nv es)with h | h
    ·rw[h,Nat.zero_mul]at hVe;omega
    ·exact h
   rw[<-hVe,Nat.mul_div_mul_right _ _ hS0]at e1;rw[<-hVe,Nat.mul_mod_mul_right]at e2;have hqv:=hbq.digv dq (c:=m) (by rw[Hql.out];exact Nat.le_refl _) Aa;rw[Hql.out]at hqv;have hUv:=hbU.digtake dU (n:=es.length) (c:=ds.length+1) (by rw[HUl.out];omega) (by rw[HUl.out];exact Nat.le_refl _) Aa;have hSS:=Hsp.out.2.2;have Hend:=Af (Au e1 (Au e2 (Au hUL (Au hqv (Au hUv hSS)))));clear e1 e2 hUL hqv hUv hval hV hVe hSS
   have hi1:(0:Int)<=es.length:=by omega
   have hi2:(es.length:Int)<=(ds.length:Int)+1:=by omega
   have hi3:es.length<=ds.length+1:=by omega
   go_wp2_with fail
   refine EE 6 [93,94,95,96,97,98] [4,11,13,10] [_,_,_,_] [(kv ?_),(fun γ=>γ 1),(kv ?_),(kv ?_),(kv ?_),(kv ?_)] (fun γ w'=>[True,BH w' (γ 1) (trim ql),True,True,True,True]) ?s2 ?_
   case s2 =>
    iterate 6 refine⟨?_,?_⟩
    trivial
    iterate 1 focus
     refine Bi fun _ w' he R hR=>?_;have hc:=he.cells;go_simp;exact C8 hR
    ·refine Bi fun _ w' he R hR=>?_
     go_simp;exact BF (FX _ ql w' (Hend.out.2.2.2.1.ext he)) hR
    iterate 4 focus
     refine Bi fun _ w' he R hR=>?_;have hc:=he.cells;go_simp;(try go_ints);(try(rw[if_neg Aa]));(try(rw[if_pos Aa]));(try go_simp);(try go_ints)
     exact C8 hR
   intro γ w5 hx5 hF;have p1:BH w5 (γ 1) (trim ql):=AC.get hF 1 Ab;clear hF;simp only[Bw,Nat.reduceAdd];generalize γ 1=g1 at *;clear γ
   go_wp2_with fail
   refine AQ (Ny _ (U.take es.length) s w5 (Hend.out.2.2.2.2.1.ext hx5) hs32 Dq) ?_;rintro r7 w7 ⟨lr,r1,r2,r3⟩ hx7;rw[Hend.out.2.2.2.2.2,Hend.out.2.2.1,Hend.out.2.1,Nat.mul_div_cancel _ hS0]at r2
   go_wp2_with fail
   refine AQ (FX _ lr w7 r1) ?_;rintro rr w6 hrr hx6;go_wp2
   go_ret2
   refine Ai.mk ⟨_,_,rfl,⟨trim ql,(p1.ext hx7).ext hx6,?_,Gh _⟩,⟨trim lr,hrr,?_,Gh _⟩⟩ (((hx.trans hx5).trans hx7).trans hx6)
   ·rw[GH];exact Hend.out.1
   ·rw[GH];exact r2
theorem ME(v u:Value)(N V:Nat)(w:World)(hv:Bt w v N)(hu:Bt w u V)(h0:0 < V)(hn:sz N<=4398046511103)(hm:sz V<=4398046511103) :
  Bg 168 #[v,u] w ((Y0 N V)):=by
 obtain⟨ds,a1,rfl,a3,a4⟩:=hv.len;obtain⟨es,b1,rfl,b3,b4⟩:=hu.len;rcases Nat.lt_or_ge (nv ds) (nv es)with hc | hc
 ·exact Pj v u ds es w a1 b1 a3 b3 Aa Aa h0 hc
 ·by_cases h2:ds.length<=2
  ·exact QO v u ds es w a1 b1 a3 b3 h2 h0 hc
  ·match es,b1,b3,b4,h0,hm,hc with
   | [],_,_,_,h0,_,_=>simp[C9]at h0
   | [d],b1,b3,b4,h0,hm,hc=>exact OY v u ds d w a1 b1 a3 b3 Aa Aa h0 hc
   | d::e::l,b1,b3,b4,h0,hm,hc=>exact Rk v u ds (d::e::l) w a1 b1 a3 b3 Aa Aa Ac hc
theorem Bo(v:Value)(N l:Nat)(w:World)(h:DK w v N l):Bg 144 #[v] w (fun r w'=>Bt w' r N):=by
 obtain⟨ds,h1,rfl,_⟩:=h;exact Ai.imp (FX v ds w h1) fun _ _ h=>⟨trim ds,h,GH ds,Gh ds⟩
theorem J3(v:Value)(N:Nat)(w:World)(h:Bt w v N)(hn:sz N<=8796093022208):Bg 167 #[v] w (fun r w'=>Bt w' r N):=by
 obtain⟨ds,h1,rfl,h3,h4⟩:=h.len;exact Ai.imp (NN v ds w h1 Aa) fun _ _ h=>⟨ds,h,rfl,h3⟩
theorem PQ(v u:Value)(N M a b:Nat)(w:World)(hv:DK w v N a)(hu:DK w u M b)(ha:a<=4398046511104)(hb:b<=4398046511104):Bg 169 #[v,u] w (fun r w'=>DK w' r (N+M) (max a b+1)):=by
 obtain⟨ds,h1,rfl,h3⟩:=hv;obtain⟨es,k1,rfl,k3⟩:=hu;exact Ai.imp (X8 v u ds es w h1 k1 Aa Aa) fun _ _ ⟨l,q1,q2,q3⟩=>⟨l,q1,q2,Aa⟩
theorem M3(v u:Value)(N M:Nat)(w:World)(hv:Bt w v N)(hu:Bt w u M)(hle:M<=N)(ha:sz N<=4398046511104):Bg 170 #[v,u] w (fun r w'=>DK w' r (N - M) (sz N)):=by
 obtain⟨ds,h1,rfl,h3,h4⟩:=hv.len;obtain⟨es,k1,rfl,k3,k4⟩:=hu.len;have:=Bq hle;exact Ai.imp (WS v u ds es w h1 k1 Aa Aa hle) fun _ _ ⟨l,q1,q2,q3⟩=>⟨l,q1,q2,Aa⟩
theorem UL(v u:Value)(N M a b:Nat)(w:World)(hv:DK w v N a)(hu:DK w u M b)(ha:a<=4398046511104)(hb:b<=4398046511104):Bg 161 #[v,u] w (fun r w'=>DK w' r (N*M) (a+b)):=by
 obtain⟨ds,h1,rfl,h3⟩:=hv;obtain⟨es,k1,rfl,k3⟩:=hu;exact Ai.imp (V7 v u ds es w h1 k1 Aa Aa) fun _ _ ⟨l,q1,q2,q3⟩=>⟨l,q1,q2,Aa⟩
theorem KT(v u:Value)(N M:Nat)(w:World)(hv:Bt w v N)(hu:Bt w u M)(ha:sz N<=4398046511104)(hb:sz M<=4398046511104):Bg 180 #[v,u] w (fun r _=>r = .int .i64 (cmp N M)):=by
 obtain⟨ds,h1,rfl,h3,h4⟩:=hv.len;obtain⟨es,k1,rfl,k3,k4⟩:=hu.len;exact EI v u ds es w h1 k1 h3 k3 Aa Aa
theorem LJ(n:Nat)(x:Int)(hxn:x=n)(w:World)(hn:n < 18446744073709551616):Bg 160 #[.int .u64 x] w (fun r w'=>Bt w' r n):=
 Ai.imp (Ij n x hxn w hn) fun _ _ ⟨l,a,b,c,_⟩=>⟨l,a,b,c⟩
theorem QD(v:Value)(N:Nat)(w:World)(hv:Bt w v N)(hN:N < 18446744073709551616):Bg 173 #[v] w (fun r _=>r = .int .u64 (N:Nat)):=by
 obtain⟨ds,h1,rfl,h3,h4⟩:=hv.len;have:=IW hN;exact N9 v ds w h1 Aa
theorem RY(neg:Bool)(v:Value)(N l:Nat)(w:World)(hv:DK w v N l):Bg 142 #[.bool neg,v] w (fun r w'=>AO w' r (if neg then -(N:Int)else N)):=by
 obtain⟨ds,h1,hnv,h3⟩:=hv;have Hv:=Af (Au h1 hnv);obtain⟨A,c,rfl,hl',hc,hA⟩:=h1;clear hnv
 go_enter Tryz.func142,Tryz.ntmps142
 go_wp2_with fail
 refine AQ (Bo _ N l _ ⟨ds,Hv.out.1.ext ((Ext.refl w).alloc _),Hv.out.2,h3⟩) ?_;rintro r w1 hr hx1;obtain⟨A',c',rfl,q1,q2⟩:=hr.form;have hc1:=hx1.cells;have hf1:=hx1.frozens;have hnd:AV w1 w.heap.size:=(AV.new w _ _ (by simp[Ah])).ext hx1 Ac;have hxw:Ext w w1:=((Ext.refl w).alloc _).trans hx1;have fin:∀ b:Bool,(b=true->N≠0)->(if b then -(N:Int)else N)=(if neg then -(N:Int)else N) ->
   Ai w (fun r w'=>AO w' r (if neg then -(N:Int)else N)) (.returned (.agg #[.bool b,.slice A' (sz N) c'])) ((w1.setCell ⟨w.heap.size,0,none⟩ (.bool b)).setCell ⟨w.heap.size,1,none⟩ (.slice A' (sz N) c')):=by
  intro b h1 h2;have hk:=((KD.refl w1).set_ (i:=0) hnd (.bool b)).set_ (i:=1) (hnd.set_ rfl) (.slice A' (sz N) c');rw[<-h2];exact Ai.mk (AO.mk (hr.kd hk) h1) ((hxw.setCell _ _ (Nat.le_refl _)).setCell _ _ (Nat.le_refl _))
 have Hfin:=Af fin;clear fin;clear hr hnd hxw;by_cases h0:N=0
 ·have hb:decide (0 < sz N)=false:=by subst h0;rfl
  have H0:=Af h0;clear h0;cases neg
  all_goals
   go_wp2;refine bodyPost_ret (v := .agg #[.bool false,.slice A' (sz N) c']) (by simp[results,Tryz.results142,go_sem,hc1]) rfl ?_;have:=Hfin.out false (fun h=>by cases h) (by simp[H0.out]);simpa only[if_true,if_false,Bool.false_eq_true] using this
 ·have hp:0 < sz N:=by
   have:=DR N;rcases Nat.eq_zero_or_pos (sz N)with h | h
   ·rw[h,IP]at this;omega
   ·exact h
  have hb:decide (0 < sz N)=true:=by simp;exact hp
  clear hp;have H0:=Af h0;clear h0;cases neg
  ·go_wp2
   refine bodyPost_ret (v := .agg #[.bool false,.slice A' (sz N) c']) (by simp[results,Tryz.results142,go_sem,hc1]) rfl ?_;have:=Hfin.out false (fun h=>by cases h) rfl;simpa only[if_true,if_false,Bool.false_eq_true] using this
  ·go_wp2
   refine bodyPost_ret (v := .agg #[.bool true,.slice A' (sz N) c']) (by simp[results,Tryz.results142,go_sem,hc1]) rfl ?_;have:=Hfin.out true (fun _=>H0.out) rfl;simpa only[if_true,if_false,Bool.false_eq_true] using this
theorem Co(x:Int)(neg:Bool)(v:Value)(N l:Nat)(w:World)(hx:x=if neg then -(N:Int)else N)(hv:DK w v N l):Bg 142 #[.bool neg,v] w (fun r w'=>AO w' r x):=by
 subst hx;exact RY neg v N l w hv
theorem Iz(v:Value)(x:Int)(w:World)(hv:Bj w v x):Bg 134 #[v] w (fun r w'=>AO w' r x):=by
 obtain⟨neg,A,n,c,N,rfl,h1,h2,h3,hN,hx⟩:=hv.form;have HN:=Af hN;clear hN hv;have Hx:=Af hx;clear hx;have hs:sz N<=n:=HN.out.sz
 go_enter Tryz.func134,Tryz.ntmps134
 go_wp2_with fail
 refine EE 6 [3,4,5,6,7,8] [1] [_] [(kv ?_),(kv ?_),(kv ?_),(kv ?_),(fun γ=>γ 4),(fun γ=>γ 5)] (fun γ w'=>[True,True,True,True,Bt w' (γ 4) N,Bt w' (γ 5) N]) ?s1 ?_
 case s1 =>
  iterate 6 refine⟨?_,?_⟩
  trivial
  iterate 4 focus
   refine Bi fun _ w' he R hR=>?_;have hc:=he.cells;go_simp;exact C8 hR
  ·refine Bi fun _ w' he R hR=>?_
   go_simp;exact BF (Bo _ N n w' (HN.out.ext he.a2)) hR
  ·refine Gj fun γ w' he hf R hR=>?_;have f4:Bt w' (γ 4) N:=hf 4 Ab;clear hf
   go_simp;exact BF (J3 _ N w' f4 Aa) hR
 intro γ w1 hx1 hF;have p4:Bt w1 (γ 4) N:=AC.get hF 4 Ab;have p5:Bt w1 (γ 5) N:=AC.get hF 5 Ab;clear hF;simp only[Bw,Nat.reduceAdd];generalize γ 4=g4 at *;generalize γ 5=g5 at *;clear γ
 go_wp2_with fail
 refine AQ (Co x neg _ N _ w1 Hx.out (p5.num (Nat.le_refl _))) ?_;rintro r w2 hr hx2;obtain⟨b,A2,n2,c2,rfl⟩:=hr.cells;replace hx1:=hx1.trans hx2;have hc1:=hx1.cells;have hf1:=hx1.frozens;have Hfin:=Af (Dk hr hx1.a2 (AV.at_ hx1 (g:=w.heap.size+1) Ac (by simp[Ah])) Aa);clear hr p4 p5;go_wp2;refine bodyPost_ret (v := .agg #[.bool b,.slice A2 n2 c2]) (by simp[results,Tryz.results134,go_sem,hc1]) rfl ?_
 exact Hfin.out
theorem Ub(v:Value)(x:Int)(w:World)(hv:Bj w v x):Bg 135 #[v] w (fun r w'=>AO w' r (-x)):=by
 obtain⟨neg,A,n,c,N,rfl,h1,h2,h3,hN,hx⟩:=hv.form;have HN:=Af hN;clear hN hv;have Hx:=Af (show -x=if (!neg)=true then -(N:Int)else N by rw[hx];cases neg<;>simp);clear hx;have hs:sz N<=n:=HN.out.sz
 go_enter Tryz.func135,Tryz.ntmps135
 go_wp2_with fail
 refine EE 7 [3,4,5,6,7,8,9] [1] [_] [(kv ?_),(kv ?_),(kv ?_),(kv ?_),(kv ?_),(fun γ=>γ 5),(fun γ=>γ 6)] (fun γ w'=>[True,True,True,True,True,Bt w' (γ 5) N,Bt w' (γ 6) N]) ?s2 ?_
 case s2 =>
  iterate 7 refine⟨?_,?_⟩
  trivial
  iterate 5 focus
   refine Bi fun _ w' he R hR=>?_;have hc:=he.cells;go_simp;(try go_ints);(try(rw[if_neg Aa]));(try(rw[if_pos Aa]));(try go_simp);(try go_ints)
   exact C8 hR
  ·refine Bi fun _ w' he R hR=>?_
   go_simp;exact BF (Bo _ N n w' (HN.out.ext he.a2)) hR
  ·refine Gj fun γ w' he hf R hR=>?_;have f5:Bt w' (γ 5) N:=hf 5 Ab;clear hf
   go_simp;exact BF (J3 _ N w' f5 Aa) hR
 intro γ w1 hx1 hF;have p5:Bt w1 (γ 5) N:=AC.get hF 5 Ab;have p6:Bt w1 (γ 6) N:=AC.get hF 6 Ab;clear hF;simp only[Bw,Nat.reduceAdd];generalize γ 5=g5 at *;generalize γ 6=g6 at *;clear γ
 go_wp2_with fail
 refine AQ (Co (-x) (!neg) _ N _ w1 Hx.out (p6.num (Nat.le_refl _))) ?_;rintro r w2 hr hx2;obtain⟨b,A2,n2,c2,rfl⟩:=hr.cells;replace hx1:=hx1.trans hx2;have hc1:=hx1.cells;have hf1:=hx1.frozens;have Hfin:=Af (Dk hr hx1.a2 (AV.at_ hx1 (g:=w.heap.size+1) Ac (by simp[Ah])) Aa);clear hr p5 p6;go_wp2;refine bodyPost_ret (v := .agg #[.bool b,.slice A2 n2 c2]) (by simp[results,Tryz.results135,go_sem,hc1]) rfl ?_
 exact Hfin.out
theorem LH{x:Int}(h1 : -9223372036854775808<=x)(h2:x < 0):IntKind.u64.wrap (-IntKind.u64.wrap x)=(x.natAbs:Nat):=by
 simp[IntKind.wrap,IntKind.bits,IntKind.signed];omega
theorem Xu{x:Int}(h1:0<=x)(h2:x < 9223372036854775808):IntKind.u64.wrap x=(x.natAbs:Nat):=by
 simp[IntKind.wrap,IntKind.bits,IntKind.signed];omega
theorem Jb(x:Int)(w:World)(h1 : -9223372036854775808<=x)(h2:x < 9223372036854775808):Bg 117 #[.int .i64 x] w (fun r w'=>AO w' r x):=by
 have hsz:sz x.natAbs<=2:=IW Aa
 go_enter Tryz.func117,Tryz.ntmps117
 by_cases hneg:x < 0
 ·have hb:decide (x < 0)=true:=by simpa using hneg
  go_wp2_with fail
  refine AQ (LJ x.natAbs _ (LH h1 hneg) _ Aa) ?_;rintro r w1 hr hx1
  go_wp2_with fail
  refine Calls.mono (Co x true _ x.natAbs _ w1 (by rw[if_pos rfl];omega) (hr.num hsz)) ?_;clear h1 h2;rintro e w2 ⟨r2,rfl,hr2,hx2⟩;obtain⟨b,A2,n2,c2,rfl⟩:=hr2.cells;replace hx1:=hx1.trans hx2;have hc1:=hx1.cells;have hf1:=hx1.frozens;have Hfin:=Af (Dk hr2 hx1.a1 (AV.at_ hx1 rfl (by simp[Ah])) Aa);clear hr hr2;go_wp2;refine bodyPost_ret (v := .agg #[.bool b,.slice A2 n2 c2]) (by simp[results,Tryz.results117,go_sem,hc1]) rfl ?_
  exact Hfin.out
 ·have hb:decide (x < 0)=false:=by simpa using hneg
  go_wp2_with fail
  refine AQ (LJ x.natAbs _ Aa _ Aa) ?_;rintro r w1 hr hx1
  go_wp2_with fail
  refine Calls.mono (Co x false _ x.natAbs _ w1 (by rw[if_neg Ab];omega) (hr.num hsz)) ?_;clear h1 h2;rintro e w2 ⟨r2,rfl,hr2,hx2⟩;obtain⟨b,A2,n2,c2,rfl⟩:=hr2.cells;replace hx1:=hx1.trans hx2;have hc1:=hx1.cells;have hf1:=hx1.frozens;have Hfin:=Af (Dk hr2 hx1.a1 (AV.at_ hx1 rfl (by simp[Ah])) Aa);clear hr hr2;go_wp2;refine bodyPost_ret (v := .agg #[.bool b,.slice A2 n2 c2]) (by simp[results,Tryz.results117,go_sem,hc1]) rfl ?_
  exact Hfin.out
theorem Ib(v:Value)(x:Int)(w:World)(hv:Bj w v x):Bg 138 #[v] w (fun r _=>r = .int .i64 x.sign):=by
 obtain⟨neg,A,n,c,N,rfl,h1,h2,h3,hN,hx⟩:=hv.form;have HN:=Af hN;clear hN hv;have hs:sz N<=n:=HN.out.sz
 go_enter Tryz.func138,Tryz.ntmps138
 go_wp2_with fail
 refine AQ (Bo _ N n _ (HN.out.ext ((Ext.refl w).alloc _))) ?_;rintro r w1 hr hx1;obtain⟨A',c',rfl,q1,q2⟩:=hr.form;clear hr;have hc1:=hx1.cells;by_cases h0:N=0
 ·have hb:(((sz N:Nat):Int)==0)=true:=by subst h0;rfl
  have Hs:=Af (show x.sign=0 by subst h0;rw[hx];cases neg<;>rfl);clear hx h0;go_wp2
  go_ret
  exact Ai.mk (by rw[Hs.out];rfl) hx1.a1
 ·have hp:=Es h0
  have hb:(((sz N:Nat):Int)==0)=false:=by simp;omega
  have Hx:=Af hx;clear hx;have H0:=Af h0;clear h0;cases neg
  ·have Hs:=Af (show x.sign=1 by rw[Hx.out];exact Int.sign_eq_one_of_pos (by have:=H0.out;simp;omega))
   go_wp2
   go_ret
   exact Ai.mk (by rw[Hs.out];rfl) hx1.a1
  ·have Hs:=Af (show x.sign = -1 by rw[Hx.out];exact Int.sign_eq_neg_one_of_neg (by have:=H0.out;simp;omega))
   go_wp2
   go_ret
   exact Ai.mk (by rw[Hs.out];rfl) hx1.a1
def Vw(base:Nat)(w:World)(v:Value)(ds:List Nat):Prop:=BH w v ds/\(0 < ds.length->∀ a n c,v = .slice (some a) n c->base<=a.block)
theorem Vw.of_own{w:World}{base e n:Nat}{v:Value}{ds:List Nat}(h:w.ownsRow base e 1 v n (ds.map fun d=>Value.int .u32 (d:Nat)))(hd:∀ d∈ds,d < 4294967296):Vw base w v ds:=
 ⟨BH.of_own h hd,fun _ a n c e=>by
  obtain⟨_,h | ⟨g,cap,cur,h1,h2,_⟩⟩:=h
  ·rw[h.1]at e;cases e
  ·rw[h1]at e;cases e;exact h2⟩
theorem MH{P:Program}(w:World)(t ty e:TypeId)(i:TypeInfo)(ht:P.underlying t=some (.slice e))(hi:P.info? e=some i)(g c:Nat) :
  (Builtin.append_ #[t,t] ty #[.slice (some ⟨g,0,none⟩) 0 0,.slice none 0 c]).run P w = .ok (.slice (some ⟨g,0,none⟩) 0 0) w:=by
 simp[Builtin.append_,run_underlying ht,sizeOf,typeInfo,hi,Builtin.lenOf,run_firstCells_none,storeCells]
theorem Xt(v:Value)(ds:List Nat)(w:World)(h:BH w v ds)(hn:ds.length<=8796093022208):Bg 97 #[v] w (fun r w'=>Vw w.heap.size w' r (trim ds)):=by
 obtain⟨A,c,rfl,hl,hc,hd,hA⟩:=h;have HA:=Af hA;have HD:=Af hd;clear hA hd;obtain⟨i0,hi,hz0,hz1,hz2⟩:=info_parts JJ;have HI:=Af (Au hi (Au hz0 (Au hz1 hz2)));clear hi hz0 hz1 hz2
 go_enter Tryz.func97,Tryz.ntmps97
 go_wp2
 go_loop [3] (fun v=>∃ m:Nat,m<=ds.length/\v = .int .i64 m/\∀ j,m<=j->(h:j < ds.length)->ds[j]=0) (fun v=>(intOf v).toNat)
 case atStart=>exact⟨ds.length,Nat.le_refl _,rfl,fun j h1 h2=>Aa⟩
 case round =>
  obtain⟨m,hm,rfl,hz⟩:=hrel;have Hz:=Af hz;clear hz;by_cases hgo:∃ h:0 < m,ds[m - 1]'(Aa)=0
  ·obtain⟨h0,hd0⟩:=hgo
   obtain⟨m,rfl⟩:∃ k,m=k+1:=⟨m - 1,Aa⟩
   obtain⟨a,rfl,hcell⟩:=HA.out Aa;have hcm:=hcell m Aa;have hb:(((ds[m]'(Aa):Nat):Int)==0)=true:=by simpa using hd0
   clear hcell;have Hd0:=Af hd0;clear hd0;go_wp2
   go_round
   case rel=>exact⟨m,Aa,by go_num,fun j h1 h2=>by
    rcases Nat.eq_or_lt_of_le h1 with e | e
    ·subst e;exact Hd0.out
    ·exact Hz.out j Aa h2⟩
   case measure=>simp[intOf]<;>omega
  ·have ht:=KP hm Hz.out (fun h hh e=>hgo ⟨hh,e⟩)
   have hlen:=Po ht hm;have HT:=Af (Au ht hlen);clear ht hlen;have hcase:m=0\/∃ k,m=k+1/\∃ h:k < ds.length,ds[k]≠0:=by
    rcases Nat.eq_zero_or_pos m with h | h
    ·exact .inl h
    ·exact .inr ⟨m - 1,Aa,Aa,fun e=>hgo ⟨h,e⟩⟩
   clear hgo;obtain⟨news,hnw⟩:∃ news:List Value,news=(trim ds).map fun d=>Value.int .u32 (d:Nat):=⟨_,rfl⟩
   have fin:∀(v':Value) (w':World),w'.ownsRow w.heap.size 113 1 v' m news->Vw w.heap.size w' v' (trim ds):=by
    intro v' w' h;rw[hnw]at h;exact Vw.of_own h (Gq HD.out)
   have Hfin:=Af fin;clear fin;have hnews:∀ a,A=some a->∀(j:Nat) (u:Value),news[j]? = some u->w.cell? (a.add j)=some u:=by
    intro a ha j u hu;rw[hnw,<-HT.out.1,List.getElem?_map]at hu;rcases Nat.lt_or_ge j (ds.take m).length with h | h
    ·rw[List.getElem?_eq_getElem h]at hu
     have hj:j < ds.length:=by have:=List.length_take_le' m ds;omega
     obtain⟨a',ha',hc⟩:=HA.out Aa;rw[ha]at ha';cases ha';rw[hc j hj];simpa using hu
    ·rw[List.getElem?_eq_none h]at hu;cases hu
   have Hn:=Af hnews;clear hnews;have hone:news.length=m*1/\∀ u∈news,u.oneCell'=true:=by
    rw[hnw];refine⟨by simp[HT.out.2],fun u hu=>?_⟩;simp at hu;obtain⟨d,_,rfl⟩:=hu;rfl
   have Ho:=Af hone;clear hone hnw;rcases hcase with h0 | ⟨k,h0,hk,hd0⟩
   ·obtain rfl:m=0:=h0
    cases A with
    | none =>
     have hds:ds=[]:=by
      rcases Nat.eq_zero_or_pos ds.length with h | h
      ·exact List.eq_nil_of_length_eq_zero h
      ·obtain⟨a,ha,_⟩:=HA.out h;cases ha
     clear Hfin Hn HT HA Hz HD hl hm hn Ho;subst hds;have hap:=fun W ty g c'=>MH (P:=Tryz.prog) W 24 ty 113 i0 Tryz.underlying24 HI.out.1 g c';go_wp2
     go_ret
     exact Ai.mk ⟨⟨_,0,rfl,Nat.le_refl _,Aa,Bc.nil,fun h=>absurd h (by simp[QL])⟩,fun h=>absurd h (by simp[QL])⟩ ((Ext.refl _).alloc _)
    | some a =>
     clear Hz hm
     go_wp2_with (at_builtin;refine wpList_append_own _ rfl _ _ 24 rfl w.heap.size 113 i0 (.int .u32 0) 1 4 Tryz.underlying24 HI.out.1 HI.out.2.1 HI.out.2.2.1 HI.out.2.2.2 rfl Ab _ _ _ rfl (World.ownsRow_made w #[] 0 (Nat.le_refl _) (by simp[maxLen]) rfl) a (0) c news rfl Ho.out.1 ?c1 ?c2 ?c3 ?c4 ?c5 ?_)
     case c1=>intro j u hu;exact((Ext.refl w).alloc _).cell (Hn.out a rfl j u hu)
     case c2=>exact Ho.out.2
     try(case c3=>simp only[maxLen];omega)
     try(case c4=>omega)
     try(case c5=>simp)
     intro v' w' hown hg _;have Hown:=Af hown;clear hown;go_wp2
     go_ret
     refine Ai.mk (Hfin.out _ _ Hown.out) (((Ext.refl w).alloc _).grown hg ?_);intro k hk;simp[Value.ownBlock]at hk;omega
   ·obtain rfl:m=k+1:=h0
    obtain⟨a,rfl,hcell⟩:=HA.out Aa;have hcm:=hcell k Aa;have hb:(((ds[k]'(Aa):Nat):Int)==0)=false:=by simpa using hd0
    clear hcell hd0 Hz
    go_wp2_with (at_builtin;refine wpList_append_own _ rfl _ _ 24 rfl w.heap.size 113 i0 (.int .u32 0) 1 4 Tryz.underlying24 HI.out.1 HI.out.2.1 HI.out.2.2.1 HI.out.2.2.2 rfl Ab _ _ _ rfl (World.ownsRow_made w #[] 0 (Nat.le_refl _) (by simp[maxLen]) rfl) a (k+1) c news rfl Ho.out.1 ?d1 ?d2 ?d3 ?d4 ?d5 ?_)
    case d1=>intro j u hu;exact((Ext.refl w).alloc _).cell (Hn.out a rfl j u hu)
    case d2=>exact Ho.out.2
    try(case d3=>simp only[maxLen];omega)
    try(case d4=>omega)
    try(case d5=>simp)
    intro v' w' hown hg _;have Hown:=Af hown;clear hown;go_wp2
    go_ret
    refine Ai.mk (Hfin.out _ _ Hown.out) (((Ext.refl w).alloc _).grown hg ?_);intro k hk;simp[Value.ownBlock]at hk;omega
theorem WC(v:Value)(ds:List Nat)(w:World)(h:BH w v ds)(hn:ds.length<=8796093022208):Bg 97 #[v] w (fun r w'=>BH w' r (trim ds)):=
 Ai.imp (Xt v ds w h hn) fun _ _ h=>h.1
theorem QC(v:Value)(N l:Nat)(w:World)(h:DK w v N l)(hl:l<=8796093022208):Bg 97 #[v] w (fun r w'=>Bt w' r N):=by
 obtain⟨ds,h1,rfl,h3⟩:=h;exact Ai.imp (WC v ds w h1 Aa) fun _ _ h=>⟨trim ds,h,GH ds,Gh ds⟩
theorem P9(v:Value)(x:Int)(w:World)(hv:Bj w v x):Bg 83 #[v] w (fun r w'=>AO w' r x):=by
 obtain⟨neg,A,n,c,N,rfl,h1,h2,h3,hN,hx⟩:=hv.form;have HN:=Af hN;clear hN hv;have Hx:=Af hx;clear hx
 go_enter Tryz.func83,Tryz.ntmps83
 go_wp2_with fail
 refine AQ (QC _ N n _ (HN.out.ext (((Ext.refl w).alloc _).alloc _)) Aa) ?_;rintro r w1 hr hx1;obtain⟨A',c',rfl,q1,q2⟩:=hr.form;have hc1:=hx1.cells;have hf1:=hx1.frozens;cases neg
 ·skip
  have hz:=AO.mk (neg:=false) hr (fun h=>by cases h);have ez:(if false=true then -(N:Int)else(N:Int))=x:=(by rw[Hx.out])
  rw[ez]at hz;have Hfin:=Af (Dk hz hx1.a2 (AV.at_ hx1 (g:=w.heap.size+1) Ac (by simp[Ah])) Aa);clear hr hz ez;go_wp2;refine bodyPost_ret (v := .agg #[.bool false,.slice A' (sz N) c']) (by simp[results,Tryz.results83,go_sem,hc1]) rfl ?_;exact Hfin.out
 ·by_cases h0:N=0
  ·have hb:decide (0 < sz N)=false:=by subst h0;rfl
   have H0:=Af h0;clear h0;have hz:=AO.mk (neg:=false) hr (fun h=>by cases h);have ez:(if false=true then -(N:Int)else(N:Int))=x:=(by rw[Hx.out,H0.out];simp)
   rw[ez]at hz;have Hfin:=Af (Dk hz hx1.a2 (AV.at_ hx1 (g:=w.heap.size+1) Ac (by simp[Ah])) Aa);clear hr hz ez;go_wp2;refine bodyPost_ret (v := .agg #[.bool false,.slice A' (sz N) c']) (by simp[results,Tryz.results83,go_sem,hc1]) rfl ?_;exact Hfin.out
  ·have hb:decide (0 < sz N)=true:=by have:=Es h0;simpa using this
   have H0:=Af h0;clear h0;have hz:=AO.mk (neg:=true) hr (fun _=>H0.out);have ez:(if true=true then -(N:Int)else(N:Int))=x:=(by rw[Hx.out])
   rw[ez]at hz;have Hfin:=Af (Dk hz hx1.a2 (AV.at_ hx1 (g:=w.heap.size+1) Ac (by simp[Ah])) Aa);clear hr hz ez;go_wp2;refine bodyPost_ret (v := .agg #[.bool true,.slice A' (sz N) c']) (by simp[results,Tryz.results83,go_sem,hc1]) rfl ?_;exact Hfin.out
theorem Qt(x:Int)(neg:Bool)(v:Value)(N l:Nat)(w:World)(hx:x=if neg then -(N:Int)else N)(hv:DK w v N l)(hl:l<=1099511627776):Bg 63 #[.bool neg,v] w (fun r w'=>AO w' r x):=by
 obtain⟨ds,h1,hnv,h3⟩:=hv;have hz:Bj w (.agg #[.bool neg,v]) x:=⟨neg,ds,⟨v,rfl,h1⟩,by unfold iv;rw[hnv,hx],Aa⟩
 have Hz:=Af hz;clear hz;obtain⟨A,c,rfl,hl',hc,hA⟩:=h1;clear hx hnv hA
 go_enter Tryz.func63,Tryz.ntmps63
 go_wp2_with fail
 refine AQ (P9 _ x _ (Hz.out.ext ((Ext.refl w).alloc _))) ?_;rintro r w1 hr hx1;obtain⟨b5,A5,n5,c5,rfl⟩:=hr.cells;have hc1:=hx1.cells;have hf1:=hx1.frozens;have Hfin:=Af (Dk hr hx1.a1 (AV.at_ hx1 (g:=w.heap.size+0) Ac (by simp[Ah])) Aa);clear hr;go_wp2;refine bodyPost_ret (v := .agg #[.bool b5,.slice A5 n5 c5]) (by simp[results,Tryz.results63,go_sem,hc1]) rfl ?_;exact Hfin.out
theorem WE(v:Value)(x:Int)(w:World)(hv:Bj w v x):Bg 36 #[v] w (fun r _=>r = .int .i64 x.sign):=by
 have HV:=Af hv;obtain⟨neg,A,n,c,N,rfl,h1,h2,h3,hN,hx⟩:=hv.form;clear hN hv hx
 go_enter Tryz.func36,Tryz.ntmps36
 go_wp2_with fail
 refine AQ (P9 _ x _ (HV.out.ext ((Ext.refl w).alloc _))) ?_;rintro r w1 hr hx1;obtain⟨A5,c5,rfl,q1,q2,hr2⟩:=hr.form;clear hr hr2;rcases Int.lt_trichotomy x 0 with h | h | h
 ·have hb:(((sz x.natAbs:Nat):Int)==0)=false:=by have:=Es (n:=x.natAbs) Aa;simp;omega
  have hb2:decide (x < 0)=true:=by simpa using h
  have Hs:=Af (Int.sign_eq_neg_one_of_neg h);clear h;go_wp2
  go_ret
  exact Ai.mk (by rw[Hs.out];rfl) (hx1.a1.alloc _)
 ·have hb:(((sz x.natAbs:Nat):Int)==0)=true:=by subst h;rfl
  have Hs:=Af (show x.sign=0 by rw[h];rfl);clear h;go_wp2
  go_ret
  exact Ai.mk (by rw[Hs.out];rfl) (hx1.a1.alloc _)
 ·have hb:(((sz x.natAbs:Nat):Int)==0)=false:=by have:=Es (n:=x.natAbs) Aa;simp;omega
  have hb2:decide (x < 0)=false:=by simp;omega
  have Hs:=Af (Int.sign_eq_one_of_pos h);clear h;go_wp2
  go_ret
  exact Ai.mk (by rw[Hs.out];rfl) (hx1.a1.alloc _)
theorem kH(x:Int)(w:World)(h1 : -9223372036854775808<=x)(h2:x < 9223372036854775808):Bg 60 #[.int .i64 x] w (fun r w'=>AO w' r x):=by
 have key:∀(n g:Nat) (W:World) (t:TypeId) (a b:Int),a=(n % 4294967296:Nat)->b=(n / 4294967296:Nat)->g=W.heap.size->n < 18446744073709551616->DK (W.alloc (.cells #[.int .u32 a,.int .u32 b] t)) (.slice (some ⟨g,0,none⟩) 2 2) n 2:=by
  intro n g W t a b ha hb hg hn;subst ha hb hg;have hb:BA (W.alloc (.cells #[.int .u32 (n % 4294967296:Nat),.int .u32 (n / 4294967296:Nat)] t)) W.heap.size t [n % 4294967296,n / 4294967296]:=NH (heap_alloc_new W _);exact⟨_,hb.digv (Bc.cons Aa (Bc.cons Aa Bc.nil)) (c:=2) Ac Aa,by simp[Cm,C9];omega,Ac⟩
 have Hk:=Af key;clear key
 go_enter Tryz.func60,Tryz.ntmps60
 by_cases hneg:x < 0
 ·have hb:decide (x < 0)=true:=by simpa using hneg
  have hw:=LH h1 hneg;have Hw:=Af hw;clear hw
  go_wp2_with fail
  refine AQ (Qt x true _ x.natAbs 2 _ (by rw[if_pos rfl];omega) (Hk.out x.natAbs _ _ _ _ _ (by rw[Hw.out];omega) (by rw[Hw.out];omega) Ac Aa) Aa) ?_;rintro r w1 hr hx1;replace hx1:=hx1.a1;obtain⟨b5,A5,n5,c5,rfl⟩:=hr.cells;have hc1:=hx1.cells;have hf1:=hx1.frozens;have Hfin:=Af (Dk hr hx1.a1 (AV.at_ hx1 (g:=w.heap.size+0) Ac (by simp[Ah])) Aa);clear hr;go_wp2;refine bodyPost_ret (v := .agg #[.bool b5,.slice A5 n5 c5]) (by simp[results,Tryz.results60,go_sem,hc1]) rfl ?_
  exact Hfin.out
 ·have hb:decide (x < 0)=false:=by simpa using hneg
  go_wp2_with fail
  refine AQ (Qt x false _ x.natAbs 2 _ (by rw[if_neg Ab];omega) (Hk.out x.natAbs _ _ _ _ _ Aa Aa Ac Aa) Aa) ?_;rintro r w1 hr hx1;replace hx1:=hx1.a1;obtain⟨b5,A5,n5,c5,rfl⟩:=hr.cells;have hc1:=hx1.cells;have hf1:=hx1.frozens;have Hfin:=Af (Dk hr hx1.a1 (AV.at_ hx1 (g:=w.heap.size+0) Ac (by simp[Ah])) Aa);clear hr;go_wp2;refine bodyPost_ret (v := .agg #[.bool b5,.slice A5 n5 c5]) (by simp[results,Tryz.results60,go_sem,hc1]) rfl ?_
  exact Hfin.out
theorem XV(v u:Value)(x y:Int)(w:World)(hv:AO w v x)(hu:AO w u y):Bg 107 #[v,u] w (fun r _=>r = .bool (decide (x=y))):=by
 obtain⟨A,c,ds,rfl,hA,hl,hn,hd,hc,hm⟩:=hv.digs;obtain⟨E,d,es,rfl,hE,kl,kn,he,kc,km⟩:=hu.digs;have HA:=Af hA;have HE:=Af hE;have HL:=Af (Au hl (Au hn (Au kl (Au kn (Au hd he)))));clear hA hE hl hn kl kn hd he hv hu;obtain⟨sx,hsx⟩:∃ sx,sx=decide (x < 0):=⟨_,rfl⟩
 obtain⟨sy,hsy⟩:∃ sy,sy=decide (y < 0):=⟨_,rfl⟩
 rw[<-hsx,<-hsy];have Hs:=Af (Au hsx hsy);clear hsx hsy;obtain⟨bx,hbx⟩:∃ bx,bx=decide (x=y):=⟨_,rfl⟩
 rw[<-hbx];have Hb:=Af hbx;clear hbx;by_cases hs:sx=sy
 ·obtain rfl:sx=sy:=hs
  by_cases hsz:sz x.natAbs=sz y.natAbs
  ·have Hz:=Af hsz
   generalize hny:sz y.natAbs=ny at *;subst hsz;generalize hnx:sz x.natAbs=nx at *;have Hnn:=Af (Au hnx hny);clear hnx hny
   go_enter Tryz.func107,Tryz.ntmps107
   go_wp2
   go_loopw [5] (fun iv wr=>∃ k:Nat,k<=nx/\iv = .int .i64 k/\(∀ j,j < k->dg ds j=dg es j)/\Ext ((w.alloc (.cells #[.bool sx,.slice A nx c] 26)).alloc (.cells #[.bool sx,.slice E nx d] 26)) wr) (fun iv _=>nx - (intOf iv).toNat)
   case atStart=>exact⟨0,Nat.zero_le _,rfl,fun j h=>Aa,Ext.refl _⟩
   case round =>
    obtain⟨k,hk,rfl,heq,hx⟩:=hrel;have Heq:=Af heq;clear heq;have ca0:=hx.a1.box (g:=w.heap.size) (i:=0) rfl rfl;have ca1:=hx.a1.box (g:=w.heap.size) (i:=1) rfl rfl;have cb0:=hx.box (g:=w.heap.size+1) (i:=0) Ac rfl;have cb1:=hx.box (g:=w.heap.size+1) (i:=1) Ac rfl;by_cases hkn:k < nx
    ·obtain⟨a,rfl,q0⟩:=Cu HA.out (k:=k) (by have:=HL.out.1;omega)
     obtain⟨b,rfl,q1⟩:=Cu HE.out (k:=k) (by have:=HL.out.2.2.1;omega);replace q0:=hx.a2.cell q0;replace q1:=hx.a2.cell q1;generalize hxx:dg ds k=p at *;generalize hyy:dg es k=q at *;have Hx:=Af hxx;have Hy:=Af hyy;clear hxx hyy;by_cases hpq:p=q
     ·have hb3:(((p:Nat):Int) != (q:Nat))=false:=by simp[hpq]
      have Hpq:=Af hpq;clear hpq
      go_wp2_with fail
      refine EE 10 [27,28,29,30,31,32,33,34,35,36] [2,5,3] [_,_,_] [(kv ?_),(kv ?_),(kv ?_),(kv ?_),(kv ?_),(kv ?_),(kv ?_),(kv ?_),(kv ?_),(kv ?_)] (fun γ w'=>[True,True,True,True,True,True,True,True,True,True]) ?s1 ?_
      case s1 =>
       iterate 10 refine⟨?_,?_⟩
       trivial
       iterate 10 focus
        refine Bi fun _ w' he R hR=>?_;have hc:=he.cells;have cq0:=he.cell ca0;have cq1:=he.cell ca1;have cq2:=he.cell cb0;have cq3:=he.cell cb1;have cq4:=he.cell q0;have cq5:=he.cell q1;go_simp;(try go_ints);(try(rw[if_neg Aa]));(try(rw[if_pos Aa]));(try go_simp);(try go_ints)
        exact C8 hR
      intro γ w1 hx1 hF;clear hF;simp only[Bw,Nat.reduceAdd];clear γ;go_wp2
      go_roundw
      case rel=>exact⟨k+1,Aa,by go_num,fun j h=>by
       rcases Nat.eq_or_lt_of_le (Nat.le_of_lt_succ h)with e | e
       ·rw[e,Hx.out,Hy.out];exact Hpq.out
       ·exact Heq.out j e,hx.trans hx1⟩
      case measure=>simp[intOf];omega
     ·have hb3:(((p:Nat):Int) != (q:Nat))=true:=by simp;omega
      have Hpq:=Af hpq;clear hpq
      go_wp2_with fail
      refine EE 10 [27,28,29,30,31,32,33,34,35,36] [2,5,3] [_,_,_] [(kv ?_),(kv ?_),(kv ?_),(kv ?_),(kv ?_),(kv ?_),(kv ?_),(kv ?_),(kv ?_),(kv ?_)] (fun γ w'=>[True,True,True,True,True,True,True,True,True,True]) ?s2 ?_
      case s2 =>
       iterate 10 refine⟨?_,?_⟩
       trivial
       iterate 10 focus
        refine Bi fun _ w' he R hR=>?_;have hc:=he.cells;have cq0:=he.cell ca0;have cq1:=he.cell ca1;have cq2:=he.cell cb0;have cq3:=he.cell cb1;have cq4:=he.cell q0;have cq5:=he.cell q1;go_simp;(try go_ints);(try(rw[if_neg Aa]));(try(rw[if_pos Aa]));(try go_simp);(try go_ints)
        exact C8 hR
      intro γ w1 hx1 hF;clear hF;simp only[Bw,Nat.reduceAdd];clear γ;go_wp2
      go_ret
      refine Ai.mk ?_ (hx.a2.trans hx1);rw[Hb.out];have:¬ x=y:=by
       rintro rfl;have e:ds=es:=QH HL.out.2.2.2.2.1 HL.out.2.2.2.2.2 (by have:=HL.out.1;have:=HL.out.2.2.1;have:=Hz.out;omega) (by rw[HL.out.2.1,HL.out.2.2.2.1]);exact Hpq.out (by rw[<-Hx.out,<-Hy.out,e])
      simp[this]
    ·obtain rfl:k=nx:=by omega
     have hdone:x=y:=by
      have e:=Zz (ds:=ds) (es:=es) (by have:=HL.out.1;have:=HL.out.2.2.1;have:=Hz.out;omega) (fun j hj=>Heq.out j (by have:=HL.out.1;omega));exact Wv (by rw[<-HL.out.2.1,<-HL.out.2.2.2.1,e]) (Hs.out.1▸Hs.out.2)
     have Hd:=Af hdone;clear hdone;go_wp2
     go_ret
     exact Ai.mk (by rw[Hb.out,decide_eq_true Hd.out];rfl) hx.a2
  ·have hb2:(((sz x.natAbs:Nat):Int) != (sz y.natAbs:Nat))=true:=by simp;omega
   have hne:bx=false:=by rw[Hb.out];simp;rintro rfl;exact hsz rfl
   subst hne;clear hsz
   go_enter Tryz.func107,Tryz.ntmps107
   go_wp2
   go_ret
   exact Ai.mk rfl (((Ext.refl w).alloc _).alloc _)
 ·have hne:bx=false:=by rw[Hb.out];simp;rintro rfl;exact hs (Hs.out.1.trans Hs.out.2.symm)
  subst hne;obtain rfl:sy=!sx:=by cases sx<;>cases sy<;>simp_all
  clear hs;cases sx
  all_goals
   go_enter Tryz.func107,Tryz.ntmps107
   go_wp2
   go_ret
   exact Ai.mk rfl (((Ext.refl w).alloc _).alloc _)
def Ic(base:Nat)(w:World)(v:Value)(ds:List Nat):Prop:=w.ownsRow base 113 1 v ds.length (ds.map fun d=>Value.int .u32 (d:Nat))
theorem Ic.nil(base:Nat)(w:World):Ic base w (.slice none 0 0) []:=World.ownsRow_nil w base _ 1
theorem Ic.digv{base:Nat}{w:World}{v:Value}{ds:List Nat}(h:Ic base w v ds)(hd:Bc ds):BH w v ds:=BH.of_own h hd
theorem Ic.from_{base:Nat}{a w w':World}{v:Value}{ds:List Nat}(h:Ic base w v ds)(hg:w.grownBy w' v.ownBlock)(x:Ext a w)(hb:a.heap.size<=base):Ext a w':=
 x.grown hg fun k hk=>Nat.le_trans hb (World.ownsRow.lt h k hk).1
theorem Ic.alloc{base:Nat}{w:World}{v:Value}{ds:List Nat}(h:Ic base w v ds)(o:Obj):Ic base (w.alloc o) v ds:=World.ownsRow.alloc h o
theorem Q3(W:World)(base ty:Nat)(v:Value)(ds:List Nat)(d g:Nat)(z:Int)(h:Ic base W v ds)(hz:z=(d:Nat))(hn:ds.length<=8796093022208)(hb:base<=W.heap.size)(hg:g=W.heap.size) :
  ∃ v' w',(Builtin.append_ #[24,24] ty #[v,.slice (some ⟨g,0,none⟩) 1 1]).run Tryz.prog (W.alloc (.cells #[.int .u32 z] 113)) = .ok v' w'/\(Ic base w' v' (ds ++ [d])/\(W.alloc (.cells #[.int .u32 z] 113)).grownBy w' v.ownBlock):=by
 subst hz hg;obtain⟨i0,hi,hz0,hz1,hz2⟩:=info_parts JJ;obtain⟨v',w',a,b,c,_⟩:=run_append_own (P:=Tryz.prog) (W.alloc (.cells #[.int .u32 (d:Nat)] 113)) base 24 ty 113 i0 (.int .u32 0) 1 4 Tryz.underlying24 hi hz0 hz1 hz2 rfl Ab v ds.length _ (h.alloc _) ⟨W.heap.size,0,none⟩ 1 1 [.int .u32 (d:Nat)] rfl (MB W _ _) (by intro u hu;simp at hu;subst hu;rfl) (by simp only[maxLen];omega) Aa Dq;refine⟨v',w',a,?_,c⟩
 unfold Ic;rw[List.length_append,List.map_append];exact b
theorem dR(v:Value)(x:Int)(w:World)(hv:Bj w v x):Bg 46 #[v] w (fun r _=>∃ b:Nat,r = .int .i64 b/\BL x.natAbs b):=by
 obtain⟨neg,A,n,c,N,rfl,h1,h2,h3,hN,hx⟩:=hv.form;have HN:=Af hN;clear hN hv;have Hx:=Af (show x.natAbs=N by rw[hx];cases neg<;>simp);clear hx
 go_enter Tryz.func46,Tryz.ntmps46
 go_wp2_with fail
 refine AQ (QC _ N n _ (HN.out.ext ((Ext.refl w).alloc _)) Aa) ?_;rintro r w1 hr hx1;obtain⟨ds,hd,hnv,ht,hl⟩:=hr.len;obtain⟨E,p1,rfl,hl1,hc1,hE⟩:=hd;have HX:=Af (show x.natAbs=nv ds by rw[Hx.out,<-hnv]);have hx:=hx1.a1;have hm:ds.length<=1099511627776:=by rw[hl];exact Nat.le_trans HN.out.sz h3
 clear hx1 hr hl HN Hx hnv h1 h2 h3;rcases Nat.eq_zero_or_pos ds.length with h0 | h0
 ·have hb:(((ds.length:Nat):Int)==0)=true:=by rw[h0];rfl
  have:ds=[]:=List.eq_nil_of_length_eq_zero h0;clear h0;have Hd:=Af this;clear this;go_wp2
  go_ret
  exact Ai.mk ⟨0,rfl,by rw[HX.out,Hd.out];exact BL.zero⟩ hx
 ·have hb:(((ds.length:Nat):Int)==0)=false:=beq_eq_false_iff_ne.2 Aa
  obtain⟨a,ha,hca⟩:=Cu hE (k:=ds.length - 1) Aa;have x1:=AZ hE.1 (ds.length - 1);have hd0:dg ds (ds.length - 1)≠0:=by
   rw[DN Aa];have:=ht (List.ne_nil_of_length_pos h0);rwa[List.getLast_eq_getElem]at this
  obtain⟨d,hdd⟩:∃ d,d=dg ds (ds.length - 1):=⟨_,rfl⟩
  rw[<-hdd]at hca x1 hd0;replace hca:=hca;have Hd:=Af (Au hdd ht);clear hdd ht;obtain⟨m,hmm⟩:∃ m,ds.length=m+1:=⟨ds.length - 1,Aa⟩
  rw[hmm]at hca hb hl1 hm ⊢;clear h0;have Hm:=Af hmm;clear hmm;subst ha;rw[Nat.add_sub_cancel]at hca;go_wp2
  go_loopw [4,5] (fun bv tv wr=>∃ j:Nat,j<=32/\bv = .int .i64 (32*m+j:Nat)/\tv = .int .u32 (d / 2^j:Nat)/\(0 < j->2^(j - 1)<=d)/\Ext w wr) (fun _ tv _=>(intOf tv).toNat)
  case atStart=>exact⟨0,Aa,by go_num,Ac,fun h=>absurd h Ab,hx⟩
  case round =>
   obtain⟨j,hj,rfl,rfl,hlow,hx⟩:=hrel;have Hlow:=Af hlow;clear hlow;obtain⟨t,htt⟩:∃ t,d / 2^j=t:=⟨_,rfl⟩
   rw[htt];have t1:t < 4294967296:=by rw[<-htt];exact Nat.lt_of_le_of_lt (Nat.div_le_self _ _) x1
   have h2:d / 2^(j+1)=t / 2:=by rw[<-htt,Nat.pow_succ,Nat.div_div_eq_div_mul]
   have h3:0 < t->2^j<=d:=fun h=>by
    rcases Nat.lt_or_ge d (2^j)with h' | h'
    ·rw[Nat.div_eq_of_lt h']at htt;omega
    ·exact h'
   have h4:t=0->d < 2^j:=fun h=>by
    rcases Nat.lt_or_ge d (2^j)with h' | h'
    ·exact h'
    ·have:=Nat.div_pos h' (Nat.two_pow_pos j);omega
   have H:=Af (Au h2 (Au h3 h4));clear h2 h3 h4 htt;by_cases ht0:0 < t
   ·have hj32:j < 32:=by
     rcases Nat.lt_or_ge j 32 with h | h
     ·exact h
     ·have:=H.out.2.1 ht0
      have h5:2^32<=2^j:=Nat.pow_le_pow_right Ab h;omega
    go_wp2
    go_roundw
    case rel=>exact⟨j+1,Aa,by go_num,by rw[H.out.1];go_num,fun _=>H.out.2.1 ht0,hx⟩
    case measure=>simp[intOf]<;>omega
   ·have ht1:t=0:=by omega
    go_wp2
    go_ret
    refine Ai.mk ⟨32*m+j,rfl,?_⟩ hx;have hj0:0 < j:=by
     rcases Nat.eq_zero_or_pos j with h | h
     ·subst h;have:=H.out.2.2 ht1;omega
     ·exact h
    have:=BL.top (ds:=ds) (j:=j) hE.1 (by have:=Hm.out;omega) (by rw[<-Hd.out.1];exact H.out.2.2 ht1) hj0 (by rw[<-Hd.out.1];exact Hlow.out hj0);rw[Hm.out,Nat.add_sub_cancel]at this;rw[HX.out];exact this
theorem Ic.made(w:World)(z base:Nat)(hb:base<=w.heap.size)(hz:z<=70368744177664):Ic base (w.alloc (.cells (FJ z) 113)) (.slice (some ⟨w.heap.size,0,none⟩) z z) (List.replicate z 0):=by
 unfold Ic;rw[List.length_replicate];refine⟨Ac,.inr ⟨_,_,_,rfl,hb,heap_alloc_new w _,Nat.le_refl _,by simp only[maxLen];omega,by simp[FJ],by simp[FJ,dv]⟩⟩
end Go.Proofs.YtmhgnigpmompmaaGreat
