/-
  What the law TopQueue leans on, part 1.
-/
import Derived.Calls
import Derived.Tactics
import Derived.Orders
import Derived.Deep.Quiet
import Derived.Below
import Derived.KernelRfl
import Derived.LoopN
import Derived.Laws.Bits64
import Derived.Laws.MakeOwn
import Derived.Laws.AppendOwn
import Derived.Laws.Append
import Derived.ArgAppend
import Derived.MapKept
import Derived.RangeFuncRecord
import Derived.RangeFuncIn
import Derived.TacticsIn
import Derived.OrdersIn
import Derived.LoopNIn
import Derived.RangeFuncCalls
import Derived.Test.YtbjmllnddanniaaGreatRows
import Derived.OpenShut
import Derived.ChangeArms
import Derived.Deep.Slices
import Derived.ChangeSame
import Derived.Lib.Overlaps
import Derived.Lib.AppendZerosOnto
import Derived.ChangeKeysEq
import Derived.Shelf.SlSortCmp.NoneTotal
import Derived.Shelf.SlicesG.Cmp
set_option linter.unusedVariables false
set_option linter.unusedSimpArgs false
namespace Go.XL
open Go Go.RowKit
def Hx:(List (Nat × Value))→Nat→Option Value
 | [],_=>none
 |(k,v)::r,n=>match Nat.beq k n with|true=>some v|false=>Hx r n

structure Cx where
 size:Nat
 round:Option (Option Nat):=none
 marks:List Deferred:=[]
structure Knows (n:Cx) (F:(List (Nat × Value))) (a:Act):Prop where
 size:a.tmps.size=n.size
 defers:a.defers=n.marks
 slot:∀t v,Hx F t=some v→a.tmps[t]?=some v

def ev(F:(List (Nat × Value))):Operand→Option Value
 |.tmp t=>Hx F t
 |.const v=>some v
 |.global g=>some (.pointer (some ⟨g,0,none⟩))
 |.func f=>some (.func (.func f) #[] #[])

def Kg(F:(List (Nat × Value)))(ρ:Operand→Value):Prop:=∀x v,ev F x=some v→ρ x=v

theorem Knows.agrees{n F a}(h:Knows n F a):Kg F a.eval:=by
 intro x v hx
 cases x with
 |tmp t=>have:=h.slot t v hx;simp[Act.eval,this]
 |const u=>simp only[ev,Option.some.injEq] at hx;exact hx
 |global g=>simp only[ev,Option.some.injEq] at hx;exact hx
 |func f=>simp only[ev,Option.some.injEq] at hx;exact hx

theorem Ep(k v F n):Hx ((k,v)::F) n=if k=n then some v else Hx F n:=by
 simp only[Hx]
 by_cases h:k=n
 ·subst h;simp
 ·have:Nat.beq k n=false:=by rw[Bool.eq_false_iff];intro e;exact h (Nat.eq_of_beq_eq_true e)
  simp[this,h]

theorem Knows.put{n F a}(h:Knows n F a)(d:Nat)(v:Value)(hd:Nat.blt d n.size=true):Knows n ((d,v)::F) (a.put (some d) v):=by
 have hd':d<n.size:=by simpa[Nat.blt_eq] using hd
 refine⟨by simp[Act.put,h.size],by simp[Act.put,h.defers],fun t u ht=>?_⟩
 rw[Ep] at ht
 simp only[Act.put,Array.getElem?_setIfInBounds]
 by_cases e:d=t
 ·subst e;simp at ht;subst ht;simp[h.size,hd']
 ·simp[e] at ht;simp[e,h.slot t u ht]

theorem Knows.keep{n F G a}(h:Knows n F a)(hs:∀t v,Hx G t=some v→Hx F t=some v):Knows n G a :=
 ⟨h.size,h.defers,fun t v ht=>h.slot t v (hs t v ht)⟩

def upd(F:(List (Nat × Value)))(d:Option Nat)(v:Value):(List (Nat × Value)):=match d with|some k=>(k,v)::F|none=>F
def inB(d:Option Nat)(n:Cx):Bool:=match d with|some k=>Nat.blt k n.size|none=>true
theorem Knows.upd{n F a}(h:Knows n F a)(d:Option Nat)(v:Value)(hd:inB d n=true):Knows n (upd F d v) (a.put d v):=by
 cases d with
 |none=>exact h
 |some k=>exact h.put k v hd

structure Sub (w w':World):Prop where
 os:w'.os=w.os
 tape:w'.tape=w.tape
 output:w'.output=w.output
 size:w.heap.size≤w'.heap.size
 block:∀k,k<w.heap.size→w'.heap[k]?=w.heap[k]?

theorem Ax(w:World):Sub w w:=⟨rfl,rfl,rfl,Nat.le_refl _,fun _ _=>rfl⟩
theorem Sub.trans{a b c:World}(h:Sub a b)(k:Sub b c):Sub a c :=
  ⟨k.os.trans h.os,k.tape.trans h.tape,k.output.trans h.output,Nat.le_trans h.size k.size,
   fun i hi=>(k.block i (Nat.lt_of_lt_of_le hi h.size)).trans (h.block i hi)⟩
theorem Sub.below{a b:World}(h:Sub a b):Below a.heap.size a b:=⟨h.os,h.tape,h.output,h.size,h.block⟩

structure Agr (N:Nat→Prop) (w w':World):Prop where
 os:w'.os=w.os
 tape:w'.tape=w.tape
 output:w'.output=w.output
 size:w.heap.size≤w'.heap.size
 block:∀k,k<w.heap.size→¬N k→w'.heap[k]?=w.heap[k]?

theorem Agr.refl(N:Nat→Prop)(w:World):Agr N w w:=⟨rfl,rfl,rfl,Nat.le_refl _,fun _ _ _=>rfl⟩
theorem Agr.trans{N:Nat→Prop}{a b c:World}(h:Agr N a b)(k:Agr N b c):Agr N a c :=
  ⟨k.os.trans h.os,k.tape.trans h.tape,k.output.trans h.output,Nat.le_trans h.size k.size,
   fun i hi hn=>(k.block i (Nat.lt_of_lt_of_le hi h.size) hn).trans (h.block i hi hn)⟩
theorem Sub.agr{N:Nat→Prop}{w w':World}(h:Sub w w'):Agr N w w':=⟨h.os,h.tape,h.output,h.size,fun k hk _=>h.block k hk⟩
theorem Agr.sub{w w':World}(h:Agr (fun _=>False) w w'):Sub w w':=⟨h.os,h.tape,h.output,h.size,fun k hk=>h.block k hk id⟩
theorem Agr.mono{N N':Nat→Prop}{w w':World}(h:Agr N w w')(hn:∀k,k<w.heap.size→N k→N' k):Agr N' w w' :=
 ⟨h.os,h.tape,h.output,h.size,fun k hk hk'=>h.block k hk (fun e=>hk' (hn k hk e))⟩

def Imm(N:Nat→Prop)(I:World→Prop)(w:World):Prop:=∀w',Agr N w w'→I w'

theorem Imm.step{N I w w'}(h:Imm N I w)(k:Agr N w w'):Imm N I w':=fun _ k'=>h _ (k.trans k')
theorem Imm.sub{N I w w'}(h:Imm N I w)(k:Sub w w'):Imm N I w':=h.step k.agr
def Has(w:World)(b:Nat)(cs:List Value)(e:TypeId):Prop:=w.heap[b]?=some (.cells cs.toArray e (0,0))

theorem Has.lt{w b cs e}(h:Has w b cs e):b<w.heap.size:=by
 unfold Has at h
 rcases Nat.lt_or_ge b w.heap.size with g|g
 ·exact g
 ·rw[Array.getElem?_eq_none g] at h;cases h
theorem Has.step{N:Nat→Prop}{w w' b cs e}(h:Has w b cs e)(k:Agr N w w')(hn:¬N b):Has w' b cs e:=(k.block b h.lt hn).trans h
theorem Has.sub{w w' b cs e}(h:Has w b cs e)(k:Sub w w'):Has w' b cs e:=(k.block b h.lt).trans h
theorem Has.cell{w b cs e o v}(h:Has w b cs e)(hc:cs[o]?=some v):w.cell? ⟨b,o,none⟩=some v:=by
 unfold Has at h
 simp[World.cell?,h,hc]
theorem Has.free{w b cs e o s}(h:Has w b cs e):w.frozen? ⟨b,o,s⟩=false:=by
 unfold Has at h
 simp[World.frozen?,h]

def Row(w:World)(a:Addr)(cs:List Value):Prop:=∀i v,cs[i]?=some v→w.cell? (a.add i)=some v

theorem Has.row{w b cs e}(h:Has w b cs e):Row w ⟨b,0,none⟩ cs:=by
 intro i v hv
 have:(⟨b,0,none⟩:Addr).add i=⟨b,i,none⟩:=by unfold Addr.add;split<;>simp_all
 rw[this];exact h.cell hv

def Rw(w:World)(o:Obj):World:={w with heap:=w.heap.push o}
theorem Ns(w:World)(o:Obj):Sub w (Rw w o) :=
 ⟨rfl,rfl,rfl,by simp[Rw],fun k hk=>by simp only[Rw];rw[Array.getElem?_push,if_neg (by omega)]⟩
theorem Nt(w:World)(cs:Array Value)(e:TypeId):Has (Rw w (.cells cs e)) w.heap.size cs.toList e:=by
 show(w.heap.push _)[w.heap.size]?=_
 rw[Array.getElem?_push_size]
theorem Ei(w:World)(o:Obj){r:Nat}(h:r<w.heap.size):(w.alloc o).heap[r]?=w.heap[r]?:=by
 show(w.heap.push o)[r]?=_
 rw[Array.getElem?_push]
 split
 ·omega
 ·rfl
theorem Lu(w:World)(o:Obj):(Rw w o).heap.size=w.heap.size+1:=by simp[Rw]


structure Post where
 nrm:Act→World→Prop
 exits:List (Nat × (Act→World→Prop))
 ret:Act→World→Prop

def Nm:List (Nat × (Act→World→Prop))→Nat→Option (Act→World→Prop)
 | [],_=>none
 |(k,v)::r,n=>match Nat.beq k n with|true=>some v|false=>Nm r n

def Post.q(p:Post):Exit→Act→World→Prop
 |.normal=>p.nrm
 |.exit i=>fun a w=>match Nm p.exits i with|some K=>K a w|none=>False
 |.ret=>p.ret
 |_=>fun _ _=>False

def Post.to(p:Post)(K:Act→World→Prop):Post:={p with nrm:=K}
def Post.block(p:Post)(id:Nat):Post:={p with exits:=(id,p.nrm)::p.exits}

theorem Th(p:Post)(K:Act→World→Prop):Exit.then K p.q=(p.to K).q:=by
 funext e a w;cases e<;>rfl

theorem Wl(k v F n):Nm ((k,v)::F) n=if k=n then some v else Nm F n:=by
 simp only[Nm]
 by_cases h:k=n
 ·subst h;simp
 ·have:Nat.beq k n=false:=by rw[Bool.eq_false_iff];intro e;exact h (Nat.eq_of_beq_eq_true e)
  simp[this,h]

abbrev rfe(l:Option Nat):Fence:={Fence.wide with round:=l}
theorem ABy{l:Option Nat}{k:Nat}{P:Program}{f:FuncId}{args:Array Value}{w:World}{R:Ending→World→Prop}(h:Calls P f args w R):CallsIn (rfe l) k P f args w R:=callsIn_wide.2 h
def cwp(n:Cx)(P:Program)(c:Code)(Q:Exit→Act→World→Prop)(a:Act)(w:World):Prop:=match n.round with
 |none=>c.wp P Q a w
 |some l=>c.wpIn (rfe l) 0 P Q a w
def lwp(n:Cx)(P:Program)(ops:Array Oper)(Q:Exit→Act→World→Prop)(l:List Oper)(a:Act)(w:World):Prop:=match n.round with
 |none=>wpList P ops Q l a w
 |some r=>wpListIn (rfe r) 0 P ops Q l a w
theorem Gc{n:Cx}(h:n.round=none){P c Q a w}:cwp n P c Q a w=c.wp P Q a w:=by unfold cwp;rw[h]
theorem Hc{n:Cx}{l:Option Nat}(h:n.round=some l){P c Q a w}:cwp n P c Q a w=c.wpIn (rfe l) 0 P Q a w:=by unfold cwp;rw[h]
theorem Im{n:Cx}(h:n.round=none){P ops Q l a w}:lwp n P ops Q l a w=wpList P ops Q l a w:=by unfold lwp;rw[h]
theorem Il{n:Cx}{r:Option Nat}(h:n.round=some r){P ops Q l a w}:lwp n P ops Q l a w=wpListIn (rfe r) 0 P ops Q l a w:=by unfold lwp;rw[h]
theorem AGs{n:Cx}{P:Program}{c:Code}{Q Q':Exit→Act→World→Prop}{a:Act}{w:World}(h:cwp n P c Q a w)(hq:∀e a w,Q e a w→Q' e a w):cwp n P c Q' a w:=by
 unfold cwp at *
 cases hr:n.round with
 |none=>rw[hr] at h;exact wp_mono h hq
 |some l=>rw[hr] at h;exact wpIn_mono h hq
def RC(P:Program)(n:Cx)(c:Code)(F:(List (Nat × Value)))(w:World)(p:Post):Prop:=∀a,Knows n F a→cwp n P c p.q a w
def RL(P:Program)(n:Cx)(ops:Array Oper)(l:List Oper)(F:(List (Nat × Value)))(w:World)(p:Post):Prop:=∀a,Knows n F a→lwp n P ops p.q l a w

section
variable {P:Program} {n:Cx} {F:(List (Nat × Value))} {w:World} {p:Post}
theorem Mj{c c':Code}{Q:Exit→Act→World→Prop}{a:Act}(h0:n.round=none→c.wp P Q a w)(h1:∀l,n.round=some l→c.wpIn (rfe l) 0 P Q a w):cwp n P c Q a w:=by
 cases hr:n.round with
 |none=>rw[Gc hr];exact h0 hr
 |some l=>rw[Hc hr];exact h1 l hr
theorem Ao(h:∀a,Knows n F a→p.nrm a w):RC P n .skip F w p:=fun a k=>Mj (c':=.skip) (fun _=>wp_skip (h a k)) (fun _ _=>wpIn_skip (h a k))
theorem ACS(h:∀a,Knows n F a→p.ret a w):RC P n .ret F w p:=fun a k=>Mj (c':=.skip) (fun _=>wp_ret (h a k)) (fun _ _=>wpIn_ret (h a k))
theorem Co{id K}(hl:Nm p.exits id=some K)(h:∀a,Knows n F a→K a w):RC P n (.exit id) F w p:=fun a k=>by
 have hq:p.q (.exit id) a w:=by simp only[Post.q,hl];exact h a k
 exact Mj (c':=.skip) (fun _=>wp_exit hq) (fun _ _=>wpIn_exit hq)
theorem Ac{x y}(h:RC P n x F w (p.to fun a w=>cwp n P y p.q a w)):RC P n (.seq x y) F w p:=fun a k=>by
 have h:=h a k
 rw[←Th] at h
 refine Mj (c':=.skip) (fun hr=>wp_seq ?_) (fun l hr=>wpIn_seq ?_)
 ·rw[Gc hr] at h
  exact wp_mono h fun e a w q=>by
   cases e<;>first|exact q|(simp only[Exit.then] at q ⊢;rwa [Gc hr] at q)
 ·rw[Hc hr] at h
  exact wpIn_mono h fun e a w q=>by
   cases e<;>first|exact q|(simp only[Exit.then] at q ⊢;rwa [Hc hr] at q)
theorem Bh{id c}(h:RC P n c F w (p.block id)):RC P n (.block id c) F w p:=fun a k=>by
 have key:∀e a w,(p.block id).q e a w→Exit.inBlock id p.q e a w:=by
  intro e a w hq
  cases e with
  |exit i =>
   simp only[Exit.inBlock]
   simp only[Post.q,Post.block,Wl] at hq
   by_cases e:i=id
   ·subst e;simpa[Post.q] using hq
   ·rw[if_neg e];rw[if_neg (fun h=>e h.symm)] at hq;exact hq
  |_=>exact hq
 have h:=h a k
 refine Mj (c':=.skip) (fun hr=>wp_block ?_) (fun l hr=>wpIn_block ?_)
 ·rw[Gc hr] at h;exact wp_mono h key
 ·rw[Hc hr] at h;exact wpIn_mono h key
theorem Db{c x y b}(hc:ev F c=some (.bool b))(ht:b=true→RC P n x F w p)(hf:b=false→RC P n y F w p):RC P n (.cond c x y) F w p :=
 fun a k=>Mj (c':=.skip)
  (fun hr=>wp_cond_split (k.agrees _ _ hc) (fun e=>by have:=ht e a k;rwa [Gc hr] at this) (fun e=>by have:=hf e a k;rwa [Gc hr] at this))
  (fun l hr=>wpIn_cond_split (k.agrees _ _ hc) (fun e=>by have:=ht e a k;rwa [Hc hr] at this) (fun e=>by have:=hf e a k;rwa [Hc hr] at this))
theorem An{c x y}{q:Prop}[Decidable q](hc:ev F c=some (.bool (decide q)))(ht:q→RC P n x F w p)(hf:¬q→RC P n y F w p):RC P n (.cond c x y) F w p :=
 Db hc (fun e=>ht (of_decide_eq_true e)) (fun e=>hf (of_decide_eq_false e))
theorem Aa{id ops l}(hl:ops=List.toArray l)(h:RL P n ops l F w p):RC P n (.region id ops false) F w p :=
 fun a k=>by
  subst hl
  have h:=h a k
  refine Mj (c':=.skip) (fun hr=>wp_region_list ?_) (fun r hr=>wpIn_region_list ?_)
  ·rw[Im hr] at h;simpa using h
  ·rw[Il hr] at h;simpa using h
theorem Ae{ops}(h:∀a,Knows n F a→p.nrm a w):RL P n ops [] F w p:=fun a k=>by
 cases hr:n.round with
 |none=>rw[Im hr];exact wpList_nil (h a k)
 |some r=>rw[Il hr];exact wpListIn_nil (h a k)
theorem Ab{y}{q:Post}(h:RC P n y F w q):∀a,Knows n F a→(fun a w=>cwp n P y q.q a w) a w:=h

theorem Cw{α:Type}{c}(G:α→(List (Nat × Value)))(J:α→World→Prop)(μ:α→Nat)(x:α)(hF:∀t v,Hx (G x) t=some v→Hx F t=some v)(hJ:J x w)
  (round:∀x w,J x w→RC P n c (G x) w (p.to fun a' w'=>∃x',J x' w'∧μ x'<μ x∧Knows n (G x') a')) (hR:n.round=none:=by rfl):RC P n (.loop c) F w p:=by
 intro a k
 rw[Gc hR]
 intro b kk cs
 have key:∀m x w a,μ x=m→J x w→Knows n (G x) a →
   ∃e a' w',p.q e a' w'∧Arrives P (lone (b.at a (.code c::.inLoop c::kk)) cs w) b kk cs e a' w':=by
  intro m
  induction m using Nat.strongRecOn with
  |_ m ih =>
   intro x w a hm hJ hk
   have hround:=round x w hJ a hk
   rw[Gc hR] at hround
   obtain⟨e,a₁,w₁,hq,harr⟩:=hround b (.inLoop c::kk) cs
   cases e with
   |normal =>
    obtain⟨x',hJ',hlt,hk'⟩:=hq
    obtain⟨e₂,a₂,w₂,hq₂,harr₂⟩:=ih (μ x') (hm▸hlt) x' w₁ a₁ rfl hJ' hk'
    exact⟨e₂,a₂,w₂,hq₂,.of_steps (Steps.trans harr (.one step_inLoop)) harr₂⟩
   |exit id=>exact⟨.exit id,a₁,w₁,hq,.pass (x:=.inLoop c) rfl (fun _ _=>.inl (by simp)) harr⟩
   |goto l=>exact⟨.goto l,a₁,w₁,hq,.pass (x:=.inLoop c) rfl (fun _ _=>.inl (by simp)) harr⟩
   |ret=>exact⟨.ret,a₁,w₁,hq,.pass (x:=.inLoop c) rfl (fun _ _=>.inl (by simp)) harr⟩
   |panic ch=>exact⟨.panic ch,a₁,w₁,hq,.pass (x:=.inLoop c) rfl (fun _ _=>.inl (by simp)) harr⟩
   |outgrown=>exact⟨.outgrown,a₁,w₁,hq,.pass (x:=.inLoop c) rfl (fun _ _=>.inl (by simp)) harr⟩
 obtain⟨e,a',w',hq,harr⟩:=key _ x w a rfl hJ (k.keep hF)
 exact⟨e,a',w',hq,.of_steps (.one step_loop) harr⟩
end
def Ed(ops:Array Oper)(F:(List (Nat × Value))):Option (Nat × Bool)→Option Bool
 |none=>some true
 |some (j,want)=>match (ops[j]?).bind (·.dst) with
  |none=>some false
  |some d=>match Hx F d with
   |some (.bool b)=>some (b==want)
   |some _=>some false
   |none=>none

theorem Eo{ops F n a}(k:Knows n F a){o:Oper}{b}(h:Ed ops F o.guard=some b):Region.wanted o (yielded ops a.tmps)=b:=by
 unfold Region.wanted
 cases hg:o.guard with
 |none=>rw[hg] at h;simpa[Ed] using h
 |some jw =>
  obtain⟨j,want⟩:=jw
  rw[hg] at h
  simp only[Ed] at h
  cases hd:(ops[j]?).bind (·.dst) with
  |none=>simp only[hd] at h;cases h;simp[yielded,hd]
  |some d =>
   simp only[hd] at h
   cases hl:Hx F d with
   |none=>simp[hl] at h
   |some v =>
    have hs:=k.slot d v hl
    cases v<;>simp_all [yielded]

def EvOp(P:Program)(F:(List (Nat × Value)))(o:Op)(w:World)(v:Value):Prop :=
 ∀(d:Option Tmp) (t:TypeId) (pos:String) (af:Array Edge) (g:Option (Nat × Bool)) (ρ:Operand→Value),Kg F ρ→∀w',Sub w w'→(execOp ρ ⟨d,o,t,pos,af,g⟩).run P w'=.ok (.value v) w'

section
variable {P:Program} {n:Cx} {F:(List (Nat × Value))} {w:World} {p:Post} {ops:Array Oper} {rest:List Oper} {d:Option Tmp} {o:Op} {t:TypeId} {pos:String} {af:Array Edge} {g:Option (Nat × Bool)}
theorem Ow{ρ:Operand→Value}{o:Oper}{x:Next}{w':World}(h:(execOp ρ o).run P w=.ok x w')(hx:∀d,x≠.defer d):∀c,o.op≠.defer c:=by
 intro c e
 unfold execOp at h
 rw[e] at h
 simp only[] at h
 rw[Sem.run_bind] at h
 cases hr:(resolve ρ c o.type).run P w with
 |ok d w''=>rw[hr] at h;simp only[Result.andThen,pure,Sem.run] at h;cases h;exact hx _ rfl
 |halt y w''=>rw[hr] at h;cases h
theorem AKU(hg:Ed ops F g=some false)(hd:inB d n=true)(h:RL P n ops rest (upd F d undef) w p):RL P n ops (⟨d,o,t,pos,af,g⟩::rest) F w p:=by
 intro a k
 have h:=h _ (k.upd d undef hd)
 cases hr:n.round with
 |none =>
  rw[Im hr] at h ⊢
  simp only[wpList]
  rw[Eo k hg]
  exact h
 |some r =>
  rw[Il hr] at h ⊢
  simp only[wpListIn]
  rw[Eo k hg]
  exact⟨fun _ _=>trivial,h⟩

theorem Kf{v w'}(hg:Ed ops F g=some true)(hd:inB d n=true)(hr:∀ρ,Kg F ρ→(execOp ρ ⟨d,o,t,pos,af,g⟩).run P w=.ok (.value v) w')(h:RL P n ops rest (upd F d v) w' p):RL P n ops (⟨d,o,t,pos,af,g⟩::rest) F w p:=by
 intro a k
 have h:=h _ (k.upd d v hd)
 have he:=hr _ k.agrees
 cases hq:n.round with
 |none =>
  rw[Im hq] at h ⊢
  simp only[wpList]
  rw[Eo k hg]
  refine .inl ?_
  simp only[Oper.wp,he,Oper.upon]
  exact h
 |some r =>
  rw[Il hq] at h ⊢
  simp only[wpListIn]
  rw[Eo k hg,if_pos rfl]
  refine⟨fun _ _=>trivial,?_⟩
  rw[Oper.semAt_eq _ _ _ (Ow he (fun _ e=>by cases e)),he]
  exact h

theorem Kn{w'}(hg:Ed ops F g=some true)(hr:∀ρ,Kg F ρ→(execOp ρ ⟨none,o,t,pos,af,g⟩).run P w=.ok .skip w')(h:RL P n ops rest F w' p):RL P n ops (⟨none,o,t,pos,af,g⟩::rest) F w p:=by
 intro a k
 have h:=h _ k
 have he:=hr _ k.agrees
 cases hq:n.round with
 |none =>
  rw[Im hq] at h ⊢
  simp only[wpList]
  rw[Eo k hg]
  refine .inl ?_
  simp only[Oper.wp,he,Oper.upon]
  exact h
 |some r =>
  rw[Il hq] at h ⊢
  simp only[wpListIn]
  rw[Eo k hg,if_pos rfl]
  refine⟨fun _ _=>trivial,?_⟩
  rw[Oper.semAt_eq _ _ _ (Ow he (fun _ e=>by cases e)),he]
  exact h

theorem Nn{v}(he:EvOp P F o w v)(hg:Ed ops F g=some true)(hd:inB d n=true)(h:RL P n ops rest (upd F d v) w p):RL P n ops (⟨d,o,t,pos,af,g⟩::rest) F w p :=
 Kf hg hd (fun ρ hρ=>he d t pos af g ρ hρ w (Ax _)) h

theorem Bn{q:Prop}[Decidable q]{l}(s:Nat)(hs:Hx F s=some (.bool (decide q)))(hy:q→RL P n ops l ((s,.bool true)::F) w p)(hn:¬q→RL P n ops l ((s,.bool false)::F) w p):RL P n ops l F w p:=by
 intro a k
 by_cases hq:q
 ·refine hy hq a ⟨k.size,k.defers,fun t v ht=>?_⟩
  rw[Ep] at ht
  by_cases e:s=t
  ·subst e;simp at ht;subst ht;simpa[hq] using k.slot _ _ hs
  ·rw[if_neg e] at ht;exact k.slot _ _ ht
 ·refine hn hq a ⟨k.size,k.defers,fun t v ht=>?_⟩
  rw[Ep] at ht
  by_cases e:s=t
  ·subst e;simp at ht;subst ht;simpa[hq] using k.slot _ _ hs
  ·rw[if_neg e] at ht;exact k.slot _ _ ht
theorem Fo{b:Bool}{l}(s:Nat)(hs:Hx F s=some (.bool b))(hy:b=true→RL P n ops l ((s,.bool true)::F) w p)(hn:b=false→RL P n ops l ((s,.bool false)::F) w p):RL P n ops l F w p :=
 Bn (q:=b=true) s (by rw[hs];simp) hy (fun h=>hn (by simpa using h))

theorem EvOp.move{x v}(hx:XL.ev F x=some v):EvOp P F (.move x) w v:=fun _ _ _ _ _ ρ hρ w' _=>by
 simp only[execOp,hρ x v hx];rfl
theorem EvOp.assign{x v}(hx:XL.ev F x=some v):EvOp P F (.assign x) w v:=fun _ _ _ _ _ ρ hρ w' _=>by
 simp only[execOp,hρ x v hx];rfl
theorem EvOp.pick_t{c x y v}(hc:XL.ev F c=some (.bool true))(hx:XL.ev F x=some v):EvOp P F (.pick c x y) w v:=fun _ _ _ _ _ ρ hρ w' _=>by
 simp only[execOp,hρ c _ hc,hρ x v hx,asBool];rfl
theorem EvOp.pick_f{c x y v}(hc:XL.ev F c=some (.bool false))(hy:XL.ev F y=some v):EvOp P F (.pick c x y) w v:=fun _ _ _ _ _ ρ hρ w' _=>by
 simp only[execOp,hρ c _ hc,hρ y v hy,asBool];rfl

def AHd(op:BinOp)(k:IntKind)(a b:Int):Option Value :=
 match op with
 |.add=>some (.int k (k.wrap (a+b)))
 |.sub=>some (.int k (k.wrap (a-b)))
 |.mul=>some (.int k (k.wrap (a*b)))
 |.eql=>some (.bool (decide (a=b)))
 |.neq=>some (.bool (decide (¬a=b)))
 |.lss=>some (.bool (decide (a<b)))
 |.leq=>some (.bool (decide (a≤b)))
 |.gtr=>some (.bool (decide (b<a)))
 |.geq=>some (.bool (decide (b≤a)))
 |.and=>some (.int k (k.wrap (BitVec.ofInt k.bits a &&& BitVec.ofInt k.bits b).toNat))
 |.or=>some (.int k (k.wrap (BitVec.ofInt k.bits a ||| BitVec.ofInt k.bits b).toNat))
 |.xor=>some (.int k (k.wrap (BitVec.ofInt k.bits a ^^^ BitVec.ofInt k.bits b).toNat))
 |_=>none

theorem EvOp.bin{op k x y a b v ty tx}(hx:XL.ev F x=some (.int k a))(hy:XL.ev F y=some (.int k b))(hv:AHd op k a b=some v):EvOp P F (.binOp op tx x y ty) w v:=fun _ _ _ _ _ ρ hρ w' _=>by
 simp only[execOp,hρ x _ hx,hρ y _ hy]
 cases op<;>simp only[AHd,Option.some.injEq,reduceCtorEq] at hv<;>subst hv<;>simp[eqGuard,binOp,Op.intArith,Op.intBits,Op.intCmp,bind,Sem.bind,pure,bne]<;>(rw[Bool.eq_iff_iff];simp)
end
def AAJ:TypeDesc→Bool|.struct _=>true|.array _ _=>true|_=>false
def shapeOf(P:Program)(t:TypeId):Option (Bool × Nat) :=
 match P.underlying t,P.info? t with|some d,some i=>some (AAJ d,i.size)|_,_=>none
def zeroOf(P:Program)(t:TypeId):Option Value:=(P.info? t).bind (·.zero)
def fieldOff(P:Program)(s:TypeId)(f:Nat):Option Nat :=
 match P.underlying s with
 |some (.struct fs)=>match fs[f]? with
  |some fd=>(match P.info? fd.type with|some i=>(match i.size with|0=>none|_+1=>some fd.offset)|none=>none)
  |none=>none
 |_=>none
def sliceOf(P:Program)(t:TypeId):Option (TypeId × Nat × Nat) :=
 match P.underlying t with
 |some (.slice e)=>match P.info? e with|some i=>some (e,i.size,i.bytes)|none=>none
 |_=>none
def arrOf(P:Program)(t:TypeId):Option (Nat × TypeId × Nat) :=
 match P.underlying t with
 |some (.array n e)=>match P.info? e with|some i=>some (n,e,i.size)|none=>none
 |_=>none
def intOf?(P:Program)(t:TypeId):Option IntKind:=match P.underlying t with|some (.int k)=>some k|_=>none
def calleeOK (P : Program) (f : FuncId) : Bool := match P.funcs[f]? with | some fn => fn.name != "runtime.NumGoroutine" && fn.body.isSome | none => false

section
variable {P:Program}
theorem Dp{t b s}(h:shapeOf P t=some (b,s)):∃d i,P.underlying t=some d∧P.info? t=some i∧AAJ d=b∧i.size=s:=by
 unfold shapeOf at h
 split at h
 ·rename_i d i hd hi;simp at h;exact⟨d,i,hd,hi,h.1,h.2⟩
 ·cases h
theorem Dk{t e s b}(h:sliceOf P t=some (e,s,b)):P.underlying t=some (.slice e)∧∃i,P.info? e=some i∧i.size=s∧i.bytes=b:=by
 unfold sliceOf at h
 split at h
 ·rename_i e' hd
  split at h
  ·rename_i i hi;simp at h;obtain⟨rfl,rfl,rfl⟩:=h;exact⟨hd,i,hi,rfl,rfl⟩
  ·cases h
 ·cases h
theorem Km{t n e s}(h:arrOf P t=some (n,e,s)):P.underlying t=some (.array n e)∧∃i,P.info? e=some i∧i.size=s:=by
 unfold arrOf at h
 split at h
 ·rename_i m e' hd
  split at h
  ·rename_i i hi;simp at h;obtain⟨rfl,rfl,rfl⟩:=h;exact⟨hd,i,hi,rfl⟩
  ·cases h
 ·cases h
theorem Ts{t k}(h:intOf? P t=some k):P.underlying t=some (.int k):=by
 unfold intOf? at h
 split at h
 ·rename_i k' hd;simp at h;subst h;exact hd
 ·cases h
theorem Pu{s f o}(h:fieldOff P s f=some o):∃fs fd i,P.underlying s=some (.struct fs)∧fs[f]?=some fd∧fd.offset=o∧P.info? fd.type=some i∧i.size≠0:=by
 unfold fieldOff at h
 split at h
 ·rename_i fs hs
  split at h
  ·rename_i fd hf
   split at h
   ·rename_i i hi
    split at h
    ·cases h
    ·rename_i m hz;simp at h;exact⟨fs,fd,i,hs,hf,h,hi,by omega⟩
   ·cases h
  ·cases h
 ·cases h
theorem Hf{t z}(h:zeroOf P t=some z):∃i,P.info? t=some i∧i.zero=some z:=by
 unfold zeroOf at h
 cases hi:P.info? t with
 |none=>simp[hi] at h
 |some i=>exact⟨i,rfl,by simpa[hi] using h⟩

theorem run_underlying{t d w}{α:Type}(h:P.underlying t=some d)(k:TypeDesc→Sem α):(underlying t >>= k).run P w=(k d).run P w:=by
 simp[underlying,program,bind,Sem.bind,Sem.run,h,pure]
theorem Ea{t i w}{α:Type}(h:P.info? t=some i)(k:Nat→Sem α):(sizeOf t >>= k).run P w=(k i.size).run P w:=by
 simp[sizeOf,typeInfo,program,bind,Sem.bind,Sem.run,h,pure]
theorem Hl{t d w}{α:Type}(h:P.underlying t=some d)(k:Bool→Sem α):(isAgg t >>= k).run P w=(k (AAJ d)).run P w:=by
 simp only[isAgg,underlying,program,bind,Sem.bind,Sem.run,pure]
 rw[h]
 cases d<;>simp[AAJ,Sem.bind]
theorem Lf{t z w}{α:Type}(h:zeroOf P t=some z)(k:Value→Sem α):(zeroValue t >>= k).run P w=(k z).run P w:=by
 obtain⟨i,hi,hz⟩:=Hf h
 simp[zeroValue,typeInfo,program,bind,Sem.bind,Sem.run,hi,hz,pure]
theorem run_bind{α β:Type}(s:Sem α)(k:α→Sem β)(w:World):(s >>= k).run P w=(match s.run P w with|.ok a w'=>(k a).run P w'|.halt h w'=>.halt h w'):=by
 show(Sem.bind s k).run P w=_
 induction s generalizing w with
 |pure a=>rfl
 |halt h=>rfl
 |store m a v k' ih =>
  simp only[Sem.bind]
  cases v<;>simp only[Sem.run]<;>(repeat' split)<;>simp_all
 |load m a k' ih=>simp only[Sem.bind,Sem.run];(repeat' split)<;>simp_all
 |new o k' ih=>simp only[Sem.bind,Sem.run];exact ih _ _
 |shape r k' ih=>simp only[Sem.bind,Sem.run];exact ih _ _
 |freeze a n k' ih=>simp only[Sem.bind,Sem.run];exact ih _
 |frozen a k' ih=>simp only[Sem.bind,Sem.run];exact ih _ _
 |getObj r k' ih=>simp only[Sem.bind,Sem.run];(repeat' split)<;>simp_all
 |setObj r o k' ih=>simp only[Sem.bind,Sem.run];(repeat' split)<;>simp_all
 |choose q k' ih=>simp only[Sem.bind,Sem.run];split<;>exact ih _ _
 |sys c k' ih=>simp only[Sem.bind,Sem.run];exact ih _ _
 |program k' ih=>simp only[Sem.bind,Sem.run];exact ih _ _
 |mark m k' ih=>simp only[Sem.bind,Sem.run];exact ih _
end
def Gj:Value→Bool|.agg _=>false|.tuple _=>false|_=>true

theorem add_lit(b o i:Nat):(⟨b,o,none⟩:Addr).add i=⟨b,o+i,none⟩:=by
 unfold Addr.add;split<;>simp_all

theorem Row.sub{w w' a cs}(h:Row w a cs)(k:Sub w w'):Row w' a cs:=by
 intro i v hv
 have hc:=h i v hv
 have hlt:(a.add i).block<w.heap.size:=by
  rcases Nat.lt_or_ge (a.add i).block w.heap.size with g|g
  ·exact g
  ·simp[World.cell?,Array.getElem?_eq_none g] at hc
 have:=k.block _ hlt
 simpa[World.cell?,this] using hc

theorem AGt{w w':World}{a:Addr}{v}(hc:w.cell? a=some v)(k:Sub w w'):w'.cell? a=some v:=by
 have hlt:a.block<w.heap.size:=by
  rcases Nat.lt_or_ge a.block w.heap.size with g|g
  ·exact g
  ·simp[World.cell?,Array.getElem?_eq_none g] at hc
 have:=k.block _ hlt
 simpa[World.cell?,this] using hc

section
variable {P:Program}
theorem Ru{w:World}{a:Addr}(cs:List Value):∀(i:Nat) (acc:Array Value),(∀j v,cs[j]?=some v→w.cell? (a.add (i+j))=some v) →
  (loadCellsFrom a i cs.length acc).run P w=.ok (acc++cs.toArray) w:=by
 induction cs with
 |nil=>intro i acc _;simp[loadCellsFrom,pure]
 |cons v cs ih =>
  intro i acc h
  have h0:=h 0 v rfl
  simp only[List.length_cons,loadCellsFrom,load,bind,Sem.bind,Sem.run]
  rw[Nat.add_zero] at h0
  rw[h0]
  simp only
  rw[ih (i+1) _ (fun j u hu=>by have:=h (j+1) u (by simpa using hu);rwa [show i+1+j=i+(j+1) by omega])]
  simp

theorem run_loadCells{w:World}{a:Addr}{cs:List Value}(h:Row w a cs):(loadCells a cs.length).run P w=.ok cs.toArray w:=by
 rw[loadCells,Ru cs 0 #[] (fun j v hv=>by rw[Nat.zero_add];exact h j v hv)]
 simp

def Eh:List Value→Nat→List Value→List Value
 |cs,_,[]=>cs
 |cs,o,v::vs=>Eh (cs.set o v) (o+1) vs

theorem Ld(vs:List Value):∀cs o,(Eh cs o vs).length=cs.length:=by
 induction vs with
 |nil=>intro cs o;rfl
 |cons v vs ih=>intro cs o;simp[Eh,ih]

theorem Ki(vs:List Value):∀cs o k,(Eh cs o vs)[k]?=if k<cs.length then(if o≤k∧k<o+vs.length then vs[k-o]? else cs[k]?) else none:=by
 induction vs with
 |nil =>
  intro cs o k
  simp only[Eh,List.length_nil]
  split
  ·rw[if_neg (by omega)]
  ·rename_i h;rw[List.getElem?_eq_none (by omega)]
 |cons v vs ih =>
  intro cs o k
  simp only[Eh,ih,List.length_set,List.length_cons]
  split
  ·rename_i h
   by_cases h1:o+1≤k∧k<o+1+vs.length
   ·rw[if_pos h1,if_pos (by omega),show k-o=(k-(o+1))+1 by omega];simp
   ·rw[if_neg h1]
    by_cases h2:k=o
    ·subst h2;rw[if_pos (by omega)];simp[h]
    ·rw[if_neg (by omega),List.getElem?_set_ne (by omega)]
  ·rfl

theorem ABs{w b cs e o}(v:Value)(h:Has w b cs e):Has (w.setCell ⟨b,o,none⟩ v) b (cs.set o v) e:=by
 unfold Has at *
 simp[World.setCell,Array.getElem?_modify,h]

theorem ABt{w:World}{b o}(v:Value):Agr (· = b) w (w.setCell ⟨b,o,none⟩ v) :=
 ⟨rfl,rfl,rfl,by simp[World.setCell],fun k _ hn=>by simp only[World.setCell,Array.getElem?_modify];rw[if_neg (fun e=>hn e.symm)]⟩
theorem AAj{w:World}{a:Addr}(v:Value):(w.setCell a v).heap.size=w.heap.size:=by simp[World.setCell]

theorem run_storeCells{b o e}(vs:List Value):∀(i:Nat) (cs:List Value) (w:World),Has w b cs e→o+i+vs.length≤cs.length→vs.all Gj=true →
  ∃w',(storeCells ⟨b,o,none⟩ vs i).run P w=.ok () w'∧Has w' b (Eh cs (o+i) vs) e∧Agr (· = b) w w'∧w'.heap.size=w.heap.size:=by
 induction vs with
 |nil=>intro i cs w h _ _;exact⟨w,rfl,h,Agr.refl _ _,rfl⟩
 |cons v vs ih =>
  intro i cs w h hl hp
  simp only[List.length_cons] at hl
  simp only[List.all_cons,Bool.and_eq_true] at hp
  have hlt:o+i<cs.length:=by omega
  have hc:w.cell? ⟨b,o+i,none⟩=some (cs[o+i]):=h.cell (by simp[hlt])
  have hf:w.frozen? ⟨b,o+i,none⟩=false:=h.free
  obtain⟨w',hr,hh,ha,hs⟩:=ih (i+1) (cs.set (o+i) v) _ (ABs (o:=o+i) v h) (by simp;omega) hp.2
  refine⟨w',?_,?_,(ABt v).trans ha,by rw[hs,AAj]⟩
  ·have hpv:=hp.1
   simp only[storeCells,store,bind,Sem.bind]
   rw[add_lit]
   cases v<;>simp only[Gj,Bool.false_eq_true] at hpv<;>simp only[Sem.run,hc,hf,Bool.false_eq_true,if_false]<;>exact hr
  ·simpa[Eh,Nat.add_assoc] using hh

theorem My{w:World}{a:Addr}{t:TypeId}{cs:List Value}(hs:shapeOf P t=some (true,cs.length))(h:Row w a cs):(loadVar t a).run P w=.ok (.agg cs.toArray) w:=by
 obtain⟨d,i,hd,hi,hb,hz⟩:=Dp hs
 rw[loadVar,Hl hd,hb]
 simp only[if_true]
 rw[Ea hi,hz,run_bind,run_loadCells h]
 rfl
theorem Mx{w:World}{a:Addr}{t:TypeId}{s v}(hs:shapeOf P t=some (false,s))(h:w.cell? a=some v):(loadVar t a).run P w=.ok v w:=by
 obtain⟨d,i,hd,hi,hb,hz⟩:=Dp hs
 rw[loadVar,Hl hd,hb]
 simp[load,Sem.run,h]
theorem AAk{w:World}{t:TypeId}{v:Value}{b o e cs}{x s}(hs:shapeOf P t=some (x,s))(hz:v.cells.size=s)(h:Has w b cs e)(hl:o+v.cells.toList.length≤cs.length)(hp:v.cells.toList.all Gj=true):
  ∃w',(storeVar t ⟨b,o,none⟩ v).run P w=.ok () w'∧Has w' b (Eh cs o v.cells.toList) e∧Agr (· = b) w w'∧w'.heap.size=w.heap.size:=by
 obtain⟨d,i,hd,hi,hb,hz'⟩:=Dp hs
 obtain⟨w',hr,hh⟩:=run_storeCells (P:=P) (o:=o) v.cells.toList 0 cs w h (by omega) hp
 refine⟨w',?_,by simpa using hh⟩
 rw[storeVar,Ea hi,if_neg (by rw[hz,hz'];simp)]
 exact hr

theorem Ti{w:World}{t:TypeId}{a b:Bool}(d:Nat)(ht:P.underlying t=some .bool):(Op.equalIn (d+1) t (.bool a) (.bool b)).run P w=.ok (a==b) w:=by
 rw[Op.equalIn,run_underlying ht]
 rfl
theorem Xh{w:World}{t:TypeId}{a b:Bool}(ht:P.underlying t=some .bool):(Op.equal t (.bool a) (.bool b)).run P w=.ok (a==b) w:=Ti 9999 ht
theorem Mm{w:World}{e:TypeId}{cs:Array Value}:(newRow e cs).run P w=.ok ⟨w.heap.size,0,none⟩ (Rw w (.cells cs e)):=by
 simp[newRow,newObj,bind,Sem.bind,Sem.run,Rw,pure]
end
section
variable {P:Program} {n:Cx} {F:(List (Nat × Value))} {w:World} {p:Post} {ops:Array Oper} {rest:List Oper} {d:Option Tmp} {o:Op} {t:TypeId} {pos:String} {af:Array Edge} {g:Option (Nat × Bool)}
theorem EvOp.not{x b ty}(hx:XL.ev F x=some (.bool b)):EvOp P F (.unOp .not ty x) w (.bool !b):=fun _ _ _ _ _ ρ hρ w' _=>by
 simp only[execOp,hρ x _ hx];rfl
theorem EvOp.not_dec{x ty}{q:Prop}[Decidable q](hx:XL.ev F x=some (.bool (decide q))):EvOp P F (.unOp .not ty x) w (.bool (decide ¬q)):=by
 have:=EvOp.not (P:=P) (w:=w) (ty:=ty) hx
 rwa [←decide_not] at this
theorem EvOp.rem{k x y a b ty tx}(hx:XL.ev F x=some (.int k a))(hy:XL.ev F y=some (.int k b))(hb:b≠0):EvOp P F (.binOp .rem tx x y ty) w (.int k (a.tmod b)):=fun _ _ _ _ _ ρ hρ w' _=>by
 simp only[execOp,hρ x _ hx,hρ y _ hy]
 simp[eqGuard,binOp,Op.intDiv,bind,Sem.bind,pure,hb]
theorem EvOp.quo{k x y a b ty tx}(hx:XL.ev F x=some (.int k a))(hy:XL.ev F y=some (.int k b))(hb:b≠0):EvOp P F (.binOp .quo tx x y ty) w (.int k (k.wrap (a.tdiv b))):=fun _ _ _ _ _ ρ hρ w' _=>by
 simp only[execOp,hρ x _ hx,hρ y _ hy]
 simp[eqGuard,binOp,Op.intDiv,bind,Sem.bind,pure,hb]
theorem EvOp.shr{k k' x y a b ty tx}(hx:XL.ev F x=some (.int k a))(hy:XL.ev F y=some (.int k' b))(hb:0≤b):EvOp P F (.binOp .shr tx x y ty) w (.int k (a.fdiv (2^min b.toNat k.bits))):=fun _ _ _ _ _ ρ hρ w' _=>by
 simp only[execOp,hρ x _ hx,hρ y _ hy]
 simp[eqGuard,binOp,Op.shift,bind,Sem.bind,pure,show¬b<0 by omega]
theorem EvOp.shl{k k' x y a b ty tx}(hx:XL.ev F x=some (.int k a))(hy:XL.ev F y=some (.int k' b))(hb:0≤b):EvOp P F (.binOp .shl tx x y ty) w (.int k (k.wrap (a*2^min b.toNat k.bits))):=fun _ _ _ _ _ ρ hρ w' _=>by
 simp only[execOp,hρ x _ hx,hρ y _ hy]
 simp[eqGuard,binOp,Op.shift,bind,Sem.bind,pure,show¬b<0 by omega]
theorem EvOp.neB{x y a b tx ty}(ht:P.underlying tx=some .bool)(hx:XL.ev F x=some (.bool a))(hy:XL.ev F y=some (.bool b)):EvOp P F (.binOp .neq tx x y ty) w (.bool (!(a==b))):=fun _ _ _ _ _ ρ hρ w' _=>by
 simp only[execOp,hρ x _ hx,hρ y _ hy,run_bind]
 have h1:(binOp .neq tx (.bool a) (.bool b)).run P w'=.ok (.bool (!(a==b))) w':=by
  show(Op.equal tx (.bool a) (.bool b) >>= fun b=>(Sem.pure (Value.bool !b):Sem Value)).run P w'=_
  rw[run_bind,Xh ht]
  rfl
 have h2:(eqGuard .neq tx x y (.bool a) (.bool b)).run P w'=.ok () w':=rfl
 simp only[h2,h1]
 rfl
theorem EvOp.conv{src dst x k k' a}(hs:intOf? P src=some k')(ht:intOf? P dst=some k)(hx:XL.ev F x=some (.int k' a)):EvOp P F (.convert src dst x) w (.int k (k.wrap a)):=fun _ _ _ _ _ ρ hρ w' _=>by
 have h1:=Ts hs
 have h2:=Ts ht
 simp only[execOp,hρ x _ hx,convert]
 rw[run_bind,run_underlying h1,run_underlying h2]
 rfl
theorem EvOp.len{x a m c ty e s b}(ht:sliceOf P ty=some (e,s,b))(hx:XL.ev F x=some (.slice a m c)):EvOp P F (.call ⟨.builtin .len,#[x],#[ty]⟩) w (.int .i64 m):=fun _ _ _ _ _ ρ hρ w' _=>by
 have h1:=(Dk ht).1
 simp only[execOp,resolve,hρ x _ hx,bind,Sem.bind,pure,invoke,builtin,List.map_toArray,List.map_cons,List.map_nil]
 simp[Builtin.len_,underlying,program,h1,bind,Sem.bind,Sem.run,pure,goInt]
theorem EvOp.cap{x a m c ty e s b}(ht:sliceOf P ty=some (e,s,b))(hx:XL.ev F x=some (.slice a m c)):EvOp P F (.call ⟨.builtin .cap,#[x],#[ty]⟩) w (.int .i64 c):=fun _ _ _ _ _ ρ hρ w' _=>by
 have h1:=(Dk ht).1
 simp only[execOp,resolve,hρ x _ hx,bind,Sem.bind,pure,invoke,builtin,List.map_toArray,List.map_cons,List.map_nil]
 simp[Builtin.cap_,underlying,program,h1,bind,Sem.bind,Sem.run,pure,goInt]
end
def evs(F:(List (Nat × Value))):List Operand→Option (List Value)
 | []=>some []
 |x::xs=>match ev F x,evs F xs with|some v,some vs=>some (v::vs)|_,_=>none

theorem ABQ{F:(List (Nat × Value))}{ρ:Operand→Value}(hρ:Kg F ρ):∀(xs:List Operand) (vs:List Value),evs F xs=some vs→xs.map ρ=vs
 | [],vs,h=>by simp[evs] at h;subst h;rfl
 |x::xs,vs,h=>by
  simp only[evs] at h
  split at h
  ·rename_i v us hv hus
   simp at h;subst h
   simp[hρ x v hv,ABQ hρ xs us hus]
  ·cases h
theorem Qy{F:(List (Nat × Value))}{ρ:Operand→Value}(hρ:Kg F ρ){xs:List Operand}{vs:List Value}(h:evs F xs=some vs):xs.toArray.map ρ=vs.toArray:=by
 rw[List.map_toArray,ABQ hρ xs vs h]

def evp(F:(List (Nat × Value))):List (Nat × Operand)→Option (List (Nat × Value))
 | []=>some []
 |(i,x)::xs=>match ev F x,evp F xs with|some v,some vs=>some ((i,v)::vs)|_,_=>none
theorem Rk{F:(List (Nat × Value))}{ρ:Operand→Value}(hρ:Kg F ρ):∀(xs:List (Nat × Operand)) (vs:List (Nat × Value)),evp F xs=some vs→xs.map (fun(i,x)=>(i,ρ x))=vs
 | [],vs,h=>by simp[evp] at h;subst h;rfl
 |(i,x)::xs,vs,h=>by
  simp only[evp] at h
  split at h
  ·rename_i v us hv hus
   simp at h;subst h
   simp[hρ x v hv,Rk hρ xs us hus]
  ·cases h

def placesOf(P:Program)(t:TypeId):Option (List (Nat × Nat)) :=
 match P.underlying t with
 |some (.struct fs)=>fs.toList.mapM fun f=>(P.info? f.type).map fun i=>(f.offset,i.size)
 |_=>none

section
variable {P:Program}
theorem Mw{w:World}:∀(fs:List Field) (ps:List (Nat × Nat)),(fs.mapM fun f=>(P.info? f.type).map fun i=>(f.offset,i.size))=some ps →
  (fs.mapM fun f=>(do pure (f.offset,←sizeOf f.type):Sem (Nat × Nat))).run P w=.ok ps w
 | [],ps,h=>by simp at h;subst h;rfl
 |f::fs,ps,h=>by
  simp only[List.mapM_cons] at h ⊢
  cases hi:P.info? f.type with
  |none=>simp[hi] at h
  |some i =>
   simp only[hi,Option.map_some,Option.bind_eq_bind,Option.bind_some] at h
   cases hr:(fs.mapM fun f=>(P.info? f.type).map fun i=>(f.offset,i.size)) with
   |none=>simp[hr] at h
   |some qs =>
    simp only[hr,Option.bind_some,Option.pure_def,Option.some.injEq] at h
    subst h
    rw[run_bind,Ea hi]
    have ih:=Mw (w:=w) fs qs hr
    simp only[pure,Sem.run] at ih ⊢
    rw[run_bind,ih]
    rfl
theorem ADJ{α β:Type}(f:α→β)(s:Sem α)(w:World):(f <$> s).run P w=(match s.run P w with|.ok a w'=>.ok (f a) w'|.halt h w'=>.halt h w'):=by
 rw[map_eq_pure_bind,run_bind]
 cases s.run P w<;>rfl
theorem AAl{w:World}{fs:Array Field}{ps:List (Nat × Nat)}(h:(fs.toList.mapM fun f=>(P.info? f.type).map fun i=>(f.offset,i.size))=some ps):
  (fs.mapM fun f=>(do pure (f.offset,←sizeOf f.type):Sem (Nat × Nat))).run P w=.ok ps.toArray w:=by
 rw[Array.mapM_eq_mapM_toList,ADJ,Mw _ _ h]
theorem Fj(s:Sem Value){w w':World}{v:Value}(h:s.run P w=.ok v w'):(do pure (Next.value (←s)):Sem Next).run P w=.ok (.value v) w':=by
 rw[run_bind,h];rfl
end
section
variable {P:Program} {n:Cx} {F:(List (Nat × Value))} {w:World} {p:Post} {ops:Array Oper} {rest:List Oper} {d:Option Tmp} {o:Op} {t:TypeId} {pos:String} {af:Array Edge} {g:Option (Nat × Bool)}
theorem EvOp.field0{s x f a b off}(hs:fieldOff P s f=some off)(hx:XL.ev F x=some (.pointer (some ⟨b,a,none⟩))):EvOp P F (.fieldAddr s x f) w (.pointer (some ⟨b,a+off,none⟩)):=fun _ _ _ _ _ ρ hρ w' _=>by
 obtain⟨fs,fd,i,h1,h2,h3,h4,h5⟩:=Pu hs
 simp only[execOp,hρ x _ hx,Instr.fieldAt]
 rw[run_bind,run_underlying h1]
 simp only[h2]
 simp only[Instr.sureAddr,fieldPlace,sizeOf,typeInfo,program,bind,Sem.bind,pure,Sem.run,h4,h5,if_false,h3,add_lit]
theorem EvOp.fieldA{s x f a off}(hs:fieldOff P s f=some off)(hx:XL.ev F x=some (.pointer (some a))):EvOp P F (.fieldAddr s x f) w (.pointer (some (a.add off))):=fun _ _ _ _ _ ρ hρ w' _=>by
 obtain⟨fs,fd,i,h1,h2,h3,h4,h5⟩:=Pu hs
 simp only[execOp,hρ x _ hx,Instr.fieldAt]
 rw[run_bind,run_underlying h1]
 simp only[h2]
 simp only[Instr.sureAddr,fieldPlace,sizeOf,typeInfo,program,bind,Sem.bind,pure,Sem.run,h4,h5,if_false,h3]
theorem Ty{ty x ix ad m c k i e s by_}(ht:sliceOf P ty=some (e,s,by_))(hx:XL.ev F x=some (.slice (some ad) m c))(hi:XL.ev F ix=some (.int k i))(h:0≤i∧i<m):EvOp P F (.indexAddr ty x ix) w (.pointer (some (ad.add (i.toNat*s)))):=fun _ _ _ _ _ ρ hρ w' _=>by
 obtain⟨h1,j,h2,h3,h4⟩:=Dk ht
 simp only[execOp,hρ x _ hx,hρ ix _ hi,Instr.indexAt,asIntOf]
 simp only[bind,Sem.bind,pure]
 have:=run_underlying (w:=w') h1 (α:=Next)
 simp only[bind] at this
 simp only[underlying,program,Sem.bind,Sem.run,h1,pure,bind,h,and_self,if_true,sizeOf,typeInfo,h2,h3]
theorem EvOp.indexArr{ty x ix b a len k i e s}(ht:arrOf P ty=some (len,e,s))(hx:XL.ev F x=some (.pointer (some ⟨b,a,none⟩)))(hi:XL.ev F ix=some (.int k i))(h:0≤i∧i<len):EvOp P F (.indexAddr ty x ix) w (.pointer (some ⟨b,a+i.toNat*s,none⟩)):=fun _ _ _ _ _ ρ hρ w' _=>by
 obtain⟨h1,j,h2,h3⟩:=Km ht
 simp only[execOp,hρ x _ hx,hρ ix _ hi,Instr.indexAt,asIntOf]
 simp only[underlying,program,Instr.sureAddr,bind,Sem.bind,Sem.run,h1,pure,h,and_self,if_true,sizeOf,typeInfo,h2,h3,add_lit]
theorem EvOp.index1{ty x ix cs len k i e s v}(ht:arrOf P ty=some (len,e,s))(he:shapeOf P e=some (false,s))(hx:XL.ev F x=some (.agg cs))(hi:XL.ev F ix=some (.int k i))(h:0≤i∧i<len)(hv:cs[i.toNat*s]?=some v):EvOp P F (.index ty x ix) w v:=fun _ _ _ _ _ ρ hρ w' _=>by
 obtain⟨h1,j,h2,h3⟩:=Km ht
 obtain⟨dd,i',g1,g2,g3,g4⟩:=Dp he
 simp only[execOp,hρ x _ hx,hρ ix _ hi,Instr.index,asIntOf]
 simp only[bind,Sem.bind,pure]
 simp only[underlying,program,Sem.bind,Sem.run,h1,pure,bind,h,and_self,if_true,sizeOf,typeInfo,h2,h3]
 have hp:(part e cs (i.toNat*s)).run P w'=.ok v w':=by
  rw[part,Hl g1,g3]
  simp[hv,pure]
 have:=run_bind (P:=P) (part e cs (i.toNat*s)) (fun v=>(Sem.pure (Next.value v):Sem Next)) w'
 rw[hp] at this
 exact this
theorem EvOp.indexN{ty x ix cs len k i e s}(ht:arrOf P ty=some (len,e,s))(he:shapeOf P e=some (true,s))(hx:XL.ev F x=some (.agg cs))(hi:XL.ev F ix=some (.int k i))(h:0≤i∧i<len):EvOp P F (.index ty x ix) w (.agg (cs.extract (i.toNat*s) (i.toNat*s+s))):=fun _ _ _ _ _ ρ hρ w' _=>by
 obtain⟨h1,j,h2,h3⟩:=Km ht
 obtain⟨dd,i',g1,g2,g3,g4⟩:=Dp he
 simp only[execOp,hρ x _ hx,hρ ix _ hi,Instr.index,asIntOf]
 simp only[bind,Sem.bind,pure]
 simp only[underlying,program,Sem.bind,Sem.run,h1,pure,bind,h,and_self,if_true,sizeOf,typeInfo,h2,h3]
 have hp:(part e cs (i.toNat*s)).run P w'=.ok (.agg (cs.extract (i.toNat*s) (i.toNat*s+s))) w':=by
  rw[part,Hl g1,g3]
  simp only[if_true]
  rw[Ea g2,g4]
  rfl
 have:=run_bind (P:=P) (part e cs (i.toNat*s)) (fun v=>(Sem.pure (Next.value v):Sem Next)) w'
 rw[hp] at this
 exact this
theorem EvOp.extract{x i vs v}(hx:XL.ev F x=some (.tuple vs))(hv:vs[i]?=some v):EvOp P F (.extract x i) w v:=fun _ _ _ _ _ ρ hρ w' _=>by
 simp only[execOp,hρ x _ hx,Instr.extract,hv];rfl
theorem EvOp.fieldV{ty x f cs fs fd v s}(hu:P.underlying ty=some (.struct fs))(hf:fs[f]?=some fd)(he:shapeOf P fd.type=some (false,s))(hx:XL.ev F x=some (.agg cs))(hv:cs[fd.offset]?=some v):EvOp P F (.field ty x f) w v:=fun _ _ _ _ _ ρ hρ w' _=>by
 obtain⟨dd,i',g1,g2,g3,g4⟩:=Dp he
 simp only[execOp,hρ x _ hx,Instr.field]
 rw[run_bind,run_underlying hu]
 simp only[hf,asAgg]
 have hp:(part fd.type cs fd.offset).run P w'=.ok v w':=by
  rw[part,Hl g1,g3]
  simp[hv,pure]
 simp only[bind,Sem.bind,pure]
 rw[hp]
 rfl
theorem EvOp.load1{ty x a v s}(hs:shapeOf P ty=some (false,s))(hx:XL.ev F x=some (.pointer (some a)))(hc:w.cell? a=some v):EvOp P F (.load ty x) w v:=fun _ _ _ _ _ ρ hρ w' k=>by
 simp only[execOp,hρ x _ hx,Instr.loadAt,Instr.sureAddr,bind,Sem.bind,pure]
 have:=run_bind (P:=P) (loadVar ty a) (fun v=>(Sem.pure (Next.value v):Sem Next)) w'
 rw[Mx hs (AGt hc k)] at this
 exact this
theorem ACy{ty x a}(cs:List Value)(hs:shapeOf P ty=some (true,cs.length))(hx:XL.ev F x=some (.pointer (some a)))(hc:Row w a cs):EvOp P F (.load ty x) w (.agg cs.toArray):=fun _ _ _ _ _ ρ hρ w' k=>by
 simp only[execOp,hρ x _ hx,Instr.loadAt,Instr.sureAddr,bind,Sem.bind,pure]
 have:=run_bind (P:=P) (loadVar ty a) (fun v=>(Sem.pure (Next.value v):Sem Next)) w'
 rw[My hs (hc.sub k)] at this
 exact this
theorem EvOp.loadR{ty x a s}(cs:List Value)(hs:shapeOf P ty=some (true,s))(hx:XL.ev F x=some (.pointer (some a)))(hc:Row w a cs)(hl:cs.length=s):EvOp P F (.load ty x) w (.agg cs.toArray):=by
 subst hl;exact ACy cs hs hx hc
theorem EvOp.func{f xs ys us vs}(hx:evs F xs=some us)(hy:evs F ys=some vs):EvOp P F (.makeFunc f xs.toArray ys.toArray) w (.func f us.toArray vs.toArray):=fun _ _ _ _ _ ρ hρ w' _=>by
 simp only[execOp,Instr.makeFunc,Qy hρ hx,Qy hρ hy];rfl
theorem EvOp.buildS{ty}{xs:List (Nat × Operand)}{vs z ps cs}(hz:zeroOf P ty=some z)(hp:placesOf P ty=some ps)(hx:evp F xs=some vs)(hf:Instr.fill (fun i=>ps[i]?) z.cells vs=some cs):EvOp P F (.build ty xs.toArray) w (.agg cs):=fun _ _ _ _ _ ρ hρ w' _=>by
 unfold placesOf at hp
 split at hp
 ·rename_i fs hu
  simp only[execOp]
  refine Fj _ ?_
  rw[Instr.build,Lf hz,run_underlying hu]
  simp only[]
  rw[run_bind,AAl hp]
  simp only[]
  rw[List.map_toArray,Rk hρ xs vs hx]
  simp[hf,pure]
 ·cases hp
theorem EvOp.buildA{ty}{xs:List (Nat × Operand)}{vs z cs len e s}(hz:zeroOf P ty=some z)(ht:arrOf P ty=some (len,e,s))(hx:evp F xs=some vs)(hf:Instr.fill (fun i=>some (i*s,s)) z.cells vs=some cs):EvOp P F (.build ty xs.toArray) w (.agg cs):=fun _ _ _ _ _ ρ hρ w' _=>by
 obtain⟨h1,j,h2,h3⟩:=Km ht
 simp only[execOp]
 refine Fj _ ?_
 rw[Instr.build,Lf hz,run_underlying h1]
 simp only[]
 rw[Ea h2,h3,List.map_toArray,Rk hρ xs vs hx]
 simp[hf,pure]
theorem Is{w:World}{k:IntKind}{i:Int}{y:Nat}{c:BoundsCode}(h:0≤i∧i.toNat≤y):(Instr.sliceBound (.int k i) y c).run P w=.ok i.toNat w:=by
 simp only[Instr.sliceBound,asIntOf,bind,Sem.bind,pure]
 rw[if_pos (by omega)];rfl
theorem EvOp.sliceLo{ty x lo a m c k i e s by_}(ht:sliceOf P ty=some (e,s,by_))(hx:XL.ev F x=some (.slice a m c))(hi:XL.ev F lo=some (.int k i))(hb:0≤i∧i≤m):
  EvOp P F (.slice ty x (some lo) none none) w (.slice (if c=i.toNat then a else a.map (·.add (i.toNat*s))) (m-i.toNat) (c-i.toNat)):=fun _ _ _ _ _ ρ hρ w' _=>by
 obtain⟨h1,j,h2,h3,h4⟩:=Dk ht
 simp only[execOp]
 refine Fj _ ?_
 simp only[Instr.sliceAt,hρ x _ hx,Option.map_some,Option.map_none,hρ lo _ hi]
 rw[run_underlying h1]
 simp only[Instr.slice]
 rw[run_underlying h1]
 simp only[Instr.sliceBounds]
 rw[run_bind,run_bind]
 simp only[pure,Sem.run,Option.isSome_none,Bool.false_eq_true,if_false]
 rw[run_bind]
 simp only[Sem.run]
 rw[run_bind,Is (by omega)]
 simp only[Sem.run]
 rw[Ea h2,h3]
 rfl
theorem EvOp.sliceHi{ty x hi_ a m c k i e s by_}(ht:sliceOf P ty=some (e,s,by_))(hx:XL.ev F x=some (.slice a m c))(hi:XL.ev F hi_=some (.int k i))(hb:0≤i∧i≤c):
  EvOp P F (.slice ty x none (some hi_) none) w (.slice a i.toNat c):=fun _ _ _ _ _ ρ hρ w' _=>by
 obtain⟨h1,j,h2,h3,h4⟩:=Dk ht
 simp only[execOp]
 refine Fj _ ?_
 simp only[Instr.sliceAt,hρ x _ hx,Option.map_some,Option.map_none,hρ hi_ _ hi]
 rw[run_underlying h1]
 simp only[Instr.slice]
 rw[run_underlying h1]
 simp only[Instr.sliceBounds]
 rw[run_bind,run_bind]
 simp only[pure,Sem.run]
 rw[run_bind,Is (by omega)]
 simp only[]
 rw[run_bind]
 simp only[Sem.run]
 rw[Ea h2,h3]
 simp only[Sem.run,Nat.zero_mul,Nat.sub_zero,Addr.add,if_true]
 congr 1
 cases a<;>simp
theorem EvOp.sliceHM{ty x hi_ mx a m c k i k' u e s by_}(ht:sliceOf P ty=some (e,s,by_))(hx:XL.ev F x=some (.slice a m c))(hi:XL.ev F hi_=some (.int k i))(hu:XL.ev F mx=some (.int k' u))(hb:0≤i∧i≤u∧u≤c):
  EvOp P F (.slice ty x none (some hi_) (some mx)) w (.slice a i.toNat u.toNat):=fun _ _ _ _ _ ρ hρ w' _=>by
 obtain⟨h1,j,h2,h3,h4⟩:=Dk ht
 simp only[execOp]
 refine Fj _ ?_
 simp only[Instr.sliceAt,hρ x _ hx,Option.map_some,Option.map_none,hρ hi_ _ hi,hρ mx _ hu]
 rw[run_underlying h1]
 simp only[Instr.slice]
 rw[run_underlying h1]
 simp only[Instr.sliceBounds]
 rw[run_bind,run_bind,Is (by omega)]
 simp only[]
 rw[run_bind,Is (by omega)]
 simp only[pure]
 rw[run_bind]
 simp only[Sem.run]
 rw[Ea h2,h3]
 simp only[Sem.run,Nat.zero_mul,Nat.sub_zero,Addr.add,if_true]
 congr 1
 cases a<;>simp

theorem Ay{el z}(hz:zeroOf P el=some z)(hg:Ed ops F g=some true)(hd:inB d n=true)
  (h:∀b w',b=w.heap.size→w'.heap.size=b+1→Has w' b z.cells.toList el→Sub w w'→RL P n ops rest (upd F d (.pointer (some ⟨b,0,none⟩))) w' p):RL P n ops (⟨d,.alloc el,t,pos,af,g⟩::rest) F w p:=by
 refine Kf hg hd (w':=Rw w (.cells z.cells el)) (fun ρ _=>?_) (h _ _ rfl (Lu _ _) (Nt _ _ _) (Ns _ _))
 simp only[execOp]
 refine Fj _ ?_
 rw[Instr.alloc,Lf hz]
 simp only[newVar]
 rw[run_bind,Mm]
 rfl
theorem Bu{el x v}(hx:XL.ev F x=some v)(hg:Ed ops F g=some true)(hd:inB d n=true)
  (h:∀b w',b=w.heap.size→w'.heap.size=b+1→Has w' b v.cells.toList el→Sub w w'→RL P n ops rest (upd F d (.pointer (some ⟨b,0,none⟩))) w' p):RL P n ops (⟨d,.box el x,t,pos,af,g⟩::rest) F w p:=by
 refine Kf hg hd (w':=Rw w (.cells v.cells el)) (fun ρ hρ=>?_) (h _ _ rfl (Lu _ _) (Nt _ _ _) (Ns _ _))
 simp only[execOp,hρ x _ hx]
 refine Fj _ ?_
 rw[Instr.box,newVar,run_bind,Mm]
 rfl
theorem Cg{ty x y b o e cs v k s}(hs:shapeOf P ty=some (k,s))(hx:XL.ev F x=some (.pointer (some ⟨b,o,none⟩)))(hy:XL.ev F y=some v)(hz:v.cells.size=s)(hb:Has w b cs e)(hl:o+v.cells.toList.length≤cs.length)(hp:v.cells.toList.all Gj=true)(hg:Ed ops F g=some true)
  (h:∀w',w'.heap.size=w.heap.size→Has w' b (Eh cs o v.cells.toList) e→Agr (· = b) w w'→RL P n ops rest F w' p):RL P n ops (⟨none,.store ty x y,t,pos,af,g⟩::rest) F w p:=by
 obtain⟨w',hr,hh,ha,hsz⟩:=AAk (P:=P) hs hz hb hl hp
 refine Kn hg (w':=w') (fun ρ hρ=>?_) (h w' hsz hh ha)
 simp only[execOp,hρ x _ hx,hρ y _ hy,Instr.storeAt,Instr.sureAddr,bind,Sem.bind,pure]
 have:=run_bind (P:=P) (storeVar ty ⟨b,o,none⟩ v) (fun _=>(Sem.pure Next.skip:Sem Next)) w
 rw[hr] at this
 exact this
end
def FC(P:Program)(f:FuncId)(args:List Value)(w:World)(R:Value→World→Prop):Prop :=
 Calls P f args.toArray w fun e w'=>∃v,e=.returned v∧R v w'

theorem FC.mono{P f args w}{R R':Value→World→Prop}(h:FC P f args w R)(hr:∀v w',R v w'→R' v w'):FC P f args w R' :=
 Calls.mono h fun _ _ ⟨v,he,hR⟩=>⟨v,he,hr _ _ hR⟩

theorem Xs {P : Program} {f : FuncId} (h : calleeOK P f = true) : ∃ fn, P.funcs[f]? = some fn ∧ (fn.name == "runtime.NumGoroutine") = false ∧ fn.body.isNone = false := by
 unfold calleeOK at h
 split at h
 ·rename_i fn hf
  simp only[Bool.and_eq_true,bne_iff_ne,ne_eq] at h
  refine⟨fn,hf,by simpa using h.1,by cases hb:fn.body<;>simp_all⟩
 ·cases h

section
variable {P:Program} {n:Cx} {F:(List (Nat × Value))} {w:World} {p:Post} {ops:Array Oper} {rest:List Oper} {d:Option Tmp} {o:Op} {t:TypeId} {pos:String} {af:Array Edge} {g:Option (Nat × Bool)}
theorem Mt{f:FuncId}{args:Array Value}(h:calleeOK P f=true):(callFunc f args).run P w=.ok (.enter f args) w:=by
 obtain⟨fn,hf,h1,h2⟩:=Xs h
 simp only[callFunc,program,bind,Sem.bind,Sem.run,hf,h1,h2,Bool.false_eq_true,if_false]
 rfl

theorem ABl{f:FuncId}{args:List Value}(hr:∀ρ,Kg F ρ→(execOp ρ ⟨d,o,t,pos,af,g⟩).run P w=.ok (.enter f args.toArray) w){R:Value→World→Prop}(hc:FC P f args w R)(hg:Ed ops F g=some true)(hd:inB d n=true)
  (h:∀v w',R v w'→RL P n ops rest (upd F d v) w' p):RL P n ops (⟨d,o,t,pos,af,g⟩::rest) F w p:=by
 intro a k
 have he:=hr _ k.agrees
 cases hq:n.round with
 |none =>
  rw[Im hq]
  simp only[wpList]
  rw[Eo k hg]
  refine .inl ?_
  simp only[Oper.wp,he,Oper.upon]
  refine Calls.mono hc ?_
  rintro e w' ⟨v,rfl,hR⟩
  have:=h v w' hR _ (k.upd d v hd)
  rwa [Im hq] at this
 |some r =>
  rw[Il hq]
  simp only[wpListIn]
  rw[Eo k hg,if_pos rfl]
  refine⟨fun _ _=>trivial,?_⟩
  rw[Oper.semAt_eq _ _ _ (Ow he (fun _ e=>by cases e)),he]
  refine⟨fun e=>(by cases e),?_⟩
  refine CallsIn.mono (ABy hc) ?_
  rintro e w' ⟨v,rfl,hR⟩
  have:=h v w' hR _ (k.upd d v hd)
  rwa [Il hq] at this

theorem AA6{f:FuncId}{xs:List Operand}{vs:List Value}{ts:Array TypeId}(hx:evs F xs=some vs)(hf:calleeOK P f=true)(ρ:Operand→Value)(hρ:Kg F ρ):
  (execOp ρ ⟨d,.call ⟨.value (.func f),xs.toArray,ts⟩,t,pos,af,g⟩).run P w=.ok (.enter f vs.toArray) w:=by
 have h0:ρ (.func f)=.func (.func f) #[] #[]:=hρ _ _ rfl
 simp only[execOp,resolve,h0,Deferred.ofValue,Qy hρ hx,bind,Sem.bind,pure,invoke]
 simp only[Array.append_empty,Array.empty_append]
 exact Mt hf
theorem AEF{f:FuncId}{y:Operand}{xs:List Operand}{us cs vs:List Value}{ts:Array TypeId}(hy:XL.ev F y=some (.func (.func f) us.toArray cs.toArray))(hx:evs F xs=some vs)(hf:calleeOK P f=true)(ρ:Operand→Value)(hρ:Kg F ρ):
  (execOp ρ ⟨d,.call ⟨.value y,xs.toArray,ts⟩,t,pos,af,g⟩).run P w=.ok (.enter f (us++vs++cs).toArray) w:=by
 simp only[execOp,resolve,hρ y _ hy,Deferred.ofValue,Qy hρ hx,bind,Sem.bind,pure,invoke,List.append_toArray]
 exact Mt hf
theorem ADw{f:FuncId}{xs:List Operand}{vs:List Value}{ts:Array TypeId}(hx:evs F xs=some vs)(hf:calleeOK P f=true){R:Value→World→Prop}(hc:FC P f vs w R)(hg:Ed ops F g=some true)(hd:inB d n=true)
  (h:∀v w',R v w'→RL P n ops rest (upd F d v) w' p):RL P n ops (⟨d,.call ⟨.value (.func f),xs.toArray,ts⟩,t,pos,af,g⟩::rest) F w p :=
 ABl (fun ρ hρ=>AA6 hx hf ρ hρ) hc hg hd h
theorem Dl{f:FuncId}{y:Operand}{xs:List Operand}{us cs vs:List Value}{ts:Array TypeId}(hy:XL.ev F y=some (.func (.func f) us.toArray cs.toArray))(hx:evs F xs=some vs)(hf:calleeOK P f=true){R:Value→World→Prop}(hc:FC P f (us++vs++cs) w R)(hg:Ed ops F g=some true)(hd:inB d n=true)
  (h:∀v w',R v w'→RL P n ops rest (upd F d v) w' p):RL P n ops (⟨d,.call ⟨.value y,xs.toArray,ts⟩,t,pos,af,g⟩::rest) F w p :=
 ABl (fun ρ hρ=>AEF hy hx hf ρ hρ) hc hg hd h

def ACB:Nat→List Value→(List (Nat × Value))
 |_,[]=>[]
 |i,v::vs=>(i,v)::ACB (i+1) vs
theorem Sv(vs:List Value):∀i t v,Hx (ACB i vs) t=some v→i≤t∧vs[t-i]?=some v:=by
 induction vs with
 |nil=>intro i t v h;simp[ACB,Hx] at h
 |cons u vs ih =>
  intro i t v h
  rw[ACB,Ep] at h
  split at h
  ·rename_i e;subst e;simp at h;subst h;simp
  ·rename_i hne
   obtain⟨h1,h2⟩:=ih (i+1) t v h
   refine⟨by omega,?_⟩
   rw[show t-i=(t-(i+1))+1 by omega];simpa using h2

def AKY(P:Program)(F:(List (Nat × Value)))(w:World):ResultVar→Value→Prop
 |.tmp t,v=>Hx F t=some v
 |.cell a t,v=>∃ad,Hx F a=some (.pointer (some ad))∧((∃s,shapeOf P t=some (false,s)∧w.cell? ad=some v)∨(∃cs:List Value,shapeOf P t=some (true,cs.length)∧Row w ad cs∧v=.agg cs.toArray))
def Tl(P:Program)(F:(List (Nat × Value)))(w:World):List ResultVar→List Value→Prop
 | [],[]=>True
 |r::rs,v::vs=>AKY P F w r v∧Tl P F w rs vs
 |_,_=>False
def tup:List Value→Value|[v]=>v|vs=>.tuple vs.toArray

def AC4(tmps:Array Value):ResultVar→Sem Value
 |.tmp t=>pure (tmps.getD t undef)
 |.cell a t=>do loadVar t (←asAddr (tmps.getD a undef))
theorem ACY(fn:Func)(tmps:Array Value):results fn tmps=(fn.results.mapM (AC4 tmps) >>= fun vs=>pure (if h:vs.size=1 then vs[0] else .tuple vs)):=by
 unfold results
 congr 2
theorem AGR{a:Act}(k:Knows n F a){r v}(h:AKY P F w r v):(AC4 a.tmps r).run P w=.ok v w:=by
 unfold AC4
 cases r with
 |tmp t=>have:=k.slot t v h;simp[this,pure]
 |cell x t =>
  obtain⟨ad,hl,h⟩:=h
  have hs:=k.slot x _ hl
  simp only[Array.getD_eq_getD_getElem?,hs,Option.getD_some,asAddr,bind,Sem.bind,pure]
  rcases h with⟨s,hs,hc⟩|⟨cs,hs,hr,rfl⟩
  ·exact Mx hs hc
  ·exact My hs hr
theorem Dg{a:Act}(k:Knows n F a){fn:Func}{rs:List ResultVar}(hrs:fn.results=rs.toArray){vs:List Value}(h:Tl P F w rs vs):(results fn a.tmps).run P w=.ok (tup vs) w:=by
 rw[ACY,run_bind,hrs,Array.mapM_eq_mapM_toList,ADJ]
 have key:∀(rs:List ResultVar) (vs:List Value),Tl P F w rs vs→(rs.mapM (AC4 a.tmps)).run P w=.ok vs w:=by
  intro rs
  induction rs with
  |nil=>intro vs h;cases vs<;>simp_all [Tl]
  |cons r rs ih =>
   intro vs h
   cases vs with
   |nil=>simp[Tl] at h
   |cons v vs =>
    obtain⟨h1,h2⟩:=h
    rw[List.mapM_cons,run_bind,AGR k h1]
    simp only[]
    rw[run_bind,ih vs h2]
    rfl
 rw[key rs vs h]
 simp only[pure,Sem.run]
 match vs with
 | []=>simp[tup]
 | [v]=>simp[tup]
 |u::v::vs=>simp[tup]

def Post.fn(P:Program)(fn:Func)(R:Value→World→Prop):Post :=
 let r:Act→World→Prop:=fun a w=>a.defers=[]∧∃v,(results fn a.tmps).run P w=.ok v w∧R v w
 ⟨r,[],r⟩

theorem As{f:FuncId}{fn:Func}{c:Code}{args:List Value}{R:Value→World→Prop}{m:Nat}(hf:P.funcs[f]?=some fn)(hb:fn.body=some c)(hn:fn.ntmps=m)(ha:Nat.ble args.length m=true)
  (h:RC P ⟨m,none,[]⟩ c (ACB 0 args) w (Post.fn P fn R)):FC P f args w R:=by
 have ha':args.length≤m:=by simpa using ha
 refine calls_of_wp hf hb (wp_mono (h _ ⟨?_,rfl,?_⟩) ?_)
 ·simp[hn];omega
 ·intro t v ht
  obtain⟨_,h2⟩:=Sv args 0 t v ht
  simp only[Nat.sub_zero] at h2
  have hlt:t<args.length:=by
   rcases Nat.lt_or_ge t args.length with g|g
   ·exact g
   ·rw[List.getElem?_eq_none g] at h2;cases h2
  simp only[]
  rw[Array.getElem?_append_left (by simpa using hlt)]
  simpa using h2
 ·intro e a w' hq
  cases e<;>simp only[Post.q,Post.fn,Nm] at hq<;>first|exact hq.elim|skip
  ·obtain⟨h1,v,h2,h3⟩:=hq;exact⟨h1,v,h2,v,rfl,h3⟩
  ·obtain⟨h1,v,h2,h3⟩:=hq;exact⟨h1,v,h2,v,rfl,h3⟩
theorem Bo{fn:Func}{R:Value→World→Prop}{rs:List ResultVar}{vs:List Value}(hrs:fn.results=rs.toArray)(hp:p.ret=(Post.fn P fn R).ret)(hv:Tl P F w rs vs)(hR:R (tup vs) w)(hM:n.marks=[]:=by rfl):RC P n .ret F w p :=
 ACS fun a k=>by rw[hp];exact⟨k.defers.trans hM,_,Dg k hrs hv,hR⟩
def RQ(P:Program)(n:Cx)(ops:Array Oper)(l:List Oper)(F:(List (Nat × Value)))(w:World)(K:Act→Prop):Prop:=∀a,Knows n F a→wpQuiet P ops (Sub w) K l a

theorem Ev{id l}(hl:ops=List.toArray l)(hm:P.follows .mixedOrders=true)(hB:Region.lexB .any ops=true)(h:RQ P n ops l F w (fun a=>∀w',Sub w w'→p.nrm a w'))(hR:n.round=none:=by rfl):RC P n (.region id ops true) F w p:=by
 intro a k
 rw[Gc hR]
 refine wp_region_quiet (C:=Sub w) hm hB ⟨rfl,rfl,rfl,Nat.le_refl _,fun _ _=>rfl⟩ ?_
 subst hl
 exact h a k
theorem Dq(h:∀w',Sub w w'→∀a,Knows n F a→p.nrm a w'):RQ P n ops [] F w (fun a=>∀w',Sub w w'→p.nrm a w'):=fun a k=>wpQuiet_nil fun w' hw=>h w' hw a k
theorem AJR{v K}(he:EvOp P F o w v)(hg:Ed ops F g=some true)(hd:inB d n=true)(h:RQ P n ops rest (upd F d v) w K):RQ P n ops (⟨d,o,t,pos,af,g⟩::rest) F w K:=by
 intro a k
 refine wpQuiet_step fun K' hK'=>?_
 rw[Eo k hg]
 refine⟨v,fun w' hw'=>?_,hK' _ (h _ (k.upd d v hd))⟩
 rw[Oper.quietAt,he d t pos af g _ k.agrees w' hw']
 exact⟨rfl,rfl⟩
theorem AKT{K}(hg:Ed ops F g=some false)(hd:inB d n=true)(h:RQ P n ops rest (upd F d undef) w K):RQ P n ops (⟨d,o,t,pos,af,g⟩::rest) F w K:=by
 intro a k
 refine wpQuiet_step fun K' hK'=>?_
 rw[Eo k hg]
 exact hK' _ (h _ (k.upd d undef hd))
theorem AHQ{f:FuncId}{args:List Value}{v K}(hr:∀w' ρ,Kg F ρ→(execOp ρ ⟨d,o,t,pos,af,g⟩).run P w'=.ok (.enter f args.toArray) w')(hc:∀w',Sub w w'→FC P f args w' (fun u w''=>u=v∧Sub w' w''))(hg:Ed ops F g=some true)(hd:inB d n=true)
  (h:RQ P n ops rest (upd F d v) w K):RQ P n ops (⟨d,o,t,pos,af,g⟩::rest) F w K:=by
 intro a k
 refine wpQuiet_step fun K' hK'=>?_
 rw[Eo k hg]
 refine⟨v,fun w' hw'=>?_,hK' _ (h _ (k.upd d v hd))⟩
 rw[Oper.quietAt,hr w' _ k.agrees]
 refine⟨rfl,Calls.mono (hc w' hw') ?_⟩
 rintro e w'' ⟨u,rfl,rfl,hs⟩
 exact⟨rfl,hw'.trans hs⟩
theorem Ji{f:FuncId}{xs:List Operand}{vs:List Value}{ts:Array TypeId}{v K}(hx:evs F xs=some vs)(hf:calleeOK P f=true)(hc:∀w',Sub w w'→FC P f vs w' (fun u w''=>u=v∧Sub w' w''))(hg:Ed ops F g=some true)(hd:inB d n=true)
  (h:RQ P n ops rest (upd F d v) w K):RQ P n ops (⟨d,.call ⟨.value (.func f),xs.toArray,ts⟩,t,pos,af,g⟩::rest) F w K :=
 AHQ (fun _ ρ hρ=>AA6 hx hf ρ hρ) hc hg hd h
theorem Fp{q:Prop}[Decidable q]{l K}(s:Nat)(hs:Hx F s=some (.bool (decide q)))(hy:q→RQ P n ops l ((s,.bool true)::F) w K)(hn:¬q→RQ P n ops l ((s,.bool false)::F) w K):RQ P n ops l F w K:=by
 intro a k
 by_cases hq:q
 ·refine hy hq a ⟨k.size,k.defers,fun t v ht=>?_⟩
  rw[Ep] at ht
  by_cases e:s=t
  ·subst e;simp at ht;subst ht;simpa[hq] using k.slot _ _ hs
  ·rw[if_neg e] at ht;exact k.slot _ _ ht
 ·refine hn hq a ⟨k.size,k.defers,fun t v ht=>?_⟩
  rw[Ep] at ht
  by_cases e:s=t
  ·subst e;simp at ht;subst ht;simpa[hq] using k.slot _ _ hs
  ·rw[if_neg e] at ht;exact k.slot _ _ ht
theorem Tg{b:Bool}{l K}(s:Nat)(hs:Hx F s=some (.bool b))(hy:b=true→RQ P n ops l ((s,.bool true)::F) w K)(hn:b=false→RQ P n ops l ((s,.bool false)::F) w K):RQ P n ops l F w K :=
 Fp (q:=b=true) s (by rw[hs];simp) hy (fun h=>hn (by simpa using h))
end
theorem Has.upd{w w' b b' cs e}(h:Has w b cs e)(a:Agr (· = b') w w')(hn:b≠b'):Has w' b cs e:=h.step a hn
theorem Has.ne{w b cs e b'}(h:Has w b cs e)(hb:b'=w.heap.size):b≠b':=fun e=>by have:=h.lt;omega
theorem Sub.upd{w0 w w':World}{b:Nat}(s:Sub w0 w)(a:Agr (· = b) w w')(hb:w0.heap.size≤b):Sub w0 w' :=
 ⟨a.os.trans s.os,a.tape.trans s.tape,a.output.trans s.output,Nat.le_trans s.size a.size,fun k hk=>(a.block k (Nat.lt_of_lt_of_le hk s.size) (by omega)).trans (s.block k hk)⟩
theorem Sub.le{w0 w:World}{b:Nat}(s:Sub w0 w)(hb:b=w.heap.size):w0.heap.size≤b:=hb▸s.size

structure Sl (w:World) (a:Option Addr) (sz:Nat) (rows:List (List Value)):Prop where
 some:rows≠[]→a.isSome
 row:∀i r,rows[i]?=.some r→Row w ((a.getD default).add (i*sz)) r

theorem Sl.sub{w w' a sz rows}(h:Sl w a sz rows)(s:Sub w w'):Sl w' a sz rows:=⟨h.some,fun i r hr=>(h.row i r hr).sub s⟩
theorem Sl.take{w a sz rows}(h:Sl w a sz rows)(k:Nat):Sl w a sz (rows.take k) :=
 ⟨fun e=>h.some (by intro e';subst e';simp at e),fun i r hr=>h.row i r (by rw[List.getElem?_take] at hr;split at hr;exact hr;cases hr)⟩
theorem Sl.nil(w:World)(a:Option Addr)(sz:Nat):Sl w a sz []:=⟨fun h=>absurd rfl h,fun i r hr=>by simp at hr⟩
theorem Sl.is{w a sz rows}(h:Sl w a sz rows){i:Nat}(hi:i<rows.length):a=.some (a.getD default):=by
 have:=h.some (by intro e;subst e;simp at hi)
 cases a with
 |none=>simp at this
 |some x=>rfl
theorem Sl.cell{α:Type}{enc:α→List Value}{l:List α}{w a sz}(h:Sl w a sz (l.map enc)){i:Nat}{x:α}(hx:l[i]?=.some x){j v}(hv:(enc x)[j]?=.some v):w.cell? (((a.getD default).add (i*sz)).add j)=.some v :=
 h.row i (enc x) (by simp[hx]) j v hv
theorem Sl.rowAt{α:Type}{enc:α→List Value}{l:List α}{w a sz}(h:Sl w a sz (l.map enc)){i:Nat}{x:α}(hx:l[i]?=.some x):Row w ((a.getD default).add (i*sz)) (enc x) :=
 h.row i (enc x) (by simp[hx])
theorem Sl.one{α:Type}{enc:α→Value}{l:List α}{w a}(h:Sl w a 1 (l.map fun x=>[enc x])){i:Nat}{x:α}(hx:l[i]?=.some x):w.cell? ((a.getD default).add (i*1))=.some (enc x):=by
 have:=h.row i [enc x] (by simp[hx]) 0 (enc x) rfl
 simpa[Addr.add] using this

section
variable {P:Program} {n:Cx} {F:(List (Nat × Value))} {w:World} {p:Post} {ops:Array Oper} {rest:List Oper} {d:Option Tmp} {o:Op} {t:TypeId} {pos:String} {af:Array Edge} {g:Option (Nat × Bool)}
theorem EvOp.indexS{ty x ix a m c k i e s by_}(ht:sliceOf P ty=some (e,s,by_))(hx:XL.ev F x=some (.slice a m c))(hi:XL.ev F ix=some (.int k i))(h:0≤i∧i<m)(ha:a=some (a.getD default)):EvOp P F (.indexAddr ty x ix) w (.pointer (some ((a.getD default).add (i.toNat*s)))):=by
 generalize hz:a.getD default=ad at ha ⊢
 subst ha
 exact Ty ht hx hi h

theorem Bm{c x y}(hc:XL.ev F c=some (.bool true))(h:RC P n x F w p):RC P n (.cond c x y) F w p:=Db hc (fun _=>h) (fun e=>by cases e)
theorem Bw{c x y}(hc:XL.ev F c=some (.bool false))(h:RC P n y F w p):RC P n (.cond c x y) F w p:=Db hc (fun e=>by cases e) (fun _=>h)

end
theorem ABO{α:Type}(z:List α)(hs:0<z.length):∀(m i:Nat),(List.replicate m z).flatten[i]?=if i<m*z.length then z[i%z.length]? else none
 |0,i=>by simp
 |m+1,i=>by
  rw[List.replicate_succ,List.flatten_cons,List.getElem?_append,ABO z hs m]
  have e:(m+1)*z.length=m*z.length+z.length:=Nat.succ_mul _ _
  by_cases h:i<z.length
  ·rw[if_pos h,if_pos (by omega),Nat.mod_eq_of_lt h]
  ·rw[if_neg h,Nat.mod_eq_sub_mod (by omega:i≥z.length)]
   by_cases h2:i-z.length<m*z.length
   ·rw[if_pos h2,if_pos (by omega)]
   ·rw[if_neg h2,if_neg (by omega)]

theorem Qg(z:Array Value)(hs:0<z.size)(m:Nat):(Array.range (m*z.size)).map (fun i=>z[i%z.size]!)=(List.replicate m z.toList).flatten.toArray:=by
 apply Array.ext'
 apply List.ext_getElem?
 intro i
 have hl:0<z.toList.length:=by simpa using hs
 rw[ABO z.toList hl m i,Array.getElem?_toList,Array.getElem?_map]
 simp only[Array.length_toList,Array.getElem?_toList]
 by_cases h:i<m*z.size
 ·have hm:i%z.size<z.size:=Nat.mod_lt _ hs
  rw[if_pos h,Array.getElem?_eq_getElem (by simpa using h)]
  simp[hm]
 ·rw[if_neg h,Array.getElem?_eq_none (by simpa using h)];rfl

theorem Ip{α:Type}{sz:Nat}:∀(rows:List (List α)),(∀r∈rows,r.length=sz)→∀(i j:Nat) (r:List α),rows[i]?=some r→j<sz→rows.flatten[i*sz+j]?=r[j]?
 | [],_,i,j,r,h,_=>by simp at h
 |q::rows,hl,i,j,r,h,hj=>by
  have hq:q.length=sz:=hl q (by simp)
  rw[List.flatten_cons,List.getElem?_append]
  cases i with
  |zero=>simp at h;subst h;rw[if_pos (by omega)];simp
  |succ i =>
   have e:(i+1)*sz=i*sz+sz:=Nat.succ_mul _ _
   rw[if_neg (by omega),show(i+1)*sz+j-q.length=i*sz+j by omega]
   exact Ip rows (fun r hr=>hl r (by simp[hr])) i j r (by simpa using h) hj
theorem Cy{α:Type}{sz:Nat}:∀(rows:List (List α)),(∀r∈rows,r.length=sz)→rows.flatten.length=rows.length*sz
 | [],_=>by simp
 |q::rows,hl=>by
  rw[List.flatten_cons,List.length_append,Cy rows (fun r hr=>hl r (by simp[hr])),hl q (by simp),List.length_cons,Nat.succ_mul];omega
theorem AGq{sz:Nat}(rows:List (List Value))(hl:∀r∈rows,r.length=sz)(i:Nat)(hi:i<rows.length)(r:List Value)(hr:r.length=sz):Eh rows.flatten (i*sz) r=(rows.set i r).flatten:=by
 apply List.ext_getElem?
 intro k
 have hl':∀q∈rows.set i r,q.length=sz:=by
  intro q hq
  rcases List.mem_or_eq_of_mem_set hq with h|h
  ·exact hl q h
  ·exact h▸hr
 rw[Ki,Cy rows hl]
 by_cases hk:k<rows.length*sz
 ·have hsz:0<sz:=(Nat.eq_zero_or_pos sz).elim (fun h=>by subst h;simp at hk) id
  rw[if_pos hk]
  have hd:k/sz<rows.length:=(Nat.div_lt_iff_lt_mul hsz).2 hk
  have hm:k%sz<sz:=Nat.mod_lt _ hsz
  have ek:k=(k/sz)*sz+k%sz:=by rw[Nat.mul_comm];exact(Nat.div_add_mod k sz).symm
  obtain⟨q,hq⟩:∃q,(rows.set i r)[k/sz]?=some q:=⟨_,List.getElem?_eq_getElem (by simpa using hd)⟩
  have h1:=Ip (rows.set i r) hl' (k/sz) (k%sz) q hq hm
  rw[←ek] at h1
  rw[h1]
  by_cases hki:k/sz=i
  ·subst hki
   rw[List.getElem?_set_self hd] at hq
   cases hq
   rw[if_pos ⟨by omega,by rw[hr];omega⟩]
   congr 1;omega
  ·rw[List.getElem?_set_ne (fun e=>hki e.symm)] at hq
   have h2:=Ip rows hl (k/sz) (k%sz) q hq hm
   rw[←ek] at h2
   rw[if_neg ?_,h2]
   rintro⟨g1,g2⟩
   rw[hr] at g2
   apply hki
   have hle:i*sz≤k:=g1
   have hlt:k<(i+1)*sz:=by rw[Nat.succ_mul];exact g2
   exact Nat.le_antisymm (Nat.lt_succ_iff.1 ((Nat.div_lt_iff_lt_mul hsz).2 hlt)) ((Nat.le_div_iff_mul_le hsz).2 hle)
 ·rw[if_neg hk,List.getElem?_eq_none]
  rw[Cy _ hl',List.length_set];omega

theorem Has.sl{w b e sz}{rows:List (List Value)}{extra:List Value}(h:Has w b (rows.flatten++extra) e)(hl:∀r∈rows,r.length=sz):Sl w (some ⟨b,0,none⟩) sz rows :=
 ⟨fun _=>rfl,fun i r hr j v hv=>by
  have hj:j<sz:=by
   have:=hl r (List.mem_of_getElem? hr)
   rcases Nat.lt_or_ge j r.length with g|g
   ·omega
   ·rw[List.getElem?_eq_none g] at hv;cases hv
  simp only[Option.getD_some,add_lit,Nat.zero_add]
  refine h.cell ?_
  have:=Ip rows hl i j r hr hj
  rw[List.getElem?_append_left,this];exact hv
  rcases Nat.lt_or_ge (i*sz+j) rows.flatten.length with g|g
  ·exact g
  ·rw[List.getElem?_eq_none g] at this;rw[hv] at this;cases this⟩
theorem Hj{w b e sz}{rows:List (List Value)}(h:Has w b rows.flatten e)(hl:∀r∈rows,r.length=sz):Sl w (some ⟨b,0,none⟩) sz rows :=
 Has.sl (extra:=[]) (by simpa using h) hl

section
variable {P:Program} {n:Cx} {F:(List (Nat × Value))} {w:World} {p:Post} {ops:Array Oper} {rest:List Oper} {d:Option Tmp} {o:Op} {t:TypeId} {pos:String} {af:Array Edge} {g:Option (Nat × Bool)}
theorem Dh{ty x y m e s by_ z}(ht:sliceOf P ty=some (e,s,by_))(hz:zeroOf P e=some z)(hzs:z.cells.size=s)(hs:Nat.blt 0 s=true)(hx:XL.ev F x=some (.int .i64 m))(hy:XL.ev F y=some (.int .i64 m))(hm:0≤m∧m*by_≤140737488355328∧m≤140737488355328)(hg:Ed ops F g=some true)(hd:inB d n=true)
  (h:∀b w',b=w.heap.size→w'.heap.size=b+1→Has w' b (List.replicate m.toNat z.cells.toList).flatten e→Sub w w'→RL P n ops rest (upd F d (.slice (some ⟨b,0,none⟩) m.toNat m.toNat)) w' p):RL P n ops (⟨d,.makeSlice ty x y,t,pos,af,g⟩::rest) F w p:=by
 have hs':0<s:=by simpa using hs
 refine Kf hg hd (w':=Rw w (.cells (List.replicate m.toNat z.cells.toList).flatten.toArray e)) (fun ρ hρ=>?_) (h _ _ rfl (Lu _ _) (Nt _ _ _) (Ns _ _))
 obtain⟨h1,j,h2,h3,h4⟩:=Dk ht
 obtain⟨i,hi,hzz⟩:=Hf hz
 rw[h2] at hi;cases hi
 simp only[execOp,hρ x _ hx,hρ y _ hy]
 refine Fj _ ?_
 have hr:=run_make (P:=P) w ty e j z h1 h2 hzz .i64 .i64 m m hm.1 (Int.le_refl _) (by rw[h4,Int.mul_comm];omega) (by omega)
 rw[hr,h3,←hzs]
 have:=Qg z.cells (by omega) m.toNat
 unfold madeCells
 rw[this]
 rfl
theorem Ir{t z}{w:World}(h:zeroOf P t=some z):(zeroValue t).run P w=.ok z w:=by
 obtain⟨i,hi,hz⟩:=Hf h
 simp[zeroValue,typeInfo,program,bind,Sem.bind,Sem.run,hi,hz,pure]
theorem Pw{ty m}{xs:List (Nat × Operand)}{vs e s by_ z cs}(ht:sliceOf P ty=some (e,s,by_))(hz:zeroOf P e=some z)(hx:evp F xs=some vs)(hm:Nat.ble (m*s) 16777216=true)(hm0:Nat.beq (m*s) 0=false)
  (hf:Instr.fill (fun i=>some (i*s,s)) ((Array.range (m*s)).map (z.cells[· % z.cells.size]!)) vs=some cs) (hg:Ed ops F g=some true) (hd:inB d n=true)
  (h:∀b w',b=w.heap.size→w'.heap.size=b+1→Has w' b cs.toList e→Sub w w'→RL P n ops rest (upd F d (.slice (some ⟨b,0,none⟩) m m)) w' p):RL P n ops (⟨d,.buildSlice ty m xs.toArray,t,pos,af,g⟩::rest) F w p:=by
 refine Kf hg hd (w':=Rw w (.cells cs e)) (fun ρ hρ=>?_) (h _ _ rfl (Lu _ _) (Nt _ _ _) (Ns _ _))
 obtain⟨h1,j,h2,h3,h4⟩:=Dk ht
 have hm':¬(m*s>2^24):=by have:m*s≤16777216:=(by simpa using hm);omega
 have hm0':¬m*s=0:=by intro e;rw[e] at hm0;cases hm0
 simp only[execOp]
 refine Fj _ ?_
 rw[Instr.buildSlice,run_underlying h1]
 simp only[]
 rw[Ea h2,h3,if_neg hm',if_neg hm0']
 rw[run_bind]
 rw[Ir hz]
 simp only[]
 rw[run_bind]
 simp only[pure,Sem.run]
 have hmap:(Array.map (fun(x:Nat × Operand)=>(x.fst,ρ x.snd)) xs.toArray).toList=vs:=by
  rw[Array.toList_map];exact Rk hρ xs vs hx
 rw[hmap]
 rw[hf]
 simp only[]
 rw[run_bind,Mm]
 rfl
theorem Bi{ty x v e s by_}(ht:sliceOf P ty=some (e,s,by_))(z:Value)(hz:zeroOf P e=some z)(hzs:z.cells.size=s)(hx:XL.ev F x=some v)(hvs:v.cells.size=s)(hs:Nat.blt 0 s=true)(hs':Nat.ble s 16777216=true)(hg:Ed ops F g=some true)(hd:inB d n=true)
  (h:∀b w',b=w.heap.size→w'.heap.size=b+1→Has w' b v.cells.toList e→Sub w w'→RL P n ops rest (upd F d (.slice (some ⟨b,0,none⟩) 1 1)) w' p):RL P n ops (⟨d,.buildSlice ty 1 #[(0,x)],t,pos,af,g⟩::rest) F w p:=by
 have h0:0<s:=by simpa using hs
 refine Pw (xs:=[(0,x)]) (vs:=[(0,v)]) (cs:=v.cells) ht hz (by simp[evp,hx]) (by simpa using hs') (by rw[Nat.one_mul];cases s with|zero=>omega|succ s=>rfl) ?_ hg hd h
 simp only[Instr.fill,Nat.zero_mul,Nat.zero_add,hvs,Array.size_map,Array.size_range,Nat.one_mul,ne_eq,not_true_eq_false,decide_false,gt_iff_lt,Nat.lt_irrefl,Bool.or_self,Bool.false_eq_true,if_false]
 congr 1
 have key:∀(l:List Value) (cs:List Value) (k:Nat),k+l.length=cs.length→(l.zipIdx k).foldl (fun(cs:Array Value) (c,j)=>cs.setIfInBounds j c) cs.toArray=(cs.take k++l).toArray:=by
  intro l
  induction l with
  |nil=>intro cs k hk;simp at hk;simp[List.take_of_length_le (Nat.le_of_eq hk.symm)]
  |cons a l ih =>
   intro cs k hk
   simp only[List.length_cons] at hk
   simp only[List.zipIdx_cons,List.foldl_cons,List.setIfInBounds_toArray]
   rw[ih (cs.set k a) (k+1) (by simp;omega)]
   congr 1
   rw[List.take_add_one,List.getElem?_set_self (by omega),List.take_set,List.set_eq_of_length_le (by simp;omega)]
   simp
 have:=key v.cells.toList ((Array.range s).map (z.cells[· % z.cells.size]!)).toList 0 (by simp[hvs])
 simp only[List.take_zero,List.nil_append,Array.toArray_toList] at this
 rw[←Array.foldl_toList,Array.toList_zipIdx]
 exact this

def Lq:Nat→List Value→List (Nat × Value)
 |_,[]=>[]
 |k,v::vs=>(k,v)::Lq (k+1) vs
def AFf(s:Nat):List Value→Prop
 | []=>True
 |v::vs=>v.cells.size=s∧AFf s vs
def AD4:List Value→List Value
 | []=>[]
 |v::vs=>v.cells.toList++AD4 vs
theorem AGP:∀(l:List Value) (cs:List Value) (k j:Nat),k+j+l.length≤cs.length→(l.zipIdx j).foldl (fun(cs:Array Value) (c,j)=>cs.setIfInBounds (k+j) c) cs.toArray=(cs.take (k+j)++l++cs.drop (k+j+l.length)).toArray:=by
 intro l
 induction l with
 |nil=>intro cs k j hk;simp
 |cons a l ih =>
  intro cs k j hk
  simp only[List.length_cons] at hk
  simp only[List.zipIdx_cons,List.foldl_cons,List.setIfInBounds_toArray]
  rw[ih (cs.set (k+j) a) k (j+1) (by simp;omega)]
  congr 1
  rw[show k+(j+1)=k+j+1 by omega,List.take_add_one,List.getElem?_set_self (by omega),List.take_set,List.set_eq_of_length_le (by simp;omega),List.drop_set]
  rw[if_pos (by omega)]
  simp only[List.length_cons,Option.toList,List.append_assoc,List.cons_append,List.nil_append]
  rw[show k+j+1+l.length=k+j+(l.length+1) by omega]
theorem Zh{s:Nat}:∀(vs:List Value) (k:Nat) (cs:List Value),AFf s vs→(k+vs.length)*s=cs.length→Instr.fill (fun i=>some (i*s,s)) cs.toArray (Lq k vs)=some (cs.take (k*s)++AD4 vs).toArray
 | [],k,cs,_,h=>by
  simp only[Lq,Instr.fill,AD4,List.append_nil]
  rw[List.take_of_length_le (by simp only[List.length_nil,Nat.add_zero] at h;omega)]
 |v::vs,k,cs,hv,h=>by
  simp only[List.length_cons] at h
  have hvl:v.cells.toList.length=s:=by rw[Array.length_toList];exact hv.1
  have hle:(k+1)*s≤cs.length:=by rw[←h];exact Nat.mul_le_mul_right _ (by omega)
  rw[Nat.succ_mul] at hle
  simp only[Lq,Instr.fill,hv.1,ne_eq,not_true_eq_false,decide_false,Bool.false_or,gt_iff_lt,List.size_toArray]
  rw[if_neg (by simp;omega)]
  have:=AGP v.cells.toList cs (k*s) 0 (by rw[hvl];omega)
  rw[←Array.foldl_toList,Array.toList_zipIdx]
  rw[this,Zh vs (k+1) _ hv.2 (by rw[List.length_append,List.length_append,List.length_take,List.length_drop,hvl];have:k+1+vs.length=k+(vs.length+1):=(by omega);show(k+1+vs.length)*s=_;rw[this,h];omega)]
  congr 2
  rw[AD4,Nat.add_zero,←List.append_assoc]
  congr 1
  rw[Nat.succ_mul,List.take_append_of_le_length (by rw[List.length_append,List.length_take,hvl];show _≤min _ cs.length+s;omega)]
  rw[List.take_of_length_le (by rw[List.length_append,List.length_take,hvl];show min _ cs.length+s≤_;omega)]
  rw[Nat.add_zero]
theorem Iu{ty m}{xs:List (Nat × Operand)}{vs:List Value}{e s by_}(ht:sliceOf P ty=some (e,s,by_))(z:Value)(hz:zeroOf P e=some z)(hx:evp F xs=some (Lq 0 vs))(hv:AFf s vs)(hm:m=vs.length)(hs:Nat.blt 0 s=true)(hm':Nat.ble (m*s) 16777216=true)(hm0:Nat.beq (m*s) 0=false)
  (hg:Ed ops F g=some true) (hd:inB d n=true)
  (h:∀b w',b=w.heap.size→w'.heap.size=b+1→Has w' b (AD4 vs) e→Sub w w'→RL P n ops rest (upd F d (.slice (some ⟨b,0,none⟩) m m)) w' p):RL P n ops (⟨d,.buildSlice ty m xs.toArray,t,pos,af,g⟩::rest) F w p:=by
 refine Pw (xs:=xs) (vs:=Lq 0 vs) (cs:=(AD4 vs).toArray) ht hz hx hm' hm0 ?_ hg hd (fun b w' e1 e2 e3 e4=>h b w' e1 e2 e3 e4)
 have:=Zh (s:=s) vs 0 ((Array.range (m*s)).map (z.cells[· % z.cells.size]!)).toList hv (by rw[hm];simp)
 rw[Nat.zero_mul,List.take_zero,List.nil_append,Array.toArray_toList] at this
 exact this

def ob:Value→Option Nat:=Value.ownBlock
structure Ows (base:Nat) (w:World) (e:TypeId) (sz:Nat) (v:Value) (rows:List (List Value)):Prop where
 own:w.ownsRow base e sz v rows.length rows.flatten
 len:∀r∈rows,r.length=sz
theorem Ows.nil(base:Nat)(w:World)(e:TypeId)(sz:Nat):Ows base w e sz (.slice none 0 0) []:=⟨⟨by simp,.inl ⟨rfl,rfl⟩⟩,by simp⟩
theorem Ows.form{base w e sz v rows}(h:Ows base w e sz v rows):∃a c,v=.slice a rows.length c∧rows.length≤c:=by
 rcases h.own.2 with⟨rfl,h0⟩|⟨g,cap,cur,rfl,_,_,hc,_⟩
 ·exact⟨none,0,by rw[h0],by omega⟩
 ·exact⟨_,_,rfl,hc⟩
theorem Ows.step{base w e sz v rows w'}{N:Nat→Prop}(h:Ows base w e sz v rows)(a:Agr N w w')(hn:∀k,ob v=some k→¬N k):Ows base w' e sz v rows:=by
 refine⟨⟨h.own.1,?_⟩,h.len⟩
 rcases h.own.2 with h|⟨g,cap,cur,rfl,hb,hg,hr⟩
 ·exact .inl h
 ·refine .inr ⟨g,cap,cur,rfl,hb,?_,hr⟩
  rw[a.block g ?_ (hn g rfl),hg]
  rcases Nat.lt_or_ge g w.heap.size with q|q
  ·exact q
  ·rw[Array.getElem?_eq_none q] at hg;cases hg
theorem Ows.sub{base w e sz v rows w'}(h:Ows base w e sz v rows)(s:Sub w w'):Ows base w' e sz v rows:=h.step (N:=fun _=>False) s.agr (fun _ _=>id)
theorem Ows.upd{base w e sz v rows w' b}(h:Ows base w e sz v rows)(a:Agr (· = b) w w')(hb:b<base):Ows base w' e sz v rows:=h.step a (by
 rintro k hk rfl
 rcases h.own.2 with⟨rfl,_⟩|⟨g,cap,cur,rfl,hb',_⟩
 ·simp[ob,Value.ownBlock] at hk
 ·simp[ob,Value.ownBlock] at hk;omega)
theorem Ows.sl{base w e sz a m c rows}(h:Ows base w e sz (.slice a m c) rows):Sl w a sz rows∧m=rows.length:=by
 rcases h.own.2 with⟨hv,h0⟩|⟨g,cap,cur,hv,hb,hg,hc,hm,hcs,ht⟩
 ·cases hv
  have:rows=[]:=List.eq_nil_of_length_eq_zero h0
  subst this
  exact⟨Sl.nil _ _ _,rfl⟩
 ·cases hv
  have hh:Has w g (rows.flatten++cur.toList.drop (rows.length*sz)) e:=by
   unfold Has;rw[hg,←ht,List.take_append_drop]
  exact⟨hh.sl h.len,rfl⟩
theorem Ows.imm{N:Nat→Prop}{base w e sz a m c rows}(h:Ows base w e sz (.slice a m c) rows)(hN:∀k,N k→k<base):Imm N (fun w=>Sl w a sz rows) w:=fun w' ag=>by
 refine(Ows.sl (h.step ag ?_)).1
 intro k hk hNk
 rcases h.own.2 with⟨hv,h0⟩|⟨g,cap,cur,hv,hb,_⟩
 ·cases hv;simp[ob,Value.ownBlock] at hk
 ·cases hv;simp[ob,Value.ownBlock] at hk;subst hk;have:=hN _ hNk;omega

theorem AEK{v:Value}(h:Gj v=true):v.oneCell'=true:=by cases v<;>simp_all [Gj,Value.oneCell']

theorem AE2{ty y x v ax m c e s by_ z base rows news}(ht:sliceOf P ty=some (e,s,by_))(hz:zeroOf P e=some z)(hzs:z.cells.size=s)(hs:Nat.blt 0 s=true)(hy:XL.ev F y=some v)(hx:XL.ev F x=some (.slice (some ax) m c))
  (hown:Ows base w e s v rows) (hnew:Sl w (some ax) s news) (hm:m=news.length) (hnl:∀r∈news,r.length=s) (hp:news.all (fun r=>r.all Gj)=true) (hlen:(rows.length+m)*by_≤140737488355328) (hlen':rows.length+m≤140737488355328) (hbase:base≤w.heap.size) (hg:Ed ops F g=some true) (hd:inB d n=true)
  (h:∀v' w',Ows base w' e s v' (rows++news)→Agr (fun k=>ob v=some k) w w'→(ob v'=ob v∨∃b,ob v'=some b∧w.heap.size≤b)→RL P n ops rest (upd F d v') w' p):RL P n ops (⟨d,.call ⟨.builtin .append,#[y,x],#[ty,ty]⟩,t,pos,af,g⟩::rest) F w p:=by
 have hs':0<s:=by simpa using hs
 obtain⟨h1,i,h2,h3,h4⟩:=Dk ht
 obtain⟨i',hi',hzz⟩:=Hf hz
 rw[h2] at hi';cases hi'
 subst hm
 have hcell:∀j u,news.flatten[j]?=some u→w.cell? (ax.add j)=some u:=by
  intro j u hj
  have hjl:j<news.length*s:=by
   rw[←Cy news hnl]
   rcases Nat.lt_or_ge j news.flatten.length with q|q
   ·exact q
   ·rw[List.getElem?_eq_none q] at hj;cases hj
  have hd':j/s<news.length:=(Nat.div_lt_iff_lt_mul hs').2 hjl
  have hmod:j%s<s:=Nat.mod_lt _ hs'
  have ej:j=(j/s)*s+j%s:=by rw[Nat.mul_comm];exact(Nat.div_add_mod j s).symm
  obtain⟨r,hr⟩:∃r,news[j/s]?=some r:=⟨_,List.getElem?_eq_getElem hd'⟩
  have hf:=Ip news hnl (j/s) (j%s) r hr hmod
  rw[←ej,hj] at hf
  have hc:=hnew.row (j/s) r hr (j%s) u hf.symm
  simp only[Option.getD_some] at hc
  rw[←hc]
  congr 1
  rw[ej]
  obtain⟨bb,oo,sp⟩:=ax
  unfold Addr.add
  by_cases q1:(j/s)*s=0
  ·rw[←ej]
   by_cases q2:j%s=0
   ·rw[if_pos (by omega),if_pos q1,if_pos q2]
   ·rw[if_neg (by omega),if_pos q1,if_neg q2];simp only;congr 2;omega
  ·rw[←ej]
   by_cases q2:j%s=0
   ·rw[if_neg (by omega),if_neg q1,if_pos q2];congr 1;omega
   ·rw[if_neg (by omega),if_neg q1,if_neg q2];simp only;congr 1;omega
 have hone:∀u∈news.flatten,u.oneCell'=true:=by
  intro u hu
  obtain⟨r,hr,hur⟩:=List.mem_flatten.1 hu
  exact AEK (List.all_eq_true.1 (List.all_eq_true.1 hp r hr) u hur)
 have fin:∀v' w',(Builtin.append_ #[ty,ty] t #[v,.slice (some ax) news.length c]).run P w=.ok v' w'→Ows base w' e s v' (rows++news)→Agr (fun k=>ob v=some k) w w'→(ob v'=ob v∨∃b,ob v'=some b∧w.heap.size≤b) →
   RL P n ops (⟨d,.call ⟨.builtin .append,#[y,x],#[ty,ty]⟩,t,pos,af,g⟩::rest) F w p:=by
  intro v' w' hr ho ha hob
  refine Kf hg hd (v:=v') (w':=w') (fun ρ hρ=>?_) (h v' w' ho ha hob)
  simp only[execOp,resolve,hρ y _ hy,hρ x _ hx,bind,Sem.bind,pure,invoke,builtin,List.map_toArray,List.map_cons,List.map_nil]
  have:=run_bind (P:=P) (Builtin.append_ #[ty,ty] t #[v,.slice (some ax) news.length c]) (fun v=>(Sem.pure (Next.value v):Sem Next)) w
  rw[hr] at this
  exact this
 have hfl:(rows++news).flatten=rows.flatten++news.flatten:=List.flatten_append
 have hrl:(rows++news).length=rows.length+news.length:=List.length_append
 have hrl':∀r∈rows++news,r.length=s:=fun r hr=>(List.mem_append.1 hr).elim (hown.len r) (hnl r)
 have hfn:news.flatten.length=news.length*s:=Cy news hnl
 have hfo:rows.flatten.length=rows.length*s:=Cy rows hown.len
 have hml:rows.length+news.length≤maxLen:=by unfold maxLen;omega
 -- in a new block
 have grown:∀(old:Nat),old<rows.length+news.length→∀w0:World,w0=w.drew.alloc (.cells (rows.flatten.toArray++news.flatten.toArray++Builtin.zeroCells z.cells (grownCap w (rows.length+news.length) old e-(rows.length+news.length))) e) →
   Ows base w0 e s (.slice (some ⟨w.heap.size,0,none⟩) (rows.length+news.length) (grownCap w (rows.length+news.length) old e)) (rows++news)∧Agr (fun k=>ob v=some k) w w0:=by
  intro old ho w0 hw0
  subst hw0
  have hge:=grownCap_ge w (rows.length+news.length) old e
  have hcm:=grownCap_le_maxLen w (rows.length+news.length) old e hml
  refine⟨⟨⟨by rw[hfl,hrl,List.length_append,hfo,hfn,Nat.add_mul],.inr ⟨w.heap.size,_,_,by rw[hrl],hbase,heap_alloc_new w.drew _,by rw[hrl];exact hge,hcm,?_,?_⟩⟩,hrl'⟩,⟨rfl,rfl,rfl,by simp,fun k hk _=>Ei w.drew _ hk⟩⟩
  ·simp only[Array.size_append,List.size_toArray,size_zeroCells,hzs,hfo,hfn,←Nat.add_mul]
   congr 1
   omega
  ·simp only[Array.toList_append,List.append_assoc]
   rw[hrl,hfl,←List.append_assoc,show(rows.length+news.length)*s=(rows.flatten++news.flatten).length by rw[List.length_append,hfo,hfn,Nat.add_mul]]
   exact List.take_left
 rcases hown.own.2 with⟨rfl,h0⟩|⟨gb,cap,cur,rfl,hbg,hgh,hnc,hcm,hcs,htake⟩
 ·have hx0:rows=[]:=List.eq_nil_of_length_eq_zero h0
  subst hx0
  by_cases hm0:news.length=0
  ·have hn:news=[]:=List.eq_nil_of_length_eq_zero hm0
   subst hn
   refine fin (.slice none 0 0) w ?_ (Ows.nil _ _ _ _) (Agr.refl _ _) (.inl rfl)
   simp[Builtin.append_,Go.run_underlying h1,sizeOf,typeInfo,h2,Builtin.lenOf,Builtin.firstCells,loadCells,loadCellsFrom]
  ·have hr:=run_append_nil (P:=P) w ty t e i z h1 h2 hzz ax news.length c news.flatten (by rw[hfn,h3]) hcell (by omega) (by omega) (by rw[h4];simp only[List.length_nil,Nat.zero_add] at hlen;omega)
   have hgr:=grown 0 (by simp;omega) _ rfl
   simp only[List.length_nil,Nat.zero_add,List.flatten_nil,Array.empty_append,List.nil_append] at hgr
   exact fin _ _ hr hgr.1 hgr.2 (.inr ⟨_,rfl,Nat.le_refl _⟩)
 ·by_cases hroom:rows.length+news.length≤cap
  ·have hfit:rows.length*i.size+news.flatten.length≤cur.size:=by rw[hfn,hcs,h3,←Nat.add_mul];exact Nat.mul_le_mul_right _ hroom
   have hr:=run_append_room (P:=P) w ty t e i h1 h2 gb rows.length cap cur hgh ax news.length c news.flatten (by rw[hfn,h3]) hcell hone hroom hfit
   refine fin _ _ hr ⟨⟨by rw[hfl,hrl,List.length_append,hfo,hfn,Nat.add_mul],.inr ⟨gb,cap,_,by rw[hrl],hbg,setRow_heap w gb cur _ e _ hgh,by rw[hrl];exact hroom,hcm,?_,?_⟩⟩,hrl'⟩
    ⟨rfl,rfl,rfl,by simp,fun k _ hk=>setRow_other w gb k _ (fun e=>hk (by simp[ob,Value.ownBlock,e]))⟩ (.inl rfl)
   ·simp only[List.size_toArray,List.length_append,List.length_take,List.length_drop,Array.length_toList]
    omega
   ·rw[h3,htake,hrl,hfl,show(rows.length+news.length)*s=(rows.flatten++news.flatten).length by rw[List.length_append,hfo,hfn,Nat.add_mul]]
    exact List.take_left
  ·have holds:∀j u,rows.flatten[j]?=some u→w.cell? ((⟨gb,0,none⟩:Addr).add j)=some u:=hown.own.cells (g:=gb) rfl
   have hr:=run_append_grow (P:=P) w ty t e i z h1 h2 hzz ⟨gb,0,none⟩ rows.length cap rows.flatten (by rw[hfo,h3]) holds ax news.length c news.flatten (by rw[hfn,h3]) hcell (by omega) (by omega) (growslice_fits (by omega) (by rw[h4];exact hlen))
   have hgr:=grown cap (by omega) _ rfl
   exact fin _ _ hr hgr.1 hgr.2 (.inr ⟨_,rfl,Nat.le_refl _⟩)
end
def AGG(F:List (Nat × Value)):List (Nat × Value)→Prop
 | []=>True
 |(k,v)::r=>Hx F k=some v∧AGG F r
theorem Bf{F:List (Nat × Value)}:∀ {G:List (Nat × Value)},AGG F G→∀t v,Hx G t=some v→Hx F t=some v
 | [],_,t,v,h=>by simp[Hx] at h
 |(k,u)::r,⟨h1,h2⟩,t,v,h=>by
  rw[Ep] at h
  by_cases e:k=t
  ·subst e;simp at h;subst h;exact h1
  ·rw[if_neg e] at h;exact Bf h2 t v h

theorem wrap_i64{x:Int}(h : -9223372036854775808≤x∧x≤9223372036854775807):IntKind.i64.wrap x=x:=by rw[IntKind.wrap_i64];omega
theorem Cs{x y:Int}(h:x=y)(hb : -9223372036854775808≤y∧y≤9223372036854775807):Value.int .i64 (IntKind.i64.wrap x)=.int .i64 y:=by rw[h,wrap_i64 hb]
theorem wrap_u64{x:Int}(h:0≤x∧x≤18446744073709551615):IntKind.u64.wrap x=x:=by rw[IntKind.wrap_u64];omega
theorem AAt{x y:Int}(h:x=y)(hb:0≤y∧y≤18446744073709551615):Value.int .u64 (IntKind.u64.wrap x)=.int .u64 y:=by rw[h,wrap_u64 hb]

def Val(x:Value)(w:World):Value→World→Prop:=fun v w'=>v=x∧Sub w w'

section
variable {P:Program} {n:Cx} {F:(List (Nat × Value))} {w:World} {p:Post} {ops:Array Oper} {rest:List Oper} {d:Option Tmp} {o:Op} {t:TypeId} {pos:String} {af:Array Edge} {g:Option (Nat × Bool)}
theorem EvOp.as{v v'}(h:EvOp P F o w v)(e:v=v'):EvOp P F o w v':=e▸h
theorem EvOp.min2{x y k a b ts}(hx:XL.ev F x=some (.int k a))(hy:XL.ev F y=some (.int k b)):EvOp P F (.call ⟨.builtin .min,#[x,y],ts⟩) w (.int k (if b<a then b else a)):=fun _ _ _ _ _ ρ hρ w' _=>by
 simp only[execOp,resolve,hρ x _ hx,hρ y _ hy,bind,Sem.bind,pure,invoke,builtin,List.map_toArray,List.map_cons,List.map_nil]
 simp[Builtin.min_,Builtin.min2,bind,Sem.bind,Sem.run,pure]
theorem AE3{c}(k:Nat)(h:RC P n c F w (p.to (Code.rounds P c p.q k)))(hR:n.round=none:=by rfl):RC P n (.loop c) F w p:=fun a ka=>by
 rw[Gc hR]
 refine wp_loop_rounds (k+1) ?_
 have:=h a ka
 rw[Gc hR] at this
 rw[rounds_succ,Th]
 exact this
theorem Vx{c:Code}{q:Post}{k:Nat}(h:RC P n c F w (q.to (Code.rounds P c q.q k)))(hR:n.round=none:=by rfl):∀a,Knows n F a→(q.to (Code.rounds P c q.q (k+1))).nrm a w:=fun a ka=>by
 show Code.rounds P c q.q (k+1) a w
 have:=h a ka
 rw[Gc hR] at this
 rw[rounds_succ,Th]
 exact this
end
def AFG:Option IntKind→Value→Bool
 |some k,.int k' _=>decide (k=k')
 |none,.bool _=>true
 |_,_=>false
def Fc:List (Option IntKind)→List Value→Bool
 | [],[]=>true
 |k::ks,v::vs=>AFG k v&&Fc ks vs
 |_,_=>false
def eq1:Value→Value→Bool
 |.int _ a,.int _ b=>a==b
 |.bool a,.bool b=>a==b
 |_,_=>false
def eqL:List Value→List Value→Bool
 | [],[]=>true
 |a::xs,b::ys=>eq1 a b&&eqL xs ys
 |_,_=>false

def Ku(P:Program)(k:TypeId→Option (List (Option IntKind))):Nat→List Field→Option (List (Option IntKind))
 |_,[]=>some []
 |o,f::fs =>
  if f.name = "_" ∨ f.offset ≠ o then none
  else match k f.type with
   |none=>none
   |some l=>match shapeOf P f.type with
    |none=>none
    |some (_,s)=>if s≠l.length then none else match Ku P k (o+s) fs with|none=>none|some r=>some (l++r)
def flatK(P:Program):Nat→TypeId→Option (List (Option IntKind))
 |0,_=>none
 |d+1,t =>
  match P.underlying t with
  |some (.int k)=>some [some k]
  |some .bool=>some [none]
  |some (.struct fs)=>if P.stoodInHeld t then none else Ku P (flatK P d) 0 fs.toList
  |some (.array n e)=>match flatK P d e with
   |none=>none
   |some l=>match shapeOf P e with
    |none=>none
    |some (_,s)=>if s≠l.length then none else some (List.replicate n l).flatten
  |_=>none

theorem Ew:∀ {ks vs},Fc ks vs=true→ks.length=vs.length
 | [],[],_=>rfl
 |k::ks,v::vs,h=>by simp only[Fc,Bool.and_eq_true] at h;simp[Ew h.2]
 | [],_::_,h=>by simp[Fc] at h
 |_::_,[],h=>by simp[Fc] at h
theorem AJI{k xs}(h:Fc [k] xs=true):∃v,xs=[v]∧AFG k v=true:=by
 cases xs with
 |nil=>simp[Fc] at h
 |cons v r=>cases r with
  |nil=>exact⟨v,rfl,by simpa[Fc] using h⟩
  |cons a b=>simp[Fc] at h
theorem ABP{k xs}(h:Fc [some k] xs=true):∃x,xs=[.int k x]:=by
 obtain⟨v,rfl,h2⟩:=AJI h
 clear h
 cases v with
 |int k' x=>simp[AFG] at h2;subst h2;exact⟨_,rfl⟩
 |_=>exact absurd h2 (by simp[AFG])
theorem Zg{xs}(h:Fc [none] xs=true):∃x,xs=[.bool x]:=by
 obtain⟨v,rfl,h2⟩:=AJI h
 clear h
 cases v with
 |bool b=>exact⟨_,rfl⟩
 |_=>exact absurd h2 (by simp[AFG])
theorem Pd:∀ {ks ks' vs},Fc (ks++ks') vs=true→Fc ks (vs.take ks.length)=true∧Fc ks' (vs.drop ks.length)=true
 | [],ks',vs,h=>by simpa[Fc] using h
 |k::ks,ks',[],h=>by simp[Fc] at h
 |k::ks,ks',v::vs,h=>by
  simp only[List.cons_append,Fc,Bool.and_eq_true] at h
  have:=Pd h.2
  simp[Fc,h.1,this]
theorem AAe:∀(n:Nat) {xs ys},xs.length=ys.length→eqL xs ys=(eqL (xs.take n) (ys.take n)&&eqL (xs.drop n) (ys.drop n))
 |0,xs,ys,_=>by simp[eqL]
 |n+1,[],[],_=>by simp[eqL]
 |n+1,a::xs,b::ys,h=>by
  simp only[List.take_succ_cons,List.drop_succ_cons,eqL]
  rw[AAe n (by simpa using h),Bool.and_assoc]
 |n+1,[],_::_,h=>by simp at h
 |n+1,_::_,[],h=>by simp at h

def Ix(agg:Bool)(cs:List Value):Value:=if agg then .agg cs.toArray else cs.headD undef

section
variable {P:Program} {w:World}
theorem Vn{t b s}(hs:shapeOf P t=some (b,s))(cs:List Value)(o:Nat)(h:o+s≤cs.length)(h1:b=false→s=1):(part t cs.toArray o).run P w=.ok (Ix b ((cs.drop o).take s)) w:=by
 obtain⟨d,i,hd,hi,hb,hz⟩:=Dp hs
 rw[part,Hl hd,hb]
 cases b with
 |true =>
  simp only[if_true]
  rw[Ea hi,hz]
  simp only[pure,Sem.run,Ix,if_true]
  congr 2
  apply Array.ext'
  simp[List.take_drop]
 |false =>
  have:=h1 rfl
  subst this
  have hlt:o<cs.length:=by omega
  simp only[Bool.false_eq_true,if_false,List.getElem?_toArray,List.getElem?_eq_getElem hlt,Ix]
  rw[List.drop_eq_getElem_cons hlt]
  rfl

theorem Zf{k t l s}(h:flatK P k t=some l)(hs:shapeOf P t=some (false,s))(hl:s=l.length):s=1:=by
 obtain⟨de,i,hd,hi,hbb,hz⟩:=Dp hs
 cases k with
 |zero=>simp[flatK] at h
 |succ k =>
  rw[flatK,hd] at h
  cases de with
  |int kd=>simp at h;subst h;simpa using hl
  |bool=>simp at h;subst h;simpa using hl
  |struct fs=>cases hbb
  |array n e=>cases hbb
  |_=>simp at h
def AJi(P:Program)(w:World)(k d:Nat):Prop :=
 ∀(t:TypeId) (ks:List (Option IntKind)) (b:Bool) (s:Nat) (xs ys:List Value),flatK P k t=some ks→shapeOf P t=some (b,s)→s=ks.length→Fc ks xs=true→Fc ks ys=true →
  (Op.equalIn (d+k) t (Ix b xs) (Ix b ys)).run P w=.ok (eqL xs ys) w
theorem Wf{k d:Nat}(IH:AJi P w k d)(X Y:List Value):∀(fs:List Field) (o:Nat) (ks:List (Option IntKind)),Ku P (flatK P k) o fs=some ks→Fc ks (X.drop o)=true→Fc ks (Y.drop o)=true →
  (forIn fs ((none,()):Option Bool × Unit) (fun f __s =>
      if f.name ≠ "_" then
       (part f.type X.toArray f.offset).bind fun a =>
        (part f.type Y.toArray f.offset).bind fun b =>
         (Op.equalIn (d+k) f.type a b).bind fun r =>
          if(!r)=true then pure (ForInStep.done (some false,()))
          else pure (ForInStep.yield (none,()))
      else pure (ForInStep.yield (none,()))):Sem _).run P w=.ok (if eqL (X.drop o) (Y.drop o) then(none,()) else(some false,())) w
 | [],o,ks,h,hx,hy=>by
  simp only[Ku,Option.some.injEq] at h
  subst h
  have h1:=Ew hx
  have h2:=Ew hy
  have e1:X.drop o=[]:=List.eq_nil_of_length_eq_zero h1.symm
  have e2:Y.drop o=[]:=List.eq_nil_of_length_eq_zero h2.symm
  rw[e1,e2]
  rfl
 |f::fs,o,ks,h,hx,hy=>by
  simp only[Ku] at h
  split at h
  ·cases h
  ·rename_i hno
   have hname : f.name ≠ "_" := fun e => hno (.inl e)
   have hoff:f.offset=o:=Decidable.byContradiction fun e=>hno (.inr e)
   split at h
   ·cases h
   ·rename_i l hl
    split at h
    ·cases h
    ·rename_i b s hs
     split at h
     ·cases h
     ·rename_i hsl
      have hsl':s=l.length:=Decidable.byContradiction hsl
      split at h
      ·cases h
      ·rename_i r hr
       cases h
       obtain⟨hx1,hx2⟩:=Pd hx
       obtain⟨hy1,hy2⟩:=Pd hy
       rw[List.drop_drop] at hx2 hy2
       have lx:=Ew hx
       have ly:=Ew hy
       simp only[List.length_append,List.length_drop] at lx ly
       have one:b=false→s=1:=fun e=>by subst e;exact Zf hl hs hsl'
       have px:o+s≤X.length∨s=0:=by omega
       have ih:=Wf IH X Y fs (o+s) r hr (by rw[hsl'];exact hx2) (by rw[hsl'];exact hy2)
       rw[List.forIn_cons,run_bind]
       have hbx:(part f.type X.toArray f.offset).run P w=.ok (Ix b ((X.drop o).take s)) w:=by
        rw[hoff]
        by_cases e0:s=0
        ·cases b with
         |false=>have:=one rfl;omega
         |true =>
          obtain⟨dd,i',g1,g2,g3,g4⟩:=Dp hs
          rw[part,Hl g1,g3]
          simp only[if_true]
          rw[Ea g2,g4,e0]
          simp only[pure,Sem.run,Ix,if_true]
          congr 2
          apply Array.ext'
          simp
        ·exact Vn hs X o (by omega) one
       have hby:(part f.type Y.toArray f.offset).run P w=.ok (Ix b ((Y.drop o).take s)) w:=by
        rw[hoff]
        by_cases e0:s=0
        ·cases b with
         |false=>have:=one rfl;omega
         |true =>
          obtain⟨dd,i',g1,g2,g3,g4⟩:=Dp hs
          rw[part,Hl g1,g3]
          simp only[if_true]
          rw[Ea g2,g4,e0]
          simp only[pure,Sem.run,Ix,if_true]
          congr 2
          apply Array.ext'
          simp
        ·exact Vn hs Y o (by omega) one
       have hq:=IH f.type l b s ((X.drop o).take s) ((Y.drop o).take s) hl hs hsl' (by rw[hsl'];exact hx1) (by rw[hsl'];exact hy1)
       have hlen:(X.drop o).length=(Y.drop o).length:=by rw[←Ew hx,←Ew hy]
       rw[AAe s hlen,List.drop_drop,List.drop_drop]
       simp only[ne_eq,hname,not_false_eq_true,if_true]
       have hbody:((part f.type X.toArray f.offset).bind fun a=>(part f.type Y.toArray f.offset).bind fun b=>(Op.equalIn (d+k) f.type a b).bind fun r=>if(!r)=true then(pure (ForInStep.done ((some false,()):Option Bool × Unit)):Sem _) else pure (ForInStep.yield (none,()))).run P w
         = .ok (if eqL ((X.drop o).take s) ((Y.drop o).take s) then ForInStep.yield (none,()) else ForInStep.done (some false,())) w:=by
        have e1:=run_bind (P:=P) (part f.type X.toArray f.offset) (fun a=>(part f.type Y.toArray f.offset).bind fun b=>(Op.equalIn (d+k) f.type a b).bind fun r=>if(!r)=true then(pure (ForInStep.done ((some false,()):Option Bool × Unit)):Sem _) else pure (ForInStep.yield (none,()))) w
        rw[hbx] at e1
        have e2:=run_bind (P:=P) (part f.type Y.toArray f.offset) (fun b'=>(Op.equalIn (d+k) f.type (Ix b ((X.drop o).take s)) b').bind fun r=>if(!r)=true then(pure (ForInStep.done ((some false,()):Option Bool × Unit)):Sem _) else pure (ForInStep.yield (none,()))) w
        rw[hby] at e2
        have e3:=run_bind (P:=P) (Op.equalIn (d+k) f.type (Ix b ((X.drop o).take s)) (Ix b ((Y.drop o).take s))) (fun r=>if(!r)=true then(pure (ForInStep.done ((some false,()):Option Bool × Unit)):Sem _) else pure (ForInStep.yield (none,()))) w
        rw[hq] at e3
        refine e1.trans (e2.trans (e3.trans ?_))
        cases eqL ((X.drop o).take s) ((Y.drop o).take s)<;>rfl
       rw[hbody]
       cases hc:eqL ((X.drop o).take s) ((Y.drop o).take s) with
       |true=>simp only[if_true,Bool.true_and];exact ih
       |false=>simp[Sem.run,pure]
theorem Ws{l:List (Option IntKind)}{n:Nat}{X:List Value}(h:Fc (List.replicate (n+1) l).flatten X=true):Fc l (X.take l.length)=true∧Fc (List.replicate n l).flatten (X.drop l.length)=true:=by
 rw[List.replicate_succ,List.flatten_cons] at h
 exact Pd h
theorem Ym{k d:Nat}(IH:AJi P w k d){e:TypeId}{l:List (Option IntKind)}{b:Bool}{s:Nat}(hl:flatK P k e=some l)(hs:shapeOf P e=some (b,s))(hsl:s=l.length)(one:b=false→s=1)(X Y:List Value):
  ∀(n i:Nat),Fc (List.replicate n l).flatten (X.drop (i*s))=true→Fc (List.replicate n l).flatten (Y.drop (i*s))=true →
  (forIn (List.range' i n 1) ((none,()):Option Bool × Unit) (fun i __s=>do
       let a ←part e X.toArray (i*s)
       let b ←part e Y.toArray (i*s)
       let r ←Op.equalIn (d+k) e a b
       if(!r)=true then pure (ForInStep.done (some false,())) else pure (ForInStep.yield (none,()))):Sem _).run P w=.ok (if eqL (X.drop (i*s)) (Y.drop (i*s)) then(none,()) else(some false,())) w
 |0,i,hx,hy=>by
  have e1:X.drop (i*s)=[]:=List.eq_nil_of_length_eq_zero (by rw[←Ew hx];rfl)
  have e2:Y.drop (i*s)=[]:=List.eq_nil_of_length_eq_zero (by rw[←Ew hy];rfl)
  rw[e1,e2]
  rfl
 |n+1,i,hx,hy=>by
  obtain⟨hx1,hx2⟩:=Ws hx
  obtain⟨hy1,hy2⟩:=Ws hy
  rw[←hsl] at hx1 hx2 hy1 hy2
  rw[List.drop_drop] at hx2 hy2
  have es:i*s+s=(i+1)*s:=(Nat.succ_mul _ _).symm
  rw[es] at hx2 hy2
  have ih:=Ym IH hl hs hsl one X Y n (i+1) hx2 hy2
  have lx:=Ew hx1
  have ly:=Ew hy1
  simp only[List.length_take,List.length_drop] at lx ly
  have hpart:∀Z:List Value,Fc l ((Z.drop (i*s)).take s)=true→(part e Z.toArray (i*s)).run P w=.ok (Ix b ((Z.drop (i*s)).take s)) w:=by
   intro Z hz
   have lz:=Ew hz
   simp only[List.length_take,List.length_drop] at lz
   by_cases e0:s=0
   ·cases b with
    |false=>have:=one rfl;omega
    |true =>
     obtain⟨dd,i',g1,g2,g3,g4⟩:=Dp hs
     rw[part,Hl g1,g3]
     simp only[if_true]
     rw[Ea g2,g4,e0]
     simp only[pure,Sem.run,Ix,if_true]
     congr 2
     apply Array.ext'
     simp
   ·exact Vn hs Z (i*s) (by omega) one
  rw[List.range'_succ,List.forIn_cons,run_bind,run_bind,hpart X hx1]
  simp only[]
  rw[run_bind,hpart Y hy1]
  simp only[]
  rw[run_bind,IH e l b s _ _ hl hs hsl hx1 hy1]
  have hlen:(X.drop (i*s)).length=(Y.drop (i*s)).length:=by rw[←Ew hx,←Ew hy]
  rw[AAe s hlen,List.drop_drop,List.drop_drop,es]
  cases hc:eqL ((X.drop (i*s)).take s) ((Y.drop (i*s)).take s) with
  |true=>simp only[Bool.not_true,Bool.false_eq_true,if_false,Bool.true_and,pure,Sem.run];exact ih
  |false=>simp[Sem.run,pure]
end
section
variable {P:Program} {w:World}
theorem Tp:∀(k d:Nat),AJi P w k d
 |0,d=>fun t ks b s xs ys h _ _ _ _=>by simp[flatK] at h
 |k+1,d=>fun t ks b s xs ys h hs hl ha hb=>by
  have ih:=Tp k d
  obtain⟨de,i,hd,hi,hbb,hz⟩:=Dp hs
  rw[flatK,hd] at h
  rw[show d+(k+1)=(d+k)+1 by omega,Op.equalIn,run_underlying hd]
  cases de with
  |int kd =>
   simp only[Option.some.injEq] at h
   subst h
   have hb':b=false:=by rw[←hbb];rfl
   subst hb'
   obtain⟨x,rfl⟩:=ABP ha
   obtain⟨y,rfl⟩:=ABP hb
   simp[Ix,eqL,eq1,pure,Sem.run]
  |bool =>
   simp only[Option.some.injEq] at h
   subst h
   have hb':b=false:=by rw[←hbb];rfl
   subst hb'
   obtain⟨x,rfl⟩:=Zg ha
   obtain⟨y,rfl⟩:=Zg hb
   simp[Ix,eqL,eq1,pure,Sem.run]
  |struct fs =>
   have hb':b=true:=by rw[←hbb];rfl
   subst hb'
   simp only[] at h
   split at h
   ·cases h
   ·rename_i hst
    have hst':P.stoodInHeld t=false:=by simpa using hst
    simp only[Ix,if_true,bind,Sem.bind,program,Sem.run,hst',Bool.false_eq_true,if_false]
    rw[←Array.forIn_toList]
    have:=Wf (ih) xs ys fs.toList 0 ks h (by simpa using ha) (by simpa using hb)
    simp only[List.drop_zero] at this
    refine(run_bind (P:=P) _ _ w).trans ?_
    generalize hg:(forIn fs.toList ((none,()):Option Bool × Unit) _:Sem _)=A
    have hA:A.run P w=.ok (if eqL xs ys then(none,()) else(some false,())) w:=by
     rw[←hg]
     exact this
    rw[hA]
    cases eqL xs ys<;>rfl
  |array n e =>
   have hb':b=true:=by rw[←hbb];rfl
   subst hb'
   simp only[] at h
   split at h
   ·cases h
   ·rename_i l hl'
    split at h
    ·cases h
    ·rename_i be se hse
     split at h
     ·cases h
     ·rename_i hsl
      have hsl':se=l.length:=Decidable.byContradiction hsl
      cases h
      obtain⟨dd,i',g1,g2,g3,g4⟩:=Dp hse
      simp only[Ix,if_true]
      rw[Ea g2,g4]
      have one:be=false→se=1:=fun e'=>by subst e';exact Zf hl' hse hsl'
      have:=Ym ih hl' hse hsl' one xs ys n 0 (by simpa using ha) (by simpa using hb)
      simp only[Nat.zero_mul,List.drop_zero] at this
      refine(run_bind (P:=P) _ _ w).trans ?_
      rw[Std.Legacy.Range.forIn_eq_forIn_range',show(Std.Legacy.Range.size [:n])=n from by simp[Std.Legacy.Range.size]]
      generalize hg:(forIn (List.range' _ n _) ((none,()):Option Bool × Unit) _:Sem _)=A
      have hA:A.run P w=.ok (if eqL xs ys then(none,()) else(some false,())) w:=by
       rw[←hg]
       exact this
      rw[hA]
      cases eqL xs ys<;>rfl
  |_=>simp at h
theorem Ob{t ks s xs ys}(hk:flatK P 6 t=some ks)(hs:shapeOf P t=some (true,s))(hl:s=ks.length)(ha:Fc ks xs=true)(hb:Fc ks ys=true):
  (Op.equal t (.agg xs.toArray) (.agg ys.toArray)).run P w=.ok (eqL xs ys) w:=Tp 6 9994 t ks true s xs ys hk hs hl ha hb
end
section
variable {P:Program} {n:Cx} {F:(List (Nat × Value))} {w:World}
theorem Tj{op:BinOp}{t:TypeId}{x y:Operand}{xs ys:Array Value}{w:World}(h:P.eqGuardType P.depth t=false):(eqGuard op t x y (.agg xs) (.agg ys)).run P w=.ok () w:=by
 unfold eqGuard
 cases op<;>simp[program,bind,Sem.bind,Sem.run,h,pure]
theorem EvOp.neS{x y xs ys tx ty ks s}(hk:flatK P 6 tx=some ks)(hg:P.eqGuardType P.depth tx=false)(hs:shapeOf P tx=some (true,s))(hl:s=ks.length)(hx:XL.ev F x=some (.agg xs.toArray))(hy:XL.ev F y=some (.agg ys.toArray))(ha:Fc ks xs=true)(hb:Fc ks ys=true):
  EvOp P F (.binOp .neq tx x y ty) w (.bool (!eqL xs ys)):=fun _ _ _ _ _ ρ hρ w' _=>by
 simp only[execOp,hρ x _ hx,hρ y _ hy]
 refine Fj _ ?_
 rw[run_bind,Tj hg]
 show(Op.equal tx (.agg xs.toArray) (.agg ys.toArray) >>= fun b=>(Sem.pure (Value.bool !b):Sem Value)).run P w'=_
 rw[run_bind,Ob hk hs hl ha hb]
 rfl
end
section
variable {P:Program} {n:Cx} {F:(List (Nat × Value))} {w:World} {p:Post} {ops:Array Oper} {rest:List Oper} {d:Option Tmp} {o:Op} {t:TypeId} {pos:String} {af:Array Edge} {g:Option (Nat × Bool)}
theorem EvOp.sliceArr{ty x b a len e s}(ht:arrOf P ty=some (len,e,s))(hx:XL.ev F x=some (.pointer (some ⟨b,a,none⟩))):
  EvOp P F (.slice ty x none none none) w (.slice (some ⟨b,a,none⟩) len len):=fun _ _ _ _ _ ρ hρ w' _=>by
 obtain⟨h1,j,h2,h3⟩:=Km ht
 simp only[execOp]
 refine Fj _ ?_
 simp only[Instr.sliceAt,hρ x _ hx,Option.map_none]
 rw[run_underlying h1]
 simp only[Instr.sureAddr,Instr.sliceBounds,bind,Sem.bind,pure]
 have:=Ea (P:=P) (w:=w') h2 (fun size=>(Sem.pure (Value.slice (some (if len=0 then(⟨b,a,none⟩:Addr) else(⟨b,a,none⟩:Addr).add (0*size))) (len-0) (len-0)):Sem Value))
 simp only[bind] at this
 rw[this]
 simp[Sem.run,Addr.add]
theorem EvOp.eqNil{x a m c tx ty e s by_}(ht:sliceOf P tx=some (e,s,by_))(hx:XL.ev F x=some (.slice a m c)):EvOp P F (.binOp .eql tx x (.const (.slice none 0 0)) ty) w (.bool a.isNone):=fun _ _ _ _ _ ρ hρ w' _=>by
 have h0:ρ (.const (.slice none 0 0))=.slice none 0 0:=hρ _ _ rfl
 simp only[execOp,hρ x _ hx,h0]
 refine Fj _ ?_
 show(Op.equal tx (.slice a m c) (.slice none 0 0) >>= fun b=>(Sem.pure (Value.bool b):Sem Value)).run P w'=_
 have:(Op.equal tx (.slice a m c) (.slice none 0 0)).run P w'=.ok a.isNone w':=by
  show(Op.equalIn (9999+1) tx (.slice a m c) (.slice none 0 0)).run P w'=_
  rw[Op.equalIn,run_underlying (Dk ht).1]
  cases a<;>rfl
 rw[run_bind,this]
 rfl

theorem Ge{ty e s by_}(ht:sliceOf P ty=some (e,s,by_))(hg:Ed ops F g=some true)(hd:inB d n=true)
  (h:∀b w',b=w.heap.size→w'.heap.size=b+1→Has w' b [] e→Sub w w'→RL P n ops rest (upd F d (.slice (some ⟨b,0,none⟩) 0 0)) w' p):RL P n ops (⟨d,.buildSlice ty 0 #[],t,pos,af,g⟩::rest) F w p:=by
 refine Kf hg hd (w':=Rw w (.cells #[] e)) (fun ρ hρ=>?_) (h _ _ rfl (Lu _ _) (Nt _ _ _) (Ns _ _))
 obtain⟨h1,j,h2,h3,h4⟩:=Dk ht
 simp only[execOp]
 refine Fj _ ?_
 rw[Instr.buildSlice,run_underlying h1]
 simp only[]
 rw[Ea h2,h3,if_neg (by omega),if_pos (by omega)]
 simp only[pure,bind,Sem.bind,Array.map_empty,Instr.fill,Nat.zero_mul]
 have h0:(Array.range 0).map (fun x=>(#[]:Array Value)[x%(#[]:Array Value).size]!)=#[]:=by simp[Array.range_zero']
 rw[h0]
 have:=run_bind (P:=P) (newRow e #[]) (fun a=>(Sem.pure (Value.slice (some a) 0 0):Sem Value)) w
 rw[Mm] at this
 exact this
end
theorem Gk{base:Nat}{w:World}{b e sz}(h:Has w b [] e)(hb:base≤b):Ows base w e sz (.slice (some ⟨b,0,none⟩) 0 0) [] :=
 ⟨⟨by simp,.inr ⟨b,0,#[],rfl,hb,h,Nat.le_refl _,by decide,by simp,by simp⟩⟩,by simp⟩
theorem Ows.has{base w e sz v rows}(h:Ows base w e sz v rows)(hne:0<rows.length):∃b cap extra,v=.slice (some ⟨b,0,none⟩) rows.length cap∧base≤b∧rows.length≤cap∧cap≤maxLen∧Has w b (rows.flatten++extra) e∧(rows.flatten++extra).length=cap*sz:=by
 rcases h.own.2 with⟨_,h0⟩|⟨g,cap,cur,rfl,hb,hg,hc,hm,hcs,ht⟩
 ·omega
 ·refine⟨g,cap,cur.toList.drop (rows.length*sz),rfl,hb,hc,hm,?_,?_⟩
  ·unfold Has;rw[hg,←ht,List.take_append_drop]
  ·rw[←ht,List.take_append_drop];simpa using hcs
theorem Qo{base w e sz b cap rows}{extra:List Value}(h:Has w b (rows.flatten++extra) e)(hl:∀r∈rows,r.length=sz)(hb:base≤b)(hc:rows.length≤cap)(hm:cap≤maxLen)(hx:(rows.flatten++extra).length=cap*sz):Ows base w e sz (.slice (some ⟨b,0,none⟩) rows.length cap) rows:=by
 refine⟨⟨Cy rows hl,.inr ⟨b,cap,_,rfl,hb,h,hc,hm,by simpa using hx,?_⟩⟩,hl⟩
 simp only[]
 rw[←Cy rows hl]
 exact List.take_left
theorem ABr{xs ys:List Value}{o:Nat}{r:List Value}(h:o+r.length≤xs.length):Eh (xs++ys) o r=Eh xs o r++ys:=by
 apply List.ext_getElem?
 intro k
 rw[Ki,List.length_append]
 by_cases hk:k<xs.length
 ·rw[if_pos (by omega),List.getElem?_append_left hk,List.getElem?_append_left (l₁:=Eh xs o r) (by rw[Ld];exact hk),Ki,if_pos hk]
 ·rw[if_neg (by omega:¬(o≤k∧k<o+r.length)),List.getElem?_append_right (by omega),List.getElem?_append_right (l₁:=Eh xs o r) (by rw[Ld];omega),Ld]
  by_cases h2:k<xs.length+ys.length
  ·rw[if_pos h2]
  ·rw[if_neg h2,List.getElem?_eq_none (by omega)]
theorem Gh{w b e sz}{rows:List (List Value)}{extra r:List Value}{i:Nat}(h:Has w b (Eh (rows.flatten++extra) (i*sz) r) e)(hl:∀r∈rows,r.length=sz)(hi:i<rows.length)(hr:r.length=sz):Has w b ((rows.set i r).flatten++extra) e:=by
 have hle:(i+1)*sz≤rows.length*sz:=Nat.mul_le_mul_right _ hi
 rw[Nat.succ_mul] at hle
 rwa [ABr (by rw[Cy rows hl];omega),AGq rows hl i hi r hr] at h

theorem AEd{α:Type}(enc:α→Value)(l:List α):(l.map fun x=>[enc x]).flatten=l.map enc:=by
 induction l with
 |nil=>rfl
 |cons v l ih=>simp[ih]
theorem AFA(m:Nat)(v:Value):(List.replicate m [v]).flatten=List.replicate m v:=by
 induction m with
 |zero=>rfl
 |succ m ih=>simp[List.replicate_succ,ih]
theorem Ik{α:Type}{enc:α→Value}{l:List α}{w b e}(h:Has w b (l.map enc) e):Sl w (some ⟨b,0,none⟩) 1 (l.map fun x=>[enc x]) :=
 Hj (by rw[AEd];exact h) (by intro r hr;obtain⟨x,_,rfl⟩:=List.mem_map.1 hr;rfl)
theorem Ro{α:Type}{enc:α→Value}{l:List α}{w b e i x}(h:Has w b (Eh (l.map enc) i [enc x]) e):Has w b ((l.set i x).map enc) e:=by
 have:Eh (l.map enc) i [enc x]=(l.set i x).map enc:=by simp[Eh,List.map_set]
 rwa [this] at h
theorem Xg{α:Type}{enc:α→Value}{l:List α}{w b e o}{pre post:List Value}(h:Has w b (pre++l.map enc++post) e)(ho:o=pre.length):Sl w (some ⟨b,o,none⟩) 1 (l.map fun x=>[enc x]) :=
 ⟨fun _=>rfl,fun i r hr j v hv=>by
  rw[List.getElem?_map] at hr
  cases hx:l[i]? with
  |none=>simp[hx] at hr
  |some x =>
   simp[hx] at hr
   subst hr
   cases j with
   |succ j=>simp at hv
   |zero =>
    simp at hv
    subst hv
    have hlt:i<l.length:=by
     rcases Nat.lt_or_ge i l.length with q|q
     ·exact q
     ·rw[List.getElem?_eq_none q] at hx;cases hx
    simp only[Option.getD_some,add_lit]
    refine h.cell ?_
    rw[List.append_assoc,List.getElem?_append_right (by omega),List.getElem?_append_left (by simp;omega),List.getElem?_map,show o+i*1+0-pre.length=i by omega,hx]
    rfl⟩

theorem Dr{w b e}{cs:List Value}(h:Has w b cs e):Sl w (some ⟨b,0,none⟩) cs.length [cs] :=
 Hj (rows:=[cs]) (by simpa using h) (by intro r hr;rw[List.mem_singleton] at hr;subst hr;rfl)
theorem Has.rowCell{α:Type}{enc:α→List Value}{l:List α}{w b e sz}{extra:List Value}(h:Has w b ((l.map enc).flatten++extra) e)(hl:∀x,(enc x).length=sz){i:Nat}{x:α}{j o:Nat}{v:Value}(hx:l[i]?=some x)(hv:(enc x)[j]?=some v)(ho:o=i*sz+j):w.cell? ⟨b,o,none⟩=some v:=by
 have hj:j<sz:=by
  rw[←hl x]
  rcases Nat.lt_or_ge j (enc x).length with q|q
  ·exact q
  ·rw[List.getElem?_eq_none q] at hv;cases hv
 have hi:i<l.length:=by
  rcases Nat.lt_or_ge i l.length with q|q
  ·exact q
  ·rw[List.getElem?_eq_none q] at hx;cases hx
 have hll:∀r∈l.map enc,r.length=sz:=fun r hr=>by obtain⟨y,_,rfl⟩:=List.mem_map.1 hr;exact hl y
 have hf:=Ip (l.map enc) hll i j (enc x) (by simp[hx]) hj
 have hle:(i+1)*sz≤l.length*sz:=Nat.mul_le_mul_right _ hi
 rw[Nat.succ_mul] at hle
 subst ho
 refine h.cell ?_
 rw[List.getElem?_append_left (by rw[Cy _ hll,List.length_map];omega),hf,hv]
theorem ACU:∀(cs vs:List Value),cs.length=vs.length→Eh cs 0 vs=vs:=by
 intro cs vs h
 apply List.ext_getElem?
 intro k
 rw[Ki]
 by_cases hk:k<cs.length
 ·rw[if_pos hk,if_pos (by omega),Nat.sub_zero]
 ·rw[if_neg hk,List.getElem?_eq_none (by omega)]
theorem Has.now{w b e}{cs vs:List Value}(h:Has w b (Eh cs 0 vs) e)(hl:cs.length=vs.length):Has w b vs e:=by
 rwa [ACU cs vs hl] at h
theorem Ee{w b e o}{pre mid post:List Value}(h:Has w b (pre++mid++post) e)(ho:o=pre.length):Row w ⟨b,o,none⟩ mid:=by
 intro i v hv
 rw[add_lit]
 have hlt:i<mid.length:=by
  rcases Nat.lt_or_ge i mid.length with q|q
  ·exact q
  ·rw[List.getElem?_eq_none q] at hv;cases hv
 refine h.cell ?_
 rw[List.append_assoc,List.getElem?_append_right (by omega),List.getElem?_append_left (by omega),show o+i-pre.length=i by omega,hv]

section
variable {P:Program} {n:Cx} {F:(List (Nat × Value))} {w:World}
theorem EvOp.nilCheck{x a}(hx:XL.ev F x=some (.pointer (some a))):EvOp P F (.nilCheck x) w (.pointer (some a)):=fun _ _ _ _ _ ρ hρ w' _=>by
 simp only[execOp,hρ x _ hx];rfl
theorem EvOp.indexO{ty x ix b o m c k i e s by_}(ht:sliceOf P ty=some (e,s,by_))(hx:XL.ev F x=some (.slice (some ⟨b,o,none⟩) m c))(hi:XL.ev F ix=some (.int k i))(h:0≤i∧i<m):EvOp P F (.indexAddr ty x ix) w (.pointer (some ⟨b,o+i.toNat*s,none⟩)) :=
 EvOp.as (Ty ht hx hi h) (by rw[add_lit])
end
section
variable {P:Program} {ops:Array Oper} {Q:Exit→Act→World→Prop}
theorem AD5{j:Nat}{oi oj:Oper}{v:Value}(hj:ops[j]?=some oj)(hap:oi.apart ops oj=true)
  (hsi:∀cs b,oi.op≠.select cs b) (hsj:∀cs b,oj.op≠.select cs b)
  (hQ:∀c a w,Q (.panic c) (a.put oi.dst v) w→Q (.panic c) a w) {K:Act→World→Prop} {a:Act} {w:World} {X:Sem Next} {B:Bool}
  (E:execOp a.eval oi=X) (W:Region.wanted oi (yielded ops a.tmps)=B) (h:wpOp P ops Q j K (a.put oi.dst v) w) :
  wpOp P ops Q j (fun a' w'=>(execOp a'.eval oi=X∧Region.wanted oi (yielded ops a'.tmps)=B)∧K (a'.put oi.dst v) w') a w:=by
 obtain⟨h1,h2,h3⟩:=Oper.apart_spec hap
 have keep:∀u,execOp (a.put oj.dst u).eval oi=X∧Region.wanted oi (yielded ops (a.put oj.dst u).tmps)=B:=fun u =>
  ⟨(execOp_put oi hsi a oj.dst u h3).trans E,(wanted_put oi a oj.dst u h3).trans W⟩
 have keepD:∀d u,execOp (Act.put {a with defers:=d::a.defers} oj.dst u).eval oi=X∧Region.wanted oi (yielded ops (Act.put {a with defers:=d::a.defers} oj.dst u).tmps)=B:=fun d u =>
  ⟨(execOp_put oi hsi {a with defers:=d::a.defers} oj.dst u h3).trans E,(wanted_put oi {a with defers:=d::a.defers} oj.dst u h3).trans W⟩
 unfold wpOp at *
 simp only[hj] at *
 rw[wanted_put oj a oi.dst v h1] at h
 split
 ·rename_i hw
  simp only[hw,if_true] at h
  rcases h with h|⟨hasks,hlets⟩
  case inr=>exact .inr ⟨by unfold Oper.asks at *;rw[execOp_put oj hsj a oi.dst v h1] at hasks;exact hasks,hlets⟩
  refine .inl ?_
  unfold Oper.wp at *
  rw[execOp_put oj hsj a oi.dst v h1] at h
  generalize (execOp a.eval oj).run P w=r at *
  cases r with
  |ok n w' =>
   cases n<;>simp only[Oper.upon] at h ⊢
   case value u=>exact⟨keep u,by rw[←Act.put_comm a v u h2];exact h⟩
   case skip=>exact⟨keep _,by rw[←Act.put_comm a v undef h2];exact h⟩
   case defer d =>
    refine⟨keepD d _,?_⟩
    rw[←Act.put_comm _ v undef h2,←Act.put_defers]
    exact h
   case enter f args =>
    refine Calls.mono h fun e w'' he=>?_
    cases e with
    |returned u=>exact⟨keep u,by rw[←Act.put_comm a v u h2];exact he⟩
    |panicked c=>exact hQ _ _ _ he
    |outgrown=>exact he
   case row row args=>exact Rows.mono h fun u w'' he=>⟨keep u,by rw[←Act.put_comm a v u h2];exact he⟩
  |halt x w' =>
   cases x<;>simp only[Oper.upon] at h ⊢
   case panic u=>exact hQ _ _ _ h
 ·rename_i hw
  simp only[hw] at h
  exact⟨keep _,by rw[←Act.put_comm a v undef h2];exact h⟩

def WA(P:Program)(ops:Array Oper)(Q:Exit→Act→World→Prop)(M:Nat→Nat→Prop):Nat→Array Bool→Act→World→Prop
 |0,L,a,w=>Region.ready .any ops L=[]∧Q .normal a w
 |f+1,L,a,w=>(Region.ready .any ops L=[]→Q .normal a w) ∧
  ∀i∈Region.ready .any ops L,wpOp P ops Q i (fun a' w'=>Agr (M i) w w'∧WA P ops Q M f (L.setIfInBounds i true) a' w') a w

theorem WA.any{M:Nat→Nat→Prop}:∀(f:Nat) (L:Array Bool) (a:Act) (w:World),WA P ops Q M f L a w→wpAny P .any ops Q f L a w
 |0,_,_,_,h=>h
 |f+1,L,a,w,h=>⟨h.1,fun i hi=>wpOp_mono (fun a' w' hk=>WA.any f _ a' w' hk.2) (h.2 i hi)⟩

theorem Vw{M:Nat→Nat→Prop}{N:Nat→Prop}{i:Nat}{oi:Oper}{v:Value}{X:Sem Next}{B:Bool}(hi:ops[i]?=some oi)(hsel:∀(j:Nat) (o:Oper) cs b,ops[j]?=some o→o.op≠.select cs b)
  (hQ:∀c a w,Q (.panic c) (a.put oi.dst v) w→Q (.panic c) a w) :
  ∀(fuel:Nat) (L:Array Bool) (a:Act) (w:World),
   (∀j oj,ops[j]?=some oj→j≠i→L.getD j true=false→(∀e∈oj.after,Region.binds .any e=true→e.on≠i)→oi.apart ops oj=true∧∀k,M j k→N k) →
   i∈Region.ready .any ops L→execOp a.eval oi=X→Region.wanted oi (yielded ops a.tmps)=B→(B=true→∀w',Agr N w w'→X.run P w'=.ok (.value v) w')→(B=false→v=undef) →
   WA P ops Q M fuel (L.setIfInBounds i true) (a.put oi.dst v) w→WA P ops Q M (fuel+1) L a w:=by
 intro fuel
 have run:∀ {K:Act→World→Prop} {a:Act} {w:World},execOp a.eval oi=X→Region.wanted oi (yielded ops a.tmps)=B→(B=true→∀w',Agr N w w'→X.run P w'=.ok (.value v) w')→(B=false→v=undef)→K (a.put oi.dst v) w→wpOp P ops Q i K a w:=by
  intro K a w E W hX hB h
  unfold wpOp
  simp only[hi,W]
  cases B with
  |true=>simp only[if_true,Oper.wp,E,hX rfl w (Agr.refl _ _),Oper.upon];exact .inl h
  |false=>have:=hB rfl;subst this;simp only[Bool.false_eq_true,if_false];exact h
 induction fuel with
 |zero =>
  intro L a w _ hr E W hX hB H
  refine⟨fun h=>(by rw[h] at hr;cases hr),fun j hj=>?_⟩
  by_cases hji:j=i
  ·subst hji;exact run E W hX hB ⟨Agr.refl _ _,H⟩
  ·have:=ready_mono hj hji
   rw[H.1] at this
   cases this
 |succ fuel ih =>
  intro L a w hfree hr E W hX hB H
  refine⟨fun h=>(by rw[h] at hr;cases hr),fun j hj=>?_⟩
  by_cases hji:j=i
  ·subst hji;exact run E W hX hB ⟨Agr.refl _ _,H⟩
  ·have h1:=H.2 j (ready_mono hj hji)
   obtain⟨hjun,oj,hoj,hall⟩:=mem_ready.1 hj
   have hnot:∀e∈oj.after,Region.binds .any e=true→e.on≠i:=fun e he hb heq=>by
    have h1:=hall e he hb
    have h0:=(mem_ready.1 hr).1
    rw[heq] at h1
    rcases Nat.lt_or_ge i L.size with h'|h'
    ·simp[h'] at h0 h1;rw[h0] at h1;cases h1
    ·simp[Array.getElem?_eq_none h'] at h1
   have hj2:=hfree j oj hoj hji hjun hnot
   have h2:=AD5 hoj hj2.1 (fun cs b=>hsel i oi cs b hi) (fun cs b=>hsel j oj cs b hoj) hQ E W h1
   have hfree':∀k ok,ops[k]?=some ok→k≠i→(L.setIfInBounds j true).getD k true=false →
     (∀e∈ok.after,Region.binds .any e=true→e.on≠i)→oi.apart ops ok=true∧∀x,M k x→N x:=fun k ok hk hki hun hno=>by
    refine hfree k ok hk hki ?_ hno
    by_cases hjk:j=k
    ·subst hjk;exact hjun
    ·rw[getD_set_ne true hjk] at hun;exact hun
   refine wpOp_mono (fun a' w' h3=>⟨h3.2.1,ih (L.setIfInBounds j true) a' w' hfree' (ready_mono hr (Ne.symm hji)) h3.1.1 h3.1.2 (fun e w'' hw''=>hX e w'' ((h3.2.1.mono fun k _ hk=>hj2.2 k hk).trans hw'')) hB ?_⟩) h2
   rw[Array.setIfInBounds_comm _ _ hji]
   exact h3.2.2
end
def MW(N:Nat→Prop)(Wr:List Nat)(B:Nat)(j k:Nat):Prop:=(Wr.contains j=true∧N k)∨B≤k
def RD(P:Program)(n:Cx)(l:List Oper)(N:Nat→Prop)(Wr:List Nat)(B:Nat)(L:Array Bool)(f:Nat)(F:List (Nat × Value))(w:World)(p:Post):Prop:=∀a,Knows n F a→WA P l.toArray p.q (MW N Wr B) f L a w
def AMn(l:List Oper)(Wr:List Nat)(L:Array Bool)(i:Nat):Bool :=
 Wr.all fun j=>L.getD j true||match l[j]? with|some o=>o.after.any (fun e=>Region.binds .any e&&e.on==i)|none=>true

section
variable {P:Program} {n:Cx} {F:List (Nat × Value)} {w:World} {p:Post} {l:List Oper} {N:Nat→Prop} {Wr:List Nat} {B:Nat} {L:Array Bool} {f:Nat} {d:Option Tmp} {o:Op} {t:TypeId} {pos:String} {af:Array Edge} {g:Option (Nat × Bool)}
theorem Bs{id ops}(N:Nat→Prop)(Wr:List Nat)(B m:Nat)(hl:ops=List.toArray l)(hn:l.length=m)(hm:P.follows .mixedOrders=true)(h:∀w',Sub w w'→RD P n l N Wr B (Array.replicate m false) m F w' p)(hR:n.round=none:=by rfl):RC P n (.region id ops true) F w p:=by
 intro a k
 rw[Gc hR]
 subst hl
 subst hn
 refine wp_region_any hm (WA.any (M:=MW N Wr B) _ _ _ _ ?_)
 have:=h {w with drawn:=w.drawn+1} ⟨rfl,rfl,rfl,Nat.le_refl _,fun _ _=>rfl⟩ a k
 simpa using this
theorem AIZ{v}(i:Nat)(hi:l[i]?=some ⟨d,o,t,pos,af,g⟩)(hs:Region.noSelect l.toArray=true)(hf:Region.free .any l.toArray L i=true)(hr:(Region.ready .any l.toArray L).contains i=true)
  (he:∀w',Agr (fun k=>N k∨B≤k) w w'→EvOp P F o w' v) (hg:Ed l.toArray F g=some true) (hd:inB d n=true) (h:RD P n l N Wr B (L.setIfInBounds i true) f (upd F d v) w p):RD P n l N Wr B L (f+1) F w p:=by
 intro a k
 have hi':l.toArray[i]?=some ⟨d,o,t,pos,af,g⟩:=by simpa using hi
 refine Vw (N:=fun k=>N k∨B≤k) hi' (Region.noSelect_spec hs) (fun c a w h=>h) f L a w (fun j oj h1 h2 h3 h4=>⟨Region.free_spec hi' hf j oj h1 h2 h3 h4,fun k hk=>hk.imp And.right id⟩) (by simpa using hr) rfl (Eo k hg) (fun _ w' hw'=>?_) (fun e=>by cases e) (h _ (k.upd d v hd))
 exact he w' hw' d t pos af g _ k.agrees w' (Ax _)
theorem Fq{v}(i:Nat)(hi:l[i]?=some ⟨d,o,t,pos,af,g⟩)(hs:Region.noSelect l.toArray=true)(hf:Region.free .any l.toArray L i=true)(hr:(Region.ready .any l.toArray L).contains i=true)(hw:AMn l Wr L i=true)
  (he:∀w',Agr (fun k=>B≤k) w w'→EvOp P F o w' v) (hg:Ed l.toArray F g=some true) (hd:inB d n=true) (h:RD P n l N Wr B (L.setIfInBounds i true) f (upd F d v) w p):RD P n l N Wr B L (f+1) F w p:=by
 intro a k
 have hi':l.toArray[i]?=some ⟨d,o,t,pos,af,g⟩:=by simpa using hi
 refine Vw (N:=fun k=>B≤k) hi' (Region.noSelect_spec hs) (fun c a w h=>h) f L a w (fun j oj h1 h2 h3 h4=>⟨Region.free_spec hi' hf j oj h1 h2 h3 h4,fun k hk=>hk.elim (fun hk=>?_) id⟩) (by simpa using hr) rfl (Eo k hg) (fun _ w' hw'=>?_) (fun e=>by cases e) (h _ (k.upd d v hd))
 ·have hc:=hk.1
  have:=List.all_eq_true.1 hw j (by simpa using hc)
  have hlj:l[j]?=some oj:=by simpa using h1
  simp only[h3,Bool.false_or,hlj] at this
  obtain⟨e,he1,he2⟩:=Array.any_eq_true'.1 this
  simp only[Bool.and_eq_true,beq_iff_eq] at he2
  exact absurd he2.2 (h4 e he1 he2.1)
 ·exact he w' hw' d t pos af g _ k.agrees w' (Ax _)
theorem ACx(i:Nat)(hi:l[i]?=some ⟨d,o,t,pos,af,g⟩)(hs:Region.noSelect l.toArray=true)(hf:Region.free .any l.toArray L i=true)(hr:(Region.ready .any l.toArray L).contains i=true)
  (hg:Ed l.toArray F g=some false) (hd:inB d n=true) (h:RD P n l N Wr B (L.setIfInBounds i true) f (upd F d undef) w p):RD P n l N Wr B L (f+1) F w p:=by
 intro a k
 have hi':l.toArray[i]?=some ⟨d,o,t,pos,af,g⟩:=by simpa using hi
 exact Vw (N:=fun k=>N k∨B≤k) hi' (Region.noSelect_spec hs) (fun c a w h=>h) f L a w (fun j oj h1 h2 h3 h4=>⟨Region.free_spec hi' hf j oj h1 h2 h3 h4,fun k hk=>hk.imp And.right id⟩) (by simpa using hr) rfl (Eo k hg) (fun e=>by cases e) (fun _=>rfl) (h _ (k.upd d undef hd))
theorem ABm{q:Prop}[Decidable q](s:Nat)(hs:Hx F s=some (.bool (decide q)))(hy:q→RD P n l N Wr B L f ((s,.bool true)::F) w p)(hn:¬q→RD P n l N Wr B L f ((s,.bool false)::F) w p):RD P n l N Wr B L f F w p:=by
 intro a k
 have key:∀b,decide q=b→Knows n ((s,.bool b)::F) a:=fun b e=>⟨k.size,k.defers,fun t v ht=>by
  rw[Ep] at ht
  by_cases e':s=t
  ·subst e';simp at ht;subst ht;exact e▸k.slot s _ hs
  ·simp[e'] at ht;exact k.slot t v ht⟩
 by_cases h:q
 ·exact hy h a (key true (decide_eq_true h))
 ·exact hn h a (key false (decide_eq_false h))
def RDs(P:Program)(n:Cx)(l:List Oper)(N:Nat→Prop)(Wr:List Nat)(B:Nat)(L:Array Bool)(f:Nat)(is:List Nat)(F:List (Nat × Value))(w:World)(p:Post):Prop :=
 ∀i∈is,∀a,Knows n F a→wpOp P l.toArray p.q i (fun a' w'=>Agr (MW N Wr B i) w w'∧WA P l.toArray p.q (MW N Wr B) f (L.setIfInBounds i true) a' w') a w
theorem Ej(is:List Nat)(hr:Region.ready .any l.toArray L=is)(hne:is.isEmpty=false)(h:RDs P n l N Wr B L f is F w p):RD P n l N Wr B L (f+1) F w p:=fun a k =>
 ⟨fun e=>(by rw[e] at hr;subst hr;cases hne),fun i hi=>h i (hr▸hi) a k⟩
theorem Do:RDs P n l N Wr B L f [] F w p:=fun i hi=>by cases hi
theorem Ca{i is o}(hi:l[i]?=some o)(h:RL P n l.toArray [o] F w (p.to fun a w'=>Agr (MW N Wr B i) w w'∧WA P l.toArray p.q (MW N Wr B) f (L.setIfInBounds i true) a w'))(hs:RDs P n l N Wr B L f is F w p)(hR:n.round=none:=by rfl):RDs P n l N Wr B L f (i::is) F w p:=by
 intro j hj a k
 rcases List.mem_cons.1 hj with rfl|hj
 ·have:=h a k
  rw[Im hR] at this
  simp only[wpList] at this
  unfold wpOp
  have hi':l.toArray[j]?=some o:=by simpa using hi
  simp only[hi']
  split
  ·rename_i hw
   simp only[hw,if_true] at this
   rcases this with this|⟨ha,hl⟩
   ·refine .inl ?_
    unfold Oper.wp at *
    generalize (execOp a.eval o).run P w=r at *
    cases r with
    |ok n w' =>
     cases n<;>simp only[Oper.upon] at this ⊢ <;>
      first
       |exact this
       |exact Calls.mono this (fun e w'' he=>by cases e<;>exact he)
       |exact Rows.mono this (fun _ _ he=>he)
    |halt x w'=>cases x<;>simp only[Oper.upon] at this ⊢ <;> exact this
   ·exact .inr ⟨ha,hl⟩
  ·rename_i hw
   simp only[hw] at this
   exact this
 ·exact hs j hj a k
theorem Be{ops:Array Oper}{i F' w'}(hA:Agr (fun k=>B≤k) w w')(h:RD P n l N Wr B L f F' w' p):RL P n ops [] F' w' (p.to fun a w''=>Agr (MW N Wr B i) w w''∧WA P l.toArray p.q (MW N Wr B) f L a w'') :=
 Ae fun a k=>⟨hA.mono fun k _ hk=>.inr hk,h a k⟩
theorem Cv{ops:Array Oper}{i F' w'}(hi:Wr.contains i=true)(hA:Agr (fun k=>N k∨B≤k) w w')(h:RD P n l N Wr B L f F' w' p):RL P n ops [] F' w' (p.to fun a w''=>Agr (MW N Wr B i) w w''∧WA P l.toArray p.q (MW N Wr B) f L a w'') :=
 Ae fun a k=>⟨hA.mono fun k _ hk=>hk.imp (fun h=>⟨hi,h⟩) id,h a k⟩
theorem Fb(hr:Region.ready .any l.toArray L=[])(h:∀a,Knows n F a→p.nrm a w):RD P n l N Wr B L f F w p:=fun a k=>by
 cases f with
 |zero=>exact⟨hr,h a k⟩
 |succ f=>exact⟨fun _=>h a k,by rw[hr];simp⟩

theorem Sub.agrN{w0 w':World}(s:Sub w0 w)(a:Agr N w w')(hN:∀k,N k→w0.heap.size≤k):Sub w0 w' :=
 ⟨a.os.trans s.os,a.tape.trans s.tape,a.output.trans s.output,Nat.le_trans s.size a.size,fun k hk=>(a.block k (Nat.lt_of_lt_of_le hk s.size) (fun e=>Nat.not_le.2 hk (hN k e))).trans (s.block k hk)⟩
theorem Hi{c y}{α:Type}(G:α→List (Nat × Value))(I:α→World→Prop)(h:RC P n c F w (p.to fun a w'=>∃x,I x w'∧Knows n (G x) a))(k:∀x w',I x w'→RC P n y (G x) w' p):RC P n (.seq c y) F w p :=
 Ac fun a ka=>AGs (h a ka) fun e a' w' hq=>by
  cases e with
  |normal=>obtain⟨x,h1,h2⟩:=hq;exact k x w' h1 a' h2
  |_=>exact hq
end
def OwnC(base:Nat)(w:World)(e:TypeId)(sz:Nat)(v:Value)(rows:List (List Value)):Prop :=
 Ows base w e sz v rows∨∃a,v=.slice a rows.length rows.length∧Sl w a sz rows∧∀r∈rows,r.length=sz
theorem OwnC.form{base w e sz v rows}(h:OwnC base w e sz v rows):∃a c,v=.slice a rows.length c∧rows.length≤c∧Sl w a sz rows:=by
 rcases h with h|⟨a,rfl,h,_⟩
 ·obtain⟨a,c,rfl,hc⟩:=h.form
  exact⟨a,c,rfl,hc,h.sl.1⟩
 ·exact⟨a,_,rfl,Nat.le_refl _,h⟩
theorem Ows.ge{base w e sz v rows}(h:Ows base w e sz v rows):∀k,ob v=some k→base≤k∧k<w.heap.size:=h.own.lt
def OwnZ(base:Nat)(w:World)(e:TypeId)(sz:Nat)(v:Value)(rows:List (List Value))(v0:Value)(rows0:List (List Value)):Prop:=Ows base w e sz v rows∨(v=v0∧rows=rows0)
theorem OwnZ.sub{base w e sz v rows v0 rows0 w'}(h:OwnZ base w e sz v rows v0 rows0)(s:Sub w w'):OwnZ base w' e sz v rows v0 rows0:=h.imp (·.sub s) id
theorem OwnZ.upd{base w e sz v rows v0 rows0 w' b}(h:OwnZ base w e sz v rows v0 rows0)(a:Agr (· = b) w w')(hb:b<base):OwnZ base w' e sz v rows v0 rows0:=h.imp (·.upd a hb) id
theorem OwnZ.c{base w e sz v rows v0 rows0 a}(h:OwnZ base w e sz v rows v0 rows0)(h0:v0=.slice a rows0.length rows0.length)(hs:Sl w a sz rows0)(hl:∀r∈rows0,r.length=sz):OwnC base w e sz v rows:=by
 rcases h with h|⟨rfl,rfl⟩
 ·exact .inl h
 ·exact .inr ⟨a,h0,hs,hl⟩

theorem Ows.neNew{base w e sz v rows b}(h:Ows base w e sz v rows)(hb:b=w.heap.size):∀k,ob v=some k→k≠b:=fun k hk e'=>absurd (h.ge k hk).2 (by omega)
theorem Ows.updD{base w e sz v rows w' b}(h:Ows base w e sz v rows)(a:Agr (· = b) w w')(d:∀k,ob v=some k→k≠b):Ows base w' e sz v rows:=h.step a d
theorem Ng{w:World}{v v':Value}{b:Nat}(h:ob v'=ob v∨∃c,ob v'=some c∧w.heap.size≤c)(d:∀k,ob v=some k→k≠b)(hb:b<w.heap.size):∀k,ob v'=some k→k≠b:=by
 intro k hk
 rcases h with h|⟨c,h1,h2⟩
 ·exact d k (h▸hk)
 ·rw[h1] at hk;cases hk;omega
section
variable {P:Program} {n:Cx} {F:List (Nat × Value)} {w:World} {p:Post} {ops:Array Oper} {rest:List Oper} {d:Option Tmp} {t:TypeId} {pos:String} {af:Array Edge} {g:Option (Nat × Bool)}
theorem Ud{ty t e:TypeId}{i:TypeInfo}(h1:P.underlying ty=some (.slice e))(h2:P.info? e=some i){b ax:Option Addr}{k c c':Nat}(hk:k≤c):
  (Builtin.append_ #[ty,ty] t #[.slice b k c,.slice ax 0 c']).run P w=.ok (.slice b k c) w:=by
 have hf:(Builtin.firstCells i.size 0 (.slice ax 0 c')).run P w=.ok #[] w:=by
  cases ax<;>simp[Builtin.firstCells,loadCells,loadCellsFrom,pure,Sem.run]
 cases b with
 |none=>simp[Builtin.append_,Go.run_underlying h1,sizeOf,typeInfo,h2,Builtin.lenOf,hf,hk]
 |some a=>simp[Builtin.append_,Go.run_underlying h1,sizeOf,typeInfo,h2,Builtin.lenOf,hf,hk,storeCells]

theorem De{ty y x v ax m c e s by_ z base rows news}(ht:sliceOf P ty=some (e,s,by_))(hz:zeroOf P e=some z)(hzs:z.cells.size=s)(hs:Nat.blt 0 s=true)(hy:XL.ev F y=some v)(hx:XL.ev F x=some (.slice ax m c))
  (hown:OwnC base w e s v rows) (hnew:Sl w ax s news) (hm:m=news.length) (hnl:∀r∈news,r.length=s) (hp:news.all (fun r=>r.all Gj)=true) (hlen:(rows.length+m)*by_≤140737488355328) (hlen':rows.length+m≤140737488355328) (hbase:base≤w.heap.size) (hg:Ed ops F g=some true) (hd:inB d n=true)
  (h:∀v' w',OwnC base w' e s v' (rows++news)→(news≠[]∨Ows base w e s v rows→Ows base w' e s v' (rows++news))→Agr (fun k=>ob v=some k∧base≤k) w w'→(ob v'=ob v∨∃b,ob v'=some b∧w.heap.size≤b)→RL P n ops rest (upd F d v') w' p):RL P n ops (⟨d,.call ⟨.builtin .append,#[y,x],#[ty,ty]⟩,t,pos,af,g⟩::rest) F w p:=by
 have hs':0<s:=by simpa using hs
 obtain⟨h1,i,h2,h3,h4⟩:=Dk ht
 obtain⟨i',hi',hzz⟩:=Hf hz
 rw[h2] at hi';cases hi'
 by_cases hn0:news=[]
 ·subst hn0
  have hm0:m=0:=hm
  subst hm0
  obtain⟨b,k,rfl,hk,_⟩:=hown.form
  refine Kf hg hd (v:=.slice b rows.length k) (w':=w) (fun ρ hρ=>?_) (h _ _ (by rw[List.append_nil];exact hown) (by rw[List.append_nil];exact fun h=>h.resolve_left (fun h=>h rfl)) (Agr.refl _ _) (.inl rfl))
  simp only[execOp,resolve,hρ y _ hy,hρ x _ hx,bind,Sem.bind,pure,invoke,builtin,List.map_toArray,List.map_cons,List.map_nil]
  have:=run_bind (P:=P) (Builtin.append_ #[ty,ty] t #[.slice b rows.length k,.slice ax 0 c]) (fun v=>(Sem.pure (Next.value v):Sem Next)) w
  rw[Ud h1 h2 hk] at this
  exact this
 ·obtain⟨a,rfl⟩:∃a,ax=some a:=Option.isSome_iff_exists.1 (hnew.some hn0)
  have go:Ows base w e s v rows→RL P n ops (⟨d,.call ⟨.builtin .append,#[y,x],#[ty,ty]⟩,t,pos,af,g⟩::rest) F w p:=fun ho =>
   AE2 ht hz hzs hs hy hx ho hnew hm hnl hp hlen hlen' hbase hg hd fun v' w' h1 h2 h3 =>
    h v' w' (.inl h1) (fun _=>h1) ⟨h2.os,h2.tape,h2.output,h2.size,fun k hk hn=>h2.block k hk (fun e=>hn ⟨e,(ho.ge k e).1⟩)⟩ h3
  rcases hown with hown|⟨a0,rfl,hsl,hl⟩
  ·exact go hown
  ·by_cases h0:a0=none
   ·subst h0
    have:rows=[]:=by
     refine Classical.byContradiction fun e=>?_
     have:=hsl.some e
     simp at this
    subst this
    exact go (Ows.nil _ _ _ _)
   ·obtain⟨b0,rfl⟩:=Option.ne_none_iff_exists'.1 h0
    have cellsOf:∀(ad:Addr) (l:List (List Value)),(∀r∈l,r.length=s)→Sl w (some ad) s l→∀j u,l.flatten[j]?=some u→w.cell? (ad.add j)=some u:=by
     intro ad l hll hsl j u hj
     have hjl:j<l.length*s:=by
      rw[←Cy l hll]
      rcases Nat.lt_or_ge j l.flatten.length with q|q
      ·exact q
      ·rw[List.getElem?_eq_none q] at hj;cases hj
     have hd':j/s<l.length:=(Nat.div_lt_iff_lt_mul hs').2 hjl
     have hmod:j%s<s:=Nat.mod_lt _ hs'
     have ej:j=(j/s)*s+j%s:=by rw[Nat.mul_comm];exact(Nat.div_add_mod j s).symm
     obtain⟨r,hr⟩:∃r,l[j/s]?=some r:=⟨_,List.getElem?_eq_getElem hd'⟩
     have hf:=Ip l hll (j/s) (j%s) r hr hmod
     rw[←ej,hj] at hf
     have hc:=hsl.row (j/s) r hr (j%s) u hf.symm
     simp only[Option.getD_some] at hc
     rw[←hc]
     congr 1
     rw[ej]
     obtain⟨bb,oo,sp⟩:=ad
     unfold Addr.add
     by_cases q1:(j/s)*s=0
     ·rw[←ej]
      by_cases q2:j%s=0
      ·rw[if_pos (by omega),if_pos q1,if_pos q2]
      ·rw[if_neg (by omega),if_pos q1,if_neg q2];simp only;congr 2;omega
     ·rw[←ej]
      by_cases q2:j%s=0
      ·rw[if_neg (by omega),if_neg q1,if_pos q2];congr 1;omega
      ·rw[if_neg (by omega),if_neg q1,if_neg q2];simp only;congr 1;omega
    subst hm
    have hnl0:0<news.length:=by cases news with|nil=>exact absurd rfl hn0|cons _ _=>simp
    have hml:rows.length+news.length≤maxLen:=by unfold maxLen;omega
    have hfo:rows.flatten.length=rows.length*s:=Cy rows hl
    have hfn:news.flatten.length=news.length*s:=Cy news hnl
    have hr:=run_append_grow (P:=P) w ty t e i z h1 h2 hzz b0 rows.length rows.length rows.flatten (by rw[hfo,h3]) (cellsOf b0 rows hl hsl) a news.length c news.flatten (by rw[hfn,h3]) (cellsOf a news hnl hnew) (by omega) (by omega) (growslice_fits (by omega) (by rw[h4];exact hlen))
    have hge:=grownCap_ge w (rows.length+news.length) rows.length e
    have hcm:=grownCap_le_maxLen w (rows.length+news.length) rows.length e hml
    have hfl:(rows++news).flatten=rows.flatten++news.flatten:=List.flatten_append
    have hrl:(rows++news).length=rows.length+news.length:=List.length_append
    generalize hw0:w.drew.alloc (.cells (rows.flatten.toArray++news.flatten.toArray++Builtin.zeroCells z.cells (grownCap w (rows.length+news.length) rows.length e-(rows.length+news.length))) e)=w0 at hr
    have ho:Ows base w0 e s (.slice (some ⟨w.heap.size,0,none⟩) (rows.length+news.length) (grownCap w (rows.length+news.length) rows.length e)) (rows++news):=by
     subst hw0
     refine⟨⟨by rw[hfl,hrl,List.length_append,hfo,hfn,Nat.add_mul],.inr ⟨w.heap.size,_,_,by rw[hrl],hbase,heap_alloc_new w.drew _,by rw[hrl];exact hge,hcm,?_,?_⟩⟩,fun r hr=>(List.mem_append.1 hr).elim (hl r) (hnl r)⟩
     ·simp only[Array.size_append,List.size_toArray,size_zeroCells,hzs,hfo,hfn,←Nat.add_mul]
      congr 1
      omega
     ·simp only[Array.toList_append,List.append_assoc]
      rw[hrl,hfl,←List.append_assoc,show(rows.length+news.length)*s=(rows.flatten++news.flatten).length by rw[List.length_append,hfo,hfn,Nat.add_mul]]
      exact List.take_left
    have ha:Agr (fun _=>False) w w0:=by
     subst hw0
     exact⟨rfl,rfl,rfl,by simp,fun k hk _=>Ei w.drew _ hk⟩
    refine Kf hg hd (v:=.slice (some ⟨w.heap.size,0,none⟩) (rows.length+news.length) (grownCap w (rows.length+news.length) rows.length e)) (w':=w0) (fun ρ hρ=>?_) (h _ _ (.inl ho) (fun _=>ho) (ha.mono fun k _ e=>e.elim) (.inr ⟨_,rfl,Nat.le_refl _⟩))
    simp only[execOp,resolve,hρ y _ hy,hρ x _ hx,bind,Sem.bind,pure,invoke,builtin,List.map_toArray,List.map_cons,List.map_nil]
    have:=run_bind (P:=P) (Builtin.append_ #[ty,ty] t #[.slice (some b0) rows.length rows.length,.slice (some a) news.length c]) (fun v=>(Sem.pure (Next.value v):Sem Next)) w
    rw[hr] at this
    exact this
end
def HasM(w:World)(b:Nat)(q:IntKind)(f:Int→Option Value):Prop :=
 ∃es clock,w.heap[b]?=some (.map es clock)∧Go.MapKept.Stamped es clock∧(∀x∈es.toList,Go.MapKept.IsKey (.int q) x.key)∧∀a v,f a=some v↔∃x∈es.toList,x.key=.int q a∧x.val=v
theorem HasM.lt{w b q f}(h:HasM w b q f):b<w.heap.size:=by
 obtain⟨es,c,h,_⟩:=h
 rcases Nat.lt_or_ge b w.heap.size with g|g
 ·exact g
 ·rw[Array.getElem?_eq_none g] at h;cases h
theorem HasM.step{N:Nat→Prop}{w w' b q f}(h:HasM w b q f)(k:Agr N w w')(hn:¬N b):HasM w' b q f:=by
 obtain⟨es,c,h1,h2⟩:=id h
 exact⟨es,c,(k.block b h.lt hn).trans h1,h2⟩
theorem HasM.sub{w w' b q f}(h:HasM w b q f)(k:Sub w w'):HasM w' b q f:=h.step (N:=fun _=>False) k.agr id
theorem HasM.upd{w w' b b' q f}(h:HasM w b q f)(a:Agr (· = b') w w')(hn:b≠b'):HasM w' b q f:=h.step a hn
theorem HasM.ne{w b q f b'}(h:HasM w b q f)(hb:b'=w.heap.size):b≠b':=fun e=>by have:=h.lt;omega

section
variable {P:Program} {n:Cx} {F:List (Nat × Value)} {w:World} {p:Post} {ops:Array Oper} {rest:List Oper} {d:Option Tmp} {t:TypeId} {pos:String} {af:Array Edge} {g:Option (Nat × Bool)}
theorem Mb{q:IntKind}{f:Int→Option Value}{a:Int}{es:Array MapEntry}(hk:∀x∈es.toList,Go.MapKept.IsKey (.int q) x.key)(hf:∀a v,f a=some v↔∃x∈es.toList,x.key=.int q a∧x.val=v):
  (Instr.findNow (.int q) (.int q a) es.toList 0=some none∧f a=none∧∀x∈es.toList,x.key≠.int q a)∨∃j e,Instr.findNow (.int q) (.int q a) es.toList 0=some (some (j,e.val))∧es[j]?=some e∧e.key=.int q a∧f a=some e.val:=by
 rcases Go.MapKept.findNow_spec (d:=.int q) (k:=.int q a) (by simp[Go.MapKept.IsKey]) es.toList 0 hk with⟨h1,h2⟩|⟨j,e,h1,h2,h3⟩
 ·refine .inl ⟨h1,?_,h2⟩
  cases hq:f a with
  |none=>rfl
  |some v=>obtain⟨x,hx,hxk,_⟩:=(hf a v).1 hq;exact absurd hxk (h2 x hx)
 ·exact .inr ⟨j,e,by simpa using h1,by simpa using h2,h3,(hf a e.val).2 ⟨e,List.mem_of_getElem? h2,h3,rfl⟩⟩

theorem EvOp.lookup{ty m x kt et q z b a}{f:Int→Option Value}(hm:P.underlying ty=some (.map kt et))(hd:P.underlying kt=some (.int q))(hz:zeroOf P et=some z)(hx:XL.ev F m=some (.map (some b)))(hk:XL.ev F x=some (.int q a))(h:HasM w b q f):
  EvOp P F (.lookup ty m x false) w ((f a).getD z):=fun _ _ _ _ _ ρ hρ w' s=>by
 obtain⟨es,c,h1,h2,h3,h4⟩:=h.sub s
 simp only[execOp,hρ m _ hx,hρ x _ hk]
 refine Fj _ ?_
 have hck:=Go.MapKept.run_checkKey (P:=P) (w:=w') (k:=.int q a) hd (by simp[Go.MapKept.IsKey]) es.isEmpty 9999
 rcases Mb (a:=a) h3 h4 with⟨g1,g2,_⟩|⟨j,e,g1,g2,g3,g4⟩
 ·simp[Instr.lookup,Go.run_underlying hm,Go.MapKept.run_getObj_map h1,hck,Go.MapKept.run_findKey hd g1,Result.andThen,Ir hz,g2]
 ·simp[Instr.lookup,Go.run_underlying hm,Go.MapKept.run_getObj_map h1,hck,Go.MapKept.run_findKey hd g1,Result.andThen,g4]
theorem Xf{ty}(q:IntKind)(hg:Ed ops F g=some true)(hd:inB d n=true)
  (h:∀b w',b=w.heap.size→w'.heap.size=b+1→HasM w' b q (fun _=>none)→Sub w w'→RL P n ops rest (upd F d (.map (some b))) w' p):RL P n ops (⟨d,.makeMap ty none,t,pos,af,g⟩::rest) F w p:=by
 refine Kf hg hd (w':=w.alloc (.map #[] 0)) (fun ρ hρ=>?_) (h _ _ rfl (by simp) ⟨#[],0,heap_alloc_new w _,Go.MapKept.stamped_empty 0,by simp,fun a v=>by simp⟩ ⟨rfl,rfl,rfl,by simp,fun k hk=>Ei w _ hk⟩)
 simp only[execOp]
 refine Fj _ ?_
 simp[Instr.makeMap,Result.andThen]
theorem AAs{ty m x y kt et q v b a}{f:Int→Option Value}(hm:P.underlying ty=some (.map kt et))(hd:P.underlying kt=some (.int q))(hx:XL.ev F m=some (.map (some b)))(hk:XL.ev F x=some (.int q a))(hy:XL.ev F y=some v)(hb:HasM w b q f)(hg:Ed ops F g=some true)
  (h:∀w',w'.heap.size=w.heap.size→HasM w' b q (fun i=>if i=a then some v else f i)→Agr (· = b) w w'→RL P n ops rest F w' p):RL P n ops (⟨none,.mapUpdate ty m x y,t,pos,af,g⟩::rest) F w p:=by
 obtain⟨es,c,h1,h2,h3,h4⟩:=hb
 have hck:=Go.MapKept.run_checkKey (P:=P) (w:=w) (k:=.int q a) hd (by simp[Go.MapKept.IsKey]) false 9999
 have agr:∀o,Agr (· = b) w {w with heap:=w.heap.setIfInBounds b o}:=fun o=>⟨rfl,rfl,rfl,by simp,fun k _ hk=>(Go.MapKept.heap_set h1).2 k hk⟩
 rcases Mb (a:=a) h3 h4 with⟨g1,g2,g3⟩|⟨j,e,g1,g2,g3,g4⟩
 ·refine Kn hg (w':={w with heap:=w.heap.setIfInBounds b (.map (es.push ⟨.int q a,v,c⟩) (c+1))}) (fun ρ hρ=>?_) (h _ (by simp) ⟨_,_,(Go.MapKept.heap_set h1).1,Go.MapKept.stamped_push h2 g3,?_,?_⟩ (agr _))
  ·simp only[execOp,hρ m _ hx,hρ x _ hk,hρ y _ hy]
   simp[Instr.mapUpdate,Go.run_underlying hm,Go.MapKept.run_getObj_map h1,hck,Go.MapKept.run_findKey hd g1,Go.MapKept.run_setObj_map _ h1,Result.andThen]
  ·intro z hz
   simp only[Array.toList_push,List.mem_append,List.mem_singleton] at hz
   rcases hz with hz|rfl
   ·exact h3 z hz
   ·simp[Go.MapKept.IsKey]
  ·intro i u
   simp only[Array.toList_push,List.mem_append,List.mem_singleton]
   by_cases hi:i=a
   ·subst hi
    simp only[if_true,Option.some.injEq]
    constructor
    ·rintro rfl;exact⟨_,.inr rfl,rfl,rfl⟩
    ·rintro⟨z,hz|rfl,hz2,hz3⟩
     ·exact absurd hz2 (g3 z hz)
     ·exact hz3
   ·rw[if_neg hi,h4]
    constructor
    ·rintro⟨z,hz,hz2⟩;exact⟨z,.inl hz,hz2⟩
    ·rintro⟨z,hz|rfl,hz2,hz3⟩
     ·exact⟨z,hz,hz2,hz3⟩
     ·simp at hz2;exact absurd hz2.symm hi
 ·have hkey:∀e',es[j]?=some e'→({e' with key:=.int q a,val:=v}:MapEntry).key=e'.key:=fun e' he'=>by rw[g2] at he';cases he';exact g3.symm
  have hmem:∀z,z∈(es.modify j fun e=>{key:=.int q a,val:=v,born:=e.born}).toList↔(z={key:=.int q a,val:=v,born:=e.born})∨(z∈es.toList∧z.key≠.int q a):=by
   intro z
   have hnd:=h2.2.2
   have hgj:(es.modify j fun e=>({key:=.int q a,val:=v,born:=e.born}:MapEntry)).toList[j]?=some {key:=.int q a,val:=v,born:=e.born}:=by
    rw[Array.getElem?_toList,Array.getElem?_modify,if_pos rfl,g2];rfl
   constructor
   ·intro hz
    obtain⟨k,hk'⟩:=List.getElem?_of_mem hz
    by_cases hjk:j=k
    ·subst hjk;rw[hgj] at hk';cases hk';exact .inl rfl
    ·rw[Array.getElem?_toList,Array.getElem?_modify,if_neg hjk] at hk'
     refine .inr ⟨List.mem_of_getElem? (i:=k) (by rw[Array.getElem?_toList];exact hk'),fun hz2=>hjk ?_⟩
     have hl:j<(es.toList.map (·.key)).length:=by
      rw[List.length_map,Array.length_toList]
      exact(Array.getElem?_eq_some_iff.1 g2).1
     refine(List.getElem?_inj hl hnd).1 ?_
     simp[g2,hk',g3,hz2]
   ·rintro(rfl|⟨hz,hne⟩)
    ·exact List.mem_of_getElem? hgj
    ·obtain⟨k,hk'⟩:=List.getElem?_of_mem hz
     have hjk:¬j=k:=fun e'=>by subst e';rw[Array.getElem?_toList,g2] at hk';cases hk';exact hne g3
     refine List.mem_of_getElem? (i:=k) ?_
     rw[Array.getElem?_toList,Array.getElem?_modify,if_neg hjk,←Array.getElem?_toList];exact hk'
  refine Kn hg (w':={w with heap:=w.heap.setIfInBounds b (.map (es.modify j fun e=>{key:=.int q a,val:=v,born:=e.born}) c)}) (fun ρ hρ=>?_) (h _ (by simp) ⟨_,_,(Go.MapKept.heap_set h1).1,Go.MapKept.stamped_modify h2 _ _ (fun _ _=>rfl) (fun e' _ he'=>hkey e' he'),Go.MapKept.isKey_modify h3 _ _ hkey,?_⟩ (agr _))
  ·simp only[execOp,hρ m _ hx,hρ x _ hk,hρ y _ hy]
   simp[Instr.mapUpdate,Go.run_underlying hm,Go.MapKept.run_getObj_map h1,hck,Go.MapKept.run_findKey hd g1,g2,g3,Go.MapKept.run_keyThatStays (d:=.int q) (k:=.int q a) (by simp[Go.MapKept.IsKey]),Go.MapKept.run_setObj_map _ h1,Result.andThen]
  ·intro i u
   by_cases hi:i=a
   ·subst hi
    simp only[if_true,Option.some.injEq]
    constructor
    ·rintro rfl;exact⟨_,(hmem _).2 (.inl rfl),rfl,rfl⟩
    ·rintro⟨z,hz,hz2,hz3⟩
     rcases(hmem z).1 hz with rfl|⟨_,h⟩
     ·exact hz3
     ·exact absurd hz2 h
   ·show(if i=a then some v else f i)=some u↔_
    rw[if_neg hi,h4]
    constructor
    ·rintro⟨z,hz,hz2,hz3⟩
     exact⟨z,(hmem z).2 (.inr ⟨hz,by rw[hz2];simp[hi]⟩),hz2,hz3⟩
    ·rintro⟨z,hz,hz2,hz3⟩
     rcases(hmem z).1 hz with rfl|⟨h,_⟩
     ·simp at hz2;exact absurd hz2.symm hi
     ·exact⟨z,h,hz2,hz3⟩
end
end Go.XL
namespace Go.XL
open Go
section
variable {P:Program} {n:Cx} {F:List (Nat × Value)} {w:World} {p:Post} {l:List Oper} {N:Nat→Prop} {Wr:List Nat} {B:Nat} {L:Array Bool} {f:Nat} {d:Option Tmp} {o:Op} {t:TypeId} {pos:String} {af:Array Edge} {g:Option (Nat × Bool)}
def tkB(l:List Oper)(L:Array Bool)(i:Nat):Bool:=Region.noSelect l.toArray&&(Region.free .any l.toArray L i&&(Region.ready .any l.toArray L).contains i)
theorem Lo{i:Nat}(h:tkB l L i=true):Region.noSelect l.toArray=true∧Region.free .any l.toArray L i=true∧(Region.ready .any l.toArray L).contains i=true:=by
 unfold tkB at h
 rw[Bool.and_eq_true,Bool.and_eq_true] at h
 exact h
theorem Jn{v}(i:Nat)(hi:l[i]?=some ⟨d,o,t,pos,af,g⟩)(hb:tkB l L i=true)(he:∀w',Agr (fun k=>N k∨B≤k) w w'→EvOp P F o w' v)(hg:Ed l.toArray F g=some true)(hd:inB d n=true)(h:RD P n l N Wr B (L.setIfInBounds i true) f (upd F d v) w p):RD P n l N Wr B L (f+1) F w p :=
 AIZ i hi (Lo hb).1 (Lo hb).2.1 (Lo hb).2.2 he hg hd h
theorem Gg(i:Nat)(hi:l[i]?=some ⟨d,o,t,pos,af,g⟩)(hb:tkB l L i=true)(hg:Ed l.toArray F g=some false)(hd:inB d n=true)(h:RD P n l N Wr B (L.setIfInBounds i true) f (upd F d undef) w p):RD P n l N Wr B L (f+1) F w p :=
 ACx i hi (Lo hb).1 (Lo hb).2.1 (Lo hb).2.2 hg hd h
theorem Ak{rest:List Oper}{ops:Array Oper}{v}(he:EvOp P F o w v)(h:RL P n ops rest (upd F d v) w p)(hg:Ed ops F g=some true:=by rfl)(hd:inB d n=true:=by rfl):RL P n ops (⟨d,o,t,pos,af,g⟩::rest) F w p:=Nn he hg hd h
theorem Af{rest:List Oper}{ops:Array Oper}{x v}(hx:XL.ev F x=some v)(h:RL P n ops rest (upd F d v) w p)(hg:Ed ops F g=some true:=by rfl)(hd:inB d n=true:=by rfl):RL P n ops (⟨d,.move x,t,pos,af,g⟩::rest) F w p:=Nn (.move hx) hg hd h
theorem Ah{rest:List Oper}{ops:Array Oper}{x v}(hx:XL.ev F x=some v)(h:RL P n ops rest (upd F d v) w p)(hg:Ed ops F g=some true:=by rfl)(hd:inB d n=true:=by rfl):RL P n ops (⟨d,.assign x,t,pos,af,g⟩::rest) F w p:=Nn (.assign hx) hg hd h
theorem Bg{v}(i:Nat)(hi:l[i]?=some ⟨d,o,t,pos,af,g⟩)(he:∀w',Agr (fun k=>N k∨B≤k) w w'→EvOp P F o w' v)(h:RD P n l N Wr B (L.setIfInBounds i true) f (upd F d v) w p)(hb:tkB l L i=true:=by kernel_rfl)(hg:Ed l.toArray F g=some true:=by rfl)(hd:inB d n=true:=by rfl):RD P n l N Wr B L (f+1) F w p :=
 Jn i hi hb he hg hd h
theorem Bb(k:Nat){fn:Func}{R:Value→World→Prop}{v:Value}(hrs:fn.results=[ResultVar.tmp k].toArray)(hp:p.ret=(Post.fn P fn R).ret)(hv:Hx F k=some v)(hR:R (tup [v]) w)(hM:n.marks=[]:=by rfl):RC P n .ret F w p :=
 Bo (rs:=[.tmp k]) (vs:=[v]) hrs hp ⟨hv,trivial⟩ hR hM
theorem At{rest:List Oper}{ops:Array Oper}{ty x y b o e cs v k s}(hs:shapeOf P ty=some (k,s))(hx:XL.ev F x=some (.pointer (some ⟨b,o,none⟩)))(hy:XL.ev F y=some v)(hz:v.cells.size=s)(hb:Has w b cs e)(h:∀w',w'.heap.size=w.heap.size→Has w' b (Eh cs o v.cells.toList) e→Agr (· = b) w w'→RL P n ops rest F w' p)
  (hl:o+v.cells.toList.length≤cs.length:=by exact Nat.le_of_ble_eq_true rfl) (hp:v.cells.toList.all Gj=true:=by rfl) (hg:Ed ops F g=some true:=by rfl):RL P n ops (⟨none,.store ty x y,t,pos,af,g⟩::rest) F w p:=Cg hs hx hy hz hb hl hp hg h
theorem Aq{oi:Oper}(i:Nat)(hi:l[i]?=some oi)(h:RL P n l.toArray [oi] F w (p.to fun a w'=>Agr (MW N Wr B i) w w'∧WA P l.toArray p.q (MW N Wr B) f (L.setIfInBounds i true) a w'))(hr:Region.ready .any l.toArray L=[i]:=by kernel_rfl)(hR:n.round=none:=by rfl):RD P n l N Wr B L (f+1) F w p:=Ej [i] hr rfl (Ca hi h Do hR)
theorem Bj{rest:List Oper}{ops:Array Oper}{K:Act→Prop}(h:RQ P n ops rest (upd F d undef) w K)(hg:Ed ops F g=some false:=by rfl)(hd:inB d n=true:=by rfl):RQ P n ops (⟨d,o,t,pos,af,g⟩::rest) F w K:=AKT hg hd h
theorem nE{p:Prop}{a b:Nat}(h:¬p)(l:a<b):¬(p∨b≤a):=fun e=>e.elim h (Nat.not_le.2 l)
theorem nO{p q:Prop}(h:¬p)(k:¬q):¬(p∨q):=fun e=>e.elim h k
theorem Av{rest:List Oper}{ops:Array Oper}{s x fd b a off}(hs:fieldOff P s fd=some off)(hx:XL.ev F x=some (.pointer (some ⟨b,a,none⟩)))(h:RL P n ops rest (upd F d (.pointer (some ⟨b,a+off,none⟩))) w p)(hg:Ed ops F g=some true:=by rfl)(hd:inB d n=true:=by rfl):RL P n ops (⟨d,.fieldAddr s x fd,t,pos,af,g⟩::rest) F w p:=Nn (.field0 hs hx) hg hd h
theorem Ba{rest:List Oper}{ops:Array Oper}{ty x b j v s cs e}(hs:shapeOf P ty=some (false,s))(hx:XL.ev F x=some (.pointer (some ⟨b,j,none⟩)))(hb:Has w b cs e)(hc:cs[j]?=some v)(h:RL P n ops rest (upd F d v) w p)(hg:Ed ops F g=some true:=by rfl)(hd:inB d n=true:=by rfl):RL P n ops (⟨d,.load ty x,t,pos,af,g⟩::rest) F w p:=Nn (.load1 hs hx (hb.cell hc)) hg hd h
theorem Bc{rest:List Oper}{ops:Array Oper}{op k x y a b v ty tx}(hx:XL.ev F x=some (.int k a))(hy:XL.ev F y=some (.int k b))(hv:AHd op k a b=some v)(h:RL P n ops rest (upd F d v) w p)(hg:Ed ops F g=some true:=by rfl)(hd:inB d n=true:=by rfl):RL P n ops (⟨d,.binOp op tx x y ty,t,pos,af,g⟩::rest) F w p:=Nn (.bin hx hy hv) hg hd h
theorem Bz{rest:List Oper}{ops:Array Oper}{x i vs v}(hx:XL.ev F x=some (.tuple vs))(hv:vs[i]?=some v)(h:RL P n ops rest (upd F d v) w p)(hg:Ed ops F g=some true:=by rfl)(hd:inB d n=true:=by rfl):RL P n ops (⟨d,.extract x i,t,pos,af,g⟩::rest) F w p:=Nn (.extract hx hv) hg hd h
theorem Bq{rest:List Oper}{ops:Array Oper}{c x y v}(hc:XL.ev F c=some (.bool false))(hy:XL.ev F y=some v)(h:RL P n ops rest (upd F d v) w p)(hg:Ed ops F g=some true:=by rfl)(hd:inB d n=true:=by rfl):RL P n ops (⟨d,.pick c x y,t,pos,af,g⟩::rest) F w p:=Nn (.pick_f hc hy) hg hd h
theorem Br{rest:List Oper}{ops:Array Oper}{c x y v}(hc:XL.ev F c=some (.bool true))(hx:XL.ev F x=some v)(h:RL P n ops rest (upd F d v) w p)(hg:Ed ops F g=some true:=by rfl)(hd:inB d n=true:=by rfl):RL P n ops (⟨d,.pick c x y,t,pos,af,g⟩::rest) F w p:=Nn (.pick_t hc hx) hg hd h
theorem Cm{rest:List Oper}{ops:Array Oper}{x a m c ty e s b}(ht:sliceOf P ty=some (e,s,b))(hx:XL.ev F x=some (.slice a m c))(h:RL P n ops rest (upd F d (.int .i64 m)) w p)(hg:Ed ops F g=some true:=by rfl)(hd:inB d n=true:=by rfl):RL P n ops (⟨d,.call ⟨.builtin .len,#[x],#[ty]⟩,t,pos,af,g⟩::rest) F w p:=Nn (.len ht hx) hg hd h
theorem Az{rest:List Oper}{ops:Array Oper}{fn:FuncId}{xs:List Operand}{vs:List Value}{ts:Array TypeId}(hx:evs F xs=some vs)(hf:calleeOK P fn=true){R:Value→World→Prop}(hc:FC P fn vs w R)(h:∀v w',R v w'→RL P n ops rest (upd F d v) w' p)(hg:Ed ops F g=some true:=by rfl)(hd:inB d n=true:=by rfl):RL P n ops (⟨d,.call ⟨.value (.func fn),xs.toArray,ts⟩,t,pos,af,g⟩::rest) F w p:=ADw hx hf hc hg hd h
theorem Bp{x v}(i:Nat)(hi:l[i]?=some ⟨d,.move x,t,pos,af,g⟩)(hx:XL.ev F x=some v)(h:RD P n l N Wr B (L.setIfInBounds i true) f (upd F d v) w p)(hb:tkB l L i=true:=by kernel_rfl)(hg:Ed l.toArray F g=some true:=by rfl)(hd:inB d n=true:=by rfl):RD P n l N Wr B L (f+1) F w p:=Jn i hi hb (fun _ _=>.move hx) hg hd h
theorem Cu{x v}(i:Nat)(hi:l[i]?=some ⟨d,.assign x,t,pos,af,g⟩)(hx:XL.ev F x=some v)(h:RD P n l N Wr B (L.setIfInBounds i true) f (upd F d v) w p)(hb:tkB l L i=true:=by kernel_rfl)(hg:Ed l.toArray F g=some true:=by rfl)(hd:inB d n=true:=by rfl):RD P n l N Wr B L (f+1) F w p:=Jn i hi hb (fun _ _=>.assign hx) hg hd h
theorem Ci{x a}(i:Nat)(hi:l[i]?=some ⟨d,.nilCheck x,t,pos,af,g⟩)(hx:XL.ev F x=some (.pointer (some a)))(h:RD P n l N Wr B (L.setIfInBounds i true) f (upd F d (.pointer (some a))) w p)(hb:tkB l L i=true:=by kernel_rfl)(hg:Ed l.toArray F g=some true:=by rfl)(hd:inB d n=true:=by rfl):RD P n l N Wr B L (f+1) F w p:=Jn i hi hb (fun _ _=>.nilCheck hx) hg hd h
theorem Bl{s x fd b a off}(i:Nat)(hi:l[i]?=some ⟨d,.fieldAddr s x fd,t,pos,af,g⟩)(hs:fieldOff P s fd=some off)(hx:XL.ev F x=some (.pointer (some ⟨b,a,none⟩)))(h:RD P n l N Wr B (L.setIfInBounds i true) f (upd F d (.pointer (some ⟨b,a+off,none⟩))) w p)(hb:tkB l L i=true:=by kernel_rfl)(hg:Ed l.toArray F g=some true:=by rfl)(hd:inB d n=true:=by rfl):RD P n l N Wr B L (f+1) F w p:=Jn i hi hb (fun _ _=>.field0 hs hx) hg hd h
theorem Fv{x j vs v}(i:Nat)(hi:l[i]?=some ⟨d,.extract x j,t,pos,af,g⟩)(hx:XL.ev F x=some (.tuple vs))(hv:vs[j]?=some v)(h:RD P n l N Wr B (L.setIfInBounds i true) f (upd F d v) w p)(hb:tkB l L i=true:=by kernel_rfl)(hg:Ed l.toArray F g=some true:=by rfl)(hd:inB d n=true:=by rfl):RD P n l N Wr B L (f+1) F w p:=Jn i hi hb (fun _ _=>.extract hx hv) hg hd h
theorem Tn{op k x y a b v ty tx}(i:Nat)(hi:l[i]?=some ⟨d,.binOp op tx x y ty,t,pos,af,g⟩)(hx:XL.ev F x=some (.int k a))(hy:XL.ev F y=some (.int k b))(hv:AHd op k a b=some v)(h:RD P n l N Wr B (L.setIfInBounds i true) f (upd F d v) w p)(hb:tkB l L i=true:=by kernel_rfl)(hg:Ed l.toArray F g=some true:=by rfl)(hd:inB d n=true:=by rfl):RD P n l N Wr B L (f+1) F w p:=Jn i hi hb (fun _ _=>.bin hx hy hv) hg hd h
theorem Ck{ty x b j v s cs e}(i:Nat)(hi:l[i]?=some ⟨d,.load ty x,t,pos,af,g⟩)(hs:shapeOf P ty=some (false,s))(hx:XL.ev F x=some (.pointer (some ⟨b,j,none⟩)))(hh:Has w b cs e)(hn:¬(N b∨B≤b))(hc:cs[j]?=some v)(h:RD P n l N Wr B (L.setIfInBounds i true) f (upd F d v) w p)(hb:tkB l L i=true:=by kernel_rfl)(hg:Ed l.toArray F g=some true:=by rfl)(hd:inB d n=true:=by rfl):RD P n l N Wr B L (f+1) F w p:=Jn i hi hb (fun _ s'=>.load1 hs hx ((hh.step s' hn).cell hc)) hg hd h
theorem Aw{rest:List Oper}{ops:Array Oper}{K:Act→Prop}{v}(he:EvOp P F o w v)(h:RQ P n ops rest (upd F d v) w K)(hg:Ed ops F g=some true:=by rfl)(hd:inB d n=true:=by rfl):RQ P n ops (⟨d,o,t,pos,af,g⟩::rest) F w K:=AJR he hg hd h
theorem Cf{rest:List Oper}{ops:Array Oper}{K:Act→Prop}{x v}(hx:XL.ev F x=some v)(h:RQ P n ops rest (upd F d v) w K)(hg:Ed ops F g=some true:=by rfl)(hd:inB d n=true:=by rfl):RQ P n ops (⟨d,.move x,t,pos,af,g⟩::rest) F w K:=AJR (.move hx) hg hd h
theorem Cq{ops:Array Oper}{i F' w' b0}(hi:Wr.contains i=true)(hA:Agr (· = b0) w w')(hN:N b0)(h:RD P n l N Wr B L f F' w' p):RL P n ops [] F' w' (p.to fun a w''=>Agr (MW N Wr B i) w w''∧WA P l.toArray p.q (MW N Wr B) f L a w''):=Cv hi (hA.mono fun k _ e=>.inl (e▸hN)) h
theorem Cp(h:∀a,Knows n F a→p.nrm a w)(hr:Region.ready .any l.toArray L=[]:=by kernel_rfl):RD P n l N Wr B L f F w p:=Fb hr h
theorem Ad{a b c:Nat}(h:a≤b)(k:b≤c):a≤c:=Nat.le_trans h k
theorem Ag{α:Type}{xs ys:List α}:(xs++ys).length=xs.length+ys.length:=List.length_append
theorem Aj{α β:Type}{xs:List α}(f:α→β):(List.map f xs).length=xs.length:=List.length_map f
theorem Al{α:Type}{a:α}{xs:List α}:(a::xs).length=xs.length+1:=List.length_cons
theorem Am{α:Type}:([]:List α).length=0:=List.length_nil
theorem Au{α:Type}{l:List α}{i:Nat}{a:α}(h:l[i]?=some a):a∈l:=List.mem_of_getElem? h
theorem Bt{p:Prop}[Decidable p](h:¬p):Value.bool (decide p)=.bool false:=congrArg Value.bool (decide_eq_false h)
theorem Cr{p:Prop}[Decidable p](h:p):Value.bool (decide p)=.bool true:=congrArg Value.bool (decide_eq_true h)
/-- some operations that do not run -/
def AJe(ops:Array Oper)(n:Cx):Nat→List Oper→List (Nat × Value)→Bool
 |0,_,_=>true
 |_+1,[],_=>false
 |m+1,o::l,F=>(match Ed ops F o.guard with|some false=>inB o.dst n|_=>false)&&AJe ops n m l (upd F o.dst undef)
def AKm:Nat→List Oper→List (Nat × Value)→List (Nat × Value)
 |0,_,F=>F
 |_+1,[],F=>F
 |m+1,o::l,F=>AKm m l (upd F o.dst undef)
theorem Bd{ops:Array Oper}:∀(m:Nat) {l:List Oper} {F:List (Nat × Value)},AJe ops n m l F=true→RL P n ops (l.drop m) (AKm m l F) w p→RL P n ops l F w p
 |0,_,_,_,h=>h
 |_+1,[],_,hb,_=>by cases hb
 |m+1,⟨d,o,t,pos,af,g⟩::l,F,hb,h=>by
  simp only[AJe] at hb
  cases hg:Ed ops F g with
  |none=>rw[hg] at hb;cases hb
  |some b =>
   cases b with
   |true=>rw[hg] at hb;cases hb
   |false =>
    rw[hg,Bool.and_eq_true] at hb
    exact AKU hg hb.1 (Bd m hb.2 h)
end
end Go.XL
set_option linter.unusedVariables false
namespace Go.Proofs.YtbjmllnddanniaaGreat
open Go
theorem mxo:Tryz.prog.follows .mixedOrders=true:=by kernel_rfl
theorem ze1:XL.zeroOf Tryz.prog 1=some (.nilFunc):=by kernel_rfl
theorem sh2:XL.shapeOf Tryz.prog 2=some (false,1):=by kernel_rfl
theorem i2:XL.intOf? Tryz.prog 2=some .i64:=by kernel_rfl
theorem ze2:XL.zeroOf Tryz.prog 2=some (.int .i64 0):=by kernel_rfl
theorem sh3:XL.shapeOf Tryz.prog 3=some (false,1):=by kernel_rfl
theorem i3:XL.intOf? Tryz.prog 3=some .i64:=by kernel_rfl
theorem ze3:XL.zeroOf Tryz.prog 3=some (.int .i64 0):=by kernel_rfl
theorem sh4:XL.shapeOf Tryz.prog 4=some (false,1):=by kernel_rfl
theorem bo4:Tryz.prog.underlying 4=some .bool:=by kernel_rfl
theorem ze4:XL.zeroOf Tryz.prog 4=some (.bool false):=by kernel_rfl
theorem Jj:XL.shapeOf Tryz.prog 23=some (false,1):=by kernel_rfl
theorem Ig:XL.sliceOf Tryz.prog 23=some (140,16,128):=by kernel_rfl
theorem El:XL.shapeOf Tryz.prog 24=some (false,1):=by kernel_rfl
theorem Dd:XL.sliceOf Tryz.prog 24=some (3,1,8):=by kernel_rfl
theorem AJT:XL.zeroOf Tryz.prog 24=some (.slice none 0 0):=by kernel_rfl
theorem Cb:XL.shapeOf Tryz.prog 26=some (true,2):=by kernel_rfl
theorem Et:XL.fieldOff Tryz.prog 26 0=some 0:=by kernel_rfl
theorem Ja:XL.fieldOff Tryz.prog 26 1=some 1:=by kernel_rfl
theorem Rz:XL.placesOf Tryz.prog 26=some [(0,1),(1,1)]:=by kernel_rfl
theorem Fy:XL.zeroOf Tryz.prog 26=some (.agg #[.slice none 0 0,.slice none 0 0]):=by kernel_rfl
theorem AB8:XL.shapeOf Tryz.prog 27=some (false,1):=by kernel_rfl
theorem AJU:XL.shapeOf Tryz.prog 30=some (false,1):=by kernel_rfl
theorem i30:XL.intOf? Tryz.prog 30=some .u64:=by kernel_rfl
theorem Dm:XL.shapeOf Tryz.prog 31=some (false,1):=by kernel_rfl
theorem i31:XL.intOf? Tryz.prog 31=some .u64:=by kernel_rfl
theorem Zw:XL.zeroOf Tryz.prog 31=some (.int .u64 0):=by kernel_rfl
theorem Nf:XL.shapeOf Tryz.prog 33=some (true,4):=by kernel_rfl
theorem ACO:XL.fieldOff Tryz.prog 33 0=some 0:=by kernel_rfl
theorem AF4:XL.fieldOff Tryz.prog 33 1=some 1:=by kernel_rfl
theorem Lc:XL.fieldOff Tryz.prog 33 2=some 2:=by kernel_rfl
theorem AF3:XL.fieldOff Tryz.prog 33 3=some 3:=by kernel_rfl
theorem AE7:XL.zeroOf Tryz.prog 33=some (.agg #[.int .u64 0,.int .u64 0,.int .u64 0,.int .u64 0]):=by kernel_rfl
theorem Uc:XL.shapeOf Tryz.prog 35=some (true,4):=by kernel_rfl
theorem Me:XL.fieldOff Tryz.prog 35 0=some 0:=by kernel_rfl
theorem Hz:XL.fieldOff Tryz.prog 35 1=some 1:=by kernel_rfl
theorem Qe:XL.fieldOff Tryz.prog 35 2=some 2:=by kernel_rfl
theorem Qd:XL.fieldOff Tryz.prog 35 3=some 3:=by kernel_rfl
theorem AKa:XL.placesOf Tryz.prog 35=some [(0,1),(1,1),(2,1),(3,1)]:=by kernel_rfl
theorem AKW:XL.zeroOf Tryz.prog 35=some (.agg #[.int .i64 0,.int .i64 0,.int .i64 0,.int .i64 0]):=by kernel_rfl
theorem Hq:XL.shapeOf Tryz.prog 38=some (true,3):=by kernel_rfl
theorem AHV:XL.placesOf Tryz.prog 38=some [(0,1),(1,1),(2,1)]:=by kernel_rfl
theorem AMr:XL.flatK Tryz.prog 6 38=some [some .i64,some .i64,some .i64]:=by kernel_rfl
theorem AMu:Tryz.prog.eqGuardType Tryz.prog.depth 38=false:=by kernel_rfl
theorem Nh:XL.zeroOf Tryz.prog 38=some (.agg #[.int .i64 0,.int .i64 0,.int .i64 0]):=by kernel_rfl
theorem Qp:XL.shapeOf Tryz.prog 42=some (false,1):=by kernel_rfl
theorem Kx:XL.sliceOf Tryz.prog 42=some (51,2,16):=by kernel_rfl
theorem AKV:XL.zeroOf Tryz.prog 42=some (.slice none 0 0):=by kernel_rfl
theorem AE9:XL.shapeOf Tryz.prog 43=some (false,1):=by kernel_rfl
theorem Ni:XL.sliceOf Tryz.prog 43=some (2,1,8):=by kernel_rfl
theorem AMK:XL.zeroOf Tryz.prog 43=some (.slice none 0 0):=by kernel_rfl
theorem AB7:XL.shapeOf Tryz.prog 45=some (true,4):=by kernel_rfl
theorem AF2:XL.fieldOff Tryz.prog 45 0=some 0:=by kernel_rfl
theorem AF1:XL.fieldOff Tryz.prog 45 1=some 1:=by kernel_rfl
theorem AF0:XL.fieldOff Tryz.prog 45 2=some 2:=by kernel_rfl
theorem AFz:XL.fieldOff Tryz.prog 45 3=some 3:=by kernel_rfl
theorem AJX:XL.placesOf Tryz.prog 45=some [(0,1),(1,1),(2,1),(3,1)]:=by kernel_rfl
theorem AB5:XL.zeroOf Tryz.prog 45=some (.agg #[.slice none 0 0,.slice none 0 0,.slice none 0 0,.slice none 0 0]):=by kernel_rfl
theorem Ub:XL.shapeOf Tryz.prog 51=some (true,2):=by kernel_rfl
theorem Sg:XL.fieldOff Tryz.prog 51 0=some 0:=by kernel_rfl
theorem AFy:XL.fieldOff Tryz.prog 51 1=some 1:=by kernel_rfl
theorem AJW:XL.placesOf Tryz.prog 51=some [(0,1),(1,1)]:=by kernel_rfl
theorem AMq:XL.flatK Tryz.prog 6 51=some [some .i64,some .i64]:=by kernel_rfl
theorem AMt:Tryz.prog.eqGuardType Tryz.prog.depth 51=false:=by kernel_rfl
theorem Rv:XL.zeroOf Tryz.prog 51=some (.agg #[.int .i64 0,.int .i64 0]):=by kernel_rfl
theorem AHT:XL.sliceOf Tryz.prog 56=some (72,5,40):=by kernel_rfl
theorem Nd:XL.shapeOf Tryz.prog 57=some (false,1):=by kernel_rfl
theorem Fm:XL.sliceOf Tryz.prog 57=some (77,7,88):=by kernel_rfl
theorem Ef:XL.shapeOf Tryz.prog 59=some (true,3):=by kernel_rfl
theorem Gq:XL.fieldOff Tryz.prog 59 0=some 0:=by kernel_rfl
theorem Nq:XL.fieldOff Tryz.prog 59 1=some 1:=by kernel_rfl
theorem AAM:XL.fieldOff Tryz.prog 59 2=some 2:=by kernel_rfl
theorem Px:XL.placesOf Tryz.prog 59=some [(0,1),(1,1),(2,1)]:=by kernel_rfl
theorem Kb:XL.zeroOf Tryz.prog 59=some (.agg #[.slice none 0 0,.slice none 0 0,.slice none 0 0]):=by kernel_rfl
theorem Nc:XL.shapeOf Tryz.prog 60=some (false,1):=by kernel_rfl
theorem Iv:XL.sliceOf Tryz.prog 60=some (297,5,40):=by kernel_rfl
theorem Nj:XL.shapeOf Tryz.prog 61=some (false,1):=by kernel_rfl
theorem Nb:XL.sliceOf Tryz.prog 61=some (90,24,288):=by kernel_rfl
theorem Hw:XL.shapeOf Tryz.prog 63=some (true,7):=by kernel_rfl
theorem Sf:XL.fieldOff Tryz.prog 63 0=some 0:=by kernel_rfl
theorem Md:XL.fieldOff Tryz.prog 63 1=some 2:=by kernel_rfl
theorem Np:XL.fieldOff Tryz.prog 63 2=some 5:=by kernel_rfl
theorem Gz:XL.fieldOff Tryz.prog 63 3=some 6:=by kernel_rfl
theorem AJV:XL.placesOf Tryz.prog 63=some [(0,2),(2,3),(5,1),(6,1)]:=by kernel_rfl
theorem Tz:XL.zeroOf Tryz.prog 63=some (.agg #[.slice none 0 0,.slice none 0 0,.slice none 0 0,.slice none 0 0,.slice none 0 0,.slice none 0 0,.slice none 0 0]):=by kernel_rfl
theorem AE8:XL.shapeOf Tryz.prog 64=some (false,1):=by kernel_rfl
theorem Zx:XL.sliceOf Tryz.prog 64=some (87,10,80):=by kernel_rfl
theorem AMN:XL.shapeOf Tryz.prog 65=some (false,1):=by kernel_rfl
theorem Xl:XL.sliceOf Tryz.prog 65=some (97,4,32):=by kernel_rfl
theorem Dw:XL.shapeOf Tryz.prog 67=some (true,11):=by kernel_rfl
theorem Gp:XL.fieldOff Tryz.prog 67 0=some 0:=by kernel_rfl
theorem AAL:XL.fieldOff Tryz.prog 67 1=some 7:=by kernel_rfl
theorem Se:XL.fieldOff Tryz.prog 67 2=some 8:=by kernel_rfl
theorem Vk:XL.fieldOff Tryz.prog 67 3=some 9:=by kernel_rfl
theorem AJt:XL.fieldOff Tryz.prog 67 4=some 10:=by kernel_rfl
theorem AHU:XL.placesOf Tryz.prog 67=some [(0,7),(7,1),(8,1),(9,1),(10,1)]:=by kernel_rfl
theorem Ka:XL.zeroOf Tryz.prog 67=some (.agg #[.slice none 0 0,.slice none 0 0,.slice none 0 0,.slice none 0 0,.slice none 0 0,.slice none 0 0,.slice none 0 0,.int .i64 0,.slice none 0 0,.slice none 0 0,.slice none 0 0]):=by kernel_rfl
theorem AKX:XL.shapeOf Tryz.prog 72=some (true,5):=by kernel_rfl
theorem AJs:XL.fieldOff Tryz.prog 72 0=some 0:=by kernel_rfl
theorem AFx:XL.fieldOff Tryz.prog 72 1=some 1:=by kernel_rfl
theorem AKZ:XL.placesOf Tryz.prog 72=some [(0,1),(1,4)]:=by kernel_rfl
theorem AE6:XL.zeroOf Tryz.prog 72=some (.agg #[.int .i64 0,.int .i64 0,.int .i64 0,.int .i64 0,.int .i64 0]):=by kernel_rfl
theorem Kw:XL.sliceOf Tryz.prog 73=some (31,1,8):=by kernel_rfl
theorem ADy:XL.shapeOf Tryz.prog 75=some (false,1):=by kernel_rfl
theorem Xk:XL.sliceOf Tryz.prog 75=some (38,3,24):=by kernel_rfl
theorem Fs:XL.shapeOf Tryz.prog 77=some (true,7):=by kernel_rfl
theorem Hy:XL.fieldOff Tryz.prog 77 0=some 0:=by kernel_rfl
theorem Qc:XL.fieldOff Tryz.prog 77 1=some 1:=by kernel_rfl
theorem Jq:XL.fieldOff Tryz.prog 77 2=some 5:=by kernel_rfl
theorem Sd:XL.fieldOff Tryz.prog 77 3=some 6:=by kernel_rfl
theorem ADz:XL.placesOf Tryz.prog 77=some [(0,1),(1,4),(5,1),(6,1)]:=by kernel_rfl
theorem Gx:XL.zeroOf Tryz.prog 77=some (.agg #[.int .i64 0,.int .u64 0,.int .u64 0,.int .u64 0,.int .u64 0,.slice none 0 0,.slice none 0 0]):=by kernel_rfl
theorem AJr:XL.fieldOff Tryz.prog 87 2=some 5:=by kernel_rfl
theorem AMQ:XL.placesOf Tryz.prog 87=some [(0,1),(1,4),(5,3),(8,1),(9,1)]:=by kernel_rfl
theorem AE5:XL.zeroOf Tryz.prog 87=some (.agg #[.int .i64 0,.int .i64 0,.int .i64 0,.int .i64 0,.int .i64 0,.int .i64 0,.int .i64 0,.int .i64 0,.int .i64 0,.int .i64 0]):=by kernel_rfl
theorem Gn:XL.fieldOff Tryz.prog 90 0=some 0:=by kernel_rfl
theorem ACN:XL.fieldOff Tryz.prog 90 1=some 1:=by kernel_rfl
theorem Vj:XL.fieldOff Tryz.prog 90 2=some 5:=by kernel_rfl
theorem ACM:XL.fieldOff Tryz.prog 90 3=some 6:=by kernel_rfl
theorem ACL:XL.fieldOff Tryz.prog 90 4=some 7:=by kernel_rfl
theorem Qb:XL.fieldOff Tryz.prog 90 5=some 8:=by kernel_rfl
theorem Lb:XL.fieldOff Tryz.prog 90 6=some 15:=by kernel_rfl
theorem AAK:XL.fieldOff Tryz.prog 90 7=some 16:=by kernel_rfl
theorem Vi:XL.fieldOff Tryz.prog 90 8=some 23:=by kernel_rfl
theorem AJS:XL.zeroOf Tryz.prog 90=some (.agg #[.int .i64 0,.int .i64 0,.int .i64 0,.int .i64 0,.int .i64 0,.int .i64 0,.int .i64 0,.int .i64 0,.int .i64 0,.int .u64 0,.int .u64 0,.int .u64 0,.int .u64 0,.slice none 0 0,.slice none 0 0,.slice none 0 0,.int .i64 0,.int .u64 0,.int .u64 0,.int .u64 0,.int .u64 0,.slice none 0 0,.slice none 0 0,.slice none 0 0]):=by kernel_rfl
theorem AMP:XL.placesOf Tryz.prog 97=some [(0,1),(1,1),(2,1),(3,1)]:=by kernel_rfl
theorem AHS:XL.zeroOf Tryz.prog 97=some (.agg #[.int .u64 0,.int .i64 0,.int .i64 0,.bool false]):=by kernel_rfl
theorem Oj:XL.fieldOff Tryz.prog 109 0=some 0:=by kernel_rfl
theorem Jv:XL.fieldOff Tryz.prog 109 1=some 2:=by kernel_rfl
theorem ALB:XL.placesOf Tryz.prog 109=some [(0,2),(2,4)]:=by kernel_rfl
theorem AK1:XL.zeroOf Tryz.prog 109=some (.agg #[.slice none 0 0,.slice none 0 0,.int .u64 0,.int .u64 0,.int .u64 0,.int .u64 0]):=by kernel_rfl
theorem AH0:XL.fieldOff Tryz.prog 130 0=some 0:=by kernel_rfl
theorem ALA:XL.placesOf Tryz.prog 130=some [(0,2),(2,1)]:=by kernel_rfl
theorem AK0:XL.zeroOf Tryz.prog 130=some (.agg #[.slice none 0 0,.slice none 0 0,.int .i64 0]):=by kernel_rfl
theorem AC2:XL.sliceOf Tryz.prog 135=some (33,4,32):=by kernel_rfl
theorem AC3:XL.shapeOf Tryz.prog 138=some (true,9):=by kernel_rfl
theorem Eb:XL.arrOf Tryz.prog 138=some (9,31,1):=by kernel_rfl
theorem Ct:XL.shapeOf Tryz.prog 140=some (true,16):=by kernel_rfl
theorem Es:XL.fieldOff Tryz.prog 140 0=some 0:=by kernel_rfl
theorem Gv:XL.fieldOff Tryz.prog 140 1=some 1:=by kernel_rfl
theorem Fl:XL.fieldOff Tryz.prog 140 2=some 2:=by kernel_rfl
theorem Hv:XL.fieldOff Tryz.prog 140 3=some 3:=by kernel_rfl
theorem Hg:XL.fieldOff Tryz.prog 140 4=some 4:=by kernel_rfl
theorem Da:XL.fieldOff Tryz.prog 140 5=some 5:=by kernel_rfl
theorem ADk:XL.fieldOff Tryz.prog 140 6=some 14:=by kernel_rfl
theorem ADj:XL.fieldOff Tryz.prog 140 7=some 15:=by kernel_rfl
theorem Mv:XL.placesOf Tryz.prog 140=some [(0,1),(1,1),(2,1),(3,1),(4,1),(5,9),(14,1),(15,1)]:=by kernel_rfl
theorem Vb:XL.flatK Tryz.prog 6 140=some [some .i64,some .i64,some .i64,some .i64,some .i64,some .u64,some .u64,some .u64,some .u64,some .u64,some .u64,some .u64,some .u64,some .u64,some .i64,some .i64]:=by kernel_rfl
theorem Vc:Tryz.prog.eqGuardType Tryz.prog.depth 140=false:=by kernel_rfl
theorem Dx:XL.zeroOf Tryz.prog 140=some (.agg #[.int .i64 0,.int .i64 0,.int .i64 0,.int .i64 0,.int .i64 0,.int .u64 0,.int .u64 0,.int .u64 0,.int .u64 0,.int .u64 0,.int .u64 0,.int .u64 0,.int .u64 0,.int .u64 0,.int .i64 0,.int .i64 0]):=by kernel_rfl
theorem Ht:XL.placesOf Tryz.prog 155=some [(0,1),(1,1)]:=by kernel_rfl
theorem Hs:XL.zeroOf Tryz.prog 155=some (.agg #[.int .i64 0,.int .i64 0]):=by kernel_rfl
theorem Ij:XL.fieldOff Tryz.prog 173 0=some 0:=by kernel_rfl
theorem AC5:XL.placesOf Tryz.prog 173=some [(0,11)]:=by kernel_rfl
theorem ACz:XL.zeroOf Tryz.prog 173=some (.agg #[.slice none 0 0,.slice none 0 0,.slice none 0 0,.slice none 0 0,.slice none 0 0,.slice none 0 0,.slice none 0 0,.int .i64 0,.slice none 0 0,.slice none 0 0,.slice none 0 0]):=by kernel_rfl
theorem AIk:XL.shapeOf Tryz.prog 180=some (false,1):=by kernel_rfl
theorem AKz:XL.zeroOf Tryz.prog 180=some (.pointer none):=by kernel_rfl
theorem Mi:XL.fieldOff Tryz.prog 182 0=some 0:=by kernel_rfl
theorem Mh:XL.fieldOff Tryz.prog 182 1=some 2:=by kernel_rfl
theorem AFS:XL.placesOf Tryz.prog 182=some [(0,2),(2,1)]:=by kernel_rfl
theorem AFJ:XL.zeroOf Tryz.prog 182=some (.agg #[.slice none 0 0,.slice none 0 0,.int .i64 0]):=by kernel_rfl
theorem Uw:XL.shapeOf Tryz.prog 183=some (false,1):=by kernel_rfl
theorem AIc:XL.zeroOf Tryz.prog 183=some (.nilFunc):=by kernel_rfl
theorem AD2:XL.intOf? Tryz.prog 190=some .u64:=by kernel_rfl
theorem AAy:XL.sliceOf Tryz.prog 191=some (42,1,24):=by kernel_rfl
theorem ADi:XL.fieldOff Tryz.prog 195 0=some 0:=by kernel_rfl
theorem AK9:XL.placesOf Tryz.prog 195=some [(0,2),(2,1)]:=by kernel_rfl
theorem AKy:XL.zeroOf Tryz.prog 195=some (.agg #[.slice none 0 0,.slice none 0 0,.int .i64 0]):=by kernel_rfl
theorem AIj:XL.shapeOf Tryz.prog 198=some (false,1):=by kernel_rfl
theorem AFM:XL.shapeOf Tryz.prog 210=some (false,1):=by kernel_rfl
theorem AKx:XL.zeroOf Tryz.prog 210=some (.nilFunc):=by kernel_rfl
theorem AIi:XL.shapeOf Tryz.prog 226=some (false,1):=by kernel_rfl
theorem AIh:XL.shapeOf Tryz.prog 227=some (false,1):=by kernel_rfl
theorem AIg:XL.shapeOf Tryz.prog 228=some (false,1):=by kernel_rfl
theorem Yb:XL.shapeOf Tryz.prog 230=some (true,3):=by kernel_rfl
theorem ADh:XL.fieldOff Tryz.prog 230 1=some 1:=by kernel_rfl
theorem ADg:XL.fieldOff Tryz.prog 230 2=some 2:=by kernel_rfl
theorem AIn:XL.placesOf Tryz.prog 230=some [(0,1),(1,1),(2,1)]:=by kernel_rfl
theorem Xx:XL.zeroOf Tryz.prog 230=some (.agg #[.nilFunc,.nilFunc,.nilFunc]):=by kernel_rfl
theorem ADf:XL.fieldOff Tryz.prog 244 0=some 0:=by kernel_rfl
theorem AK8:XL.placesOf Tryz.prog 244=some [(0,2),(2,1)]:=by kernel_rfl
theorem AKw:XL.zeroOf Tryz.prog 244=some (.agg #[.slice none 0 0,.slice none 0 0,.int .i64 0]):=by kernel_rfl
theorem Dy:XL.shapeOf Tryz.prog 248=some (false,1):=by kernel_rfl
theorem Fa:XL.fieldOff Tryz.prog 250 0=some 0:=by kernel_rfl
theorem Ju:XL.fieldOff Tryz.prog 250 1=some 7:=by kernel_rfl
theorem Cz:XL.fieldOff Tryz.prog 250 2=some 8:=by kernel_rfl
theorem Ii:XL.fieldOff Tryz.prog 250 3=some 9:=by kernel_rfl
theorem ADe:XL.fieldOff Tryz.prog 250 4=some 16:=by kernel_rfl
theorem ADd:XL.fieldOff Tryz.prog 250 5=some 17:=by kernel_rfl
theorem AK7:XL.placesOf Tryz.prog 250=some [(0,7),(7,1),(8,1),(9,7),(16,1),(17,3)]:=by kernel_rfl
theorem AKv:XL.zeroOf Tryz.prog 250=some (.agg #[.slice none 0 0,.slice none 0 0,.slice none 0 0,.slice none 0 0,.slice none 0 0,.slice none 0 0,.slice none 0 0,.int .i64 0,.pointer none,.int .i64 0,.int .u64 0,.int .u64 0,.int .u64 0,.int .u64 0,.slice none 0 0,.slice none 0 0,.bool false,.int .i64 0,.int .i64 0,.int .i64 0]):=by kernel_rfl
theorem AFL:XL.shapeOf Tryz.prog 253=some (false,1):=by kernel_rfl
theorem Jr:XL.sliceOf Tryz.prog 253=some (4,1,1):=by kernel_rfl
theorem AKu:XL.zeroOf Tryz.prog 253=some (.slice none 0 0):=by kernel_rfl
theorem Pn:XL.shapeOf Tryz.prog 272=some (true,6):=by kernel_rfl
theorem ADc:XL.fieldOff Tryz.prog 272 0=some 0:=by kernel_rfl
theorem AAd:XL.fieldOff Tryz.prog 272 1=some 1:=by kernel_rfl
theorem ADb:XL.fieldOff Tryz.prog 272 2=some 2:=by kernel_rfl
theorem AAc:XL.fieldOff Tryz.prog 272 3=some 3:=by kernel_rfl
theorem Qx:XL.fieldOff Tryz.prog 272 4=some 4:=by kernel_rfl
theorem Qw:XL.fieldOff Tryz.prog 272 5=some 5:=by kernel_rfl
theorem AK6:XL.placesOf Tryz.prog 272=some [(0,1),(1,1),(2,1),(3,1),(4,1),(5,1)]:=by kernel_rfl
theorem Xw:XL.zeroOf Tryz.prog 272=some (.agg #[.int .i64 0,.int .i64 0,.bool false,.bool false,.int .i64 0,.bool false]):=by kernel_rfl
theorem AFK:XL.shapeOf Tryz.prog 297=some (true,5):=by kernel_rfl
theorem Uk:XL.fieldOff Tryz.prog 297 0=some 0:=by kernel_rfl
theorem ADa:XL.fieldOff Tryz.prog 297 1=some 1:=by kernel_rfl
theorem AK5:XL.placesOf Tryz.prog 297=some [(0,1),(1,4)]:=by kernel_rfl
theorem Tk:XL.zeroOf Tryz.prog 297=some (.agg #[.int .i64 0,.int .i64 0,.int .i64 0,.int .i64 0,.int .i64 0]):=by kernel_rfl
theorem AKo:XL.intOf? Tryz.prog 309=some .u64:=by kernel_rfl
theorem Ya:XL.shapeOf Tryz.prog 343=some (false,1):=by kernel_rfl
theorem AKt:XL.zeroOf Tryz.prog 343=some (.map none):=by kernel_rfl
theorem Xz:XL.shapeOf Tryz.prog 360=some (true,2):=by kernel_rfl
theorem AAb:XL.fieldOff Tryz.prog 360 0=some 0:=by kernel_rfl
theorem AAa:XL.fieldOff Tryz.prog 360 1=some 1:=by kernel_rfl
theorem AFR:XL.placesOf Tryz.prog 360=some [(0,1),(1,1)]:=by kernel_rfl
theorem Xv:XL.zeroOf Tryz.prog 360=some (.agg #[.int .i64 0,.int .u64 0]):=by kernel_rfl
theorem ADG:XL.arrOf Tryz.prog 361=some (3,360,2):=by kernel_rfl
theorem AKs:XL.zeroOf Tryz.prog 361=some (.agg #[.int .i64 0,.int .u64 0,.int .i64 0,.int .u64 0,.int .i64 0,.int .u64 0]):=by kernel_rfl
theorem AAx:XL.sliceOf Tryz.prog 364=some (24,1,24):=by kernel_rfl
theorem AMm:XL.calleeOK Tryz.prog 10=true:=by kernel_rfl
theorem AMl:XL.calleeOK Tryz.prog 11=true:=by kernel_rfl
theorem AMk:XL.calleeOK Tryz.prog 12=true:=by kernel_rfl
theorem AMj:XL.calleeOK Tryz.prog 13=true:=by kernel_rfl
theorem AJd:XL.calleeOK Tryz.prog 14=true:=by kernel_rfl
theorem AMi:XL.calleeOK Tryz.prog 15=true:=by kernel_rfl
theorem AKl:XL.calleeOK Tryz.prog 18=true:=by kernel_rfl
theorem AKk:XL.calleeOK Tryz.prog 19=true:=by kernel_rfl
theorem AKj:XL.calleeOK Tryz.prog 20=true:=by kernel_rfl
theorem AMh:XL.calleeOK Tryz.prog 33=true:=by kernel_rfl
theorem AKi:XL.calleeOK Tryz.prog 34=true:=by kernel_rfl
theorem AKh:XL.calleeOK Tryz.prog 35=true:=by kernel_rfl
theorem AJc:XL.calleeOK Tryz.prog 36=true:=by kernel_rfl
theorem AMg:XL.calleeOK Tryz.prog 39=true:=by kernel_rfl
theorem AHa:XL.calleeOK Tryz.prog 41=true:=by kernel_rfl
theorem AKg:XL.calleeOK Tryz.prog 42=true:=by kernel_rfl
theorem AMf:XL.calleeOK Tryz.prog 43=true:=by kernel_rfl
theorem AMe:XL.calleeOK Tryz.prog 44=true:=by kernel_rfl
theorem AMd:XL.calleeOK Tryz.prog 45=true:=by kernel_rfl
theorem AMc:XL.calleeOK Tryz.prog 46=true:=by kernel_rfl
theorem AKf:XL.calleeOK Tryz.prog 47=true:=by kernel_rfl
theorem AKe:XL.calleeOK Tryz.prog 49=true:=by kernel_rfl
theorem AMb:XL.calleeOK Tryz.prog 50=true:=by kernel_rfl
theorem AMa:XL.calleeOK Tryz.prog 51=true:=by kernel_rfl
theorem AMZ:XL.calleeOK Tryz.prog 52=true:=by kernel_rfl
theorem AMY:XL.calleeOK Tryz.prog 53=true:=by kernel_rfl
theorem AKd:XL.calleeOK Tryz.prog 54=true:=by kernel_rfl
theorem AMX:XL.calleeOK Tryz.prog 56=true:=by kernel_rfl
theorem AMW:XL.calleeOK Tryz.prog 57=true:=by kernel_rfl
theorem AJb:XL.calleeOK Tryz.prog 65=true:=by kernel_rfl
theorem AMV:XL.calleeOK Tryz.prog 68=true:=by kernel_rfl
theorem AMU:XL.calleeOK Tryz.prog 72=true:=by kernel_rfl
theorem AKc:XL.calleeOK Tryz.prog 73=true:=by kernel_rfl
theorem AHZ:XL.calleeOK Tryz.prog 75=true:=by kernel_rfl
theorem AHY:XL.calleeOK Tryz.prog 76=true:=by kernel_rfl
theorem AHX:XL.calleeOK Tryz.prog 83=true:=by kernel_rfl
theorem AHW:XL.calleeOK Tryz.prog 84=true:=by kernel_rfl
theorem AJa:XL.calleeOK Tryz.prog 91=true:=by kernel_rfl
theorem AKb:XL.calleeOK Tryz.prog 92=true:=by kernel_rfl
theorem AFD:XL.calleeOK Tryz.prog 93=true:=by kernel_rfl
theorem AJZ:XL.calleeOK Tryz.prog 94=true:=by kernel_rfl
theorem AMT:XL.calleeOK Tryz.prog 95=true:=by kernel_rfl
theorem AMS:XL.calleeOK Tryz.prog 96=true:=by kernel_rfl
theorem AMR:XL.calleeOK Tryz.prog 97=true:=by kernel_rfl
theorem AJY:XL.calleeOK Tryz.prog 98=true:=by kernel_rfl
theorem Sa:XL.calleeOK Tryz.prog 99=true:=by kernel_rfl
theorem ADC:XL.calleeOK Tryz.prog 100=true:=by kernel_rfl
theorem AL6:XL.calleeOK Tryz.prog 101=true:=by kernel_rfl
theorem ADB:XL.calleeOK Tryz.prog 102=true:=by kernel_rfl
theorem AL5:XL.calleeOK Tryz.prog 103=true:=by kernel_rfl
theorem AL4:XL.calleeOK Tryz.prog 104=true:=by kernel_rfl
theorem AJE:XL.calleeOK Tryz.prog 107=true:=by kernel_rfl
theorem AL3:XL.calleeOK Tryz.prog 108=true:=by kernel_rfl
theorem Uy:XL.calleeOK Tryz.prog 109=true:=by kernel_rfl
theorem ADA:XL.calleeOK Tryz.prog 110=true:=by kernel_rfl
theorem AL2:XL.calleeOK Tryz.prog 111=true:=by kernel_rfl
theorem AL1:XL.calleeOK Tryz.prog 112=true:=by kernel_rfl
theorem AJD:XL.calleeOK Tryz.prog 113=true:=by kernel_rfl
theorem AL0:XL.calleeOK Tryz.prog 114=true:=by kernel_rfl
theorem ALz:XL.calleeOK Tryz.prog 116=true:=by kernel_rfl
theorem AFd:XL.calleeOK Tryz.prog 117=true:=by kernel_rfl
theorem ALy:XL.calleeOK Tryz.prog 118=true:=by kernel_rfl
theorem AFc:XL.calleeOK Tryz.prog 119=true:=by kernel_rfl
theorem ALx:XL.calleeOK Tryz.prog 123=true:=by kernel_rfl
theorem Ll:XL.calleeOK Tryz.prog 125=true:=by kernel_rfl
theorem AJC:XL.calleeOK Tryz.prog 141=true:=by kernel_rfl
theorem ALw:XL.calleeOK Tryz.prog 142=true:=by kernel_rfl
theorem AC9:XL.calleeOK Tryz.prog 143=true:=by kernel_rfl
theorem Ye:XL.calleeOK Tryz.prog 144=true:=by kernel_rfl
theorem ALv:XL.calleeOK Tryz.prog 145=true:=by kernel_rfl
theorem AC8:XL.calleeOK Tryz.prog 146=true:=by kernel_rfl
theorem ALu:XL.calleeOK Tryz.prog 149=true:=by kernel_rfl
theorem AJB:XL.calleeOK Tryz.prog 155=true:=by kernel_rfl
theorem AJA:XL.calleeOK Tryz.prog 156=true:=by kernel_rfl
theorem ALt:XL.calleeOK Tryz.prog 165=true:=by kernel_rfl
theorem AFb:XL.calleeOK Tryz.prog 166=true:=by kernel_rfl
theorem AI9:XL.calleeOK Tryz.prog 167=true:=by kernel_rfl
theorem AI8:XL.calleeOK Tryz.prog 168=true:=by kernel_rfl
theorem Yd:XL.calleeOK Tryz.prog 169=true:=by kernel_rfl
theorem ALs:XL.calleeOK Tryz.prog 170=true:=by kernel_rfl
theorem ALr:XL.calleeOK Tryz.prog 171=true:=by kernel_rfl
theorem AI7:XL.calleeOK Tryz.prog 182=true:=by kernel_rfl
theorem ALq:XL.calleeOK Tryz.prog 183=true:=by kernel_rfl
theorem ALp:XL.calleeOK Tryz.prog 184=true:=by kernel_rfl
theorem ALo:XL.calleeOK Tryz.prog 185=true:=by kernel_rfl
theorem AI6:XL.calleeOK Tryz.prog 186=true:=by kernel_rfl
theorem ALn:XL.calleeOK Tryz.prog 187=true:=by kernel_rfl
theorem AFa:XL.calleeOK Tryz.prog 188=true:=by kernel_rfl
theorem ALm:XL.calleeOK Tryz.prog 189=true:=by kernel_rfl
theorem AI5:XL.calleeOK Tryz.prog 190=true:=by kernel_rfl
theorem ALl:XL.calleeOK Tryz.prog 193=true:=by kernel_rfl
theorem AC7:XL.calleeOK Tryz.prog 195=true:=by kernel_rfl
theorem AI4:XL.calleeOK Tryz.prog 200=true:=by kernel_rfl
theorem ALk:XL.calleeOK Tryz.prog 212=true:=by kernel_rfl
theorem AC6:XL.calleeOK Tryz.prog 213=true:=by kernel_rfl
theorem ALj:XL.calleeOK Tryz.prog 214=true:=by kernel_rfl
theorem ALi:XL.calleeOK Tryz.prog 215=true:=by kernel_rfl
theorem ALh:XL.calleeOK Tryz.prog 216=true:=by kernel_rfl
theorem ALg:XL.calleeOK Tryz.prog 217=true:=by kernel_rfl
theorem ALf:XL.calleeOK Tryz.prog 218=true:=by kernel_rfl
theorem AI3:XL.calleeOK Tryz.prog 219=true:=by kernel_rfl
theorem ALe:XL.calleeOK Tryz.prog 222=true:=by kernel_rfl
theorem AI2:XL.calleeOK Tryz.prog 223=true:=by kernel_rfl
theorem AI1:XL.calleeOK Tryz.prog 224=true:=by kernel_rfl
theorem ALd:XL.calleeOK Tryz.prog 225=true:=by kernel_rfl
theorem ALc:XL.calleeOK Tryz.prog 226=true:=by kernel_rfl
theorem AI0:XL.calleeOK Tryz.prog 227=true:=by kernel_rfl
theorem ALb:XL.calleeOK Tryz.prog 228=true:=by kernel_rfl
theorem AFZ:XL.calleeOK Tryz.prog 229=true:=by kernel_rfl
theorem AIz:XL.calleeOK Tryz.prog 230=true:=by kernel_rfl
theorem ALa:XL.calleeOK Tryz.prog 231=true:=by kernel_rfl
theorem AFY:XL.calleeOK Tryz.prog 232=true:=by kernel_rfl
theorem ALZ:XL.calleeOK Tryz.prog 238=true:=by kernel_rfl
theorem AFX:XL.calleeOK Tryz.prog 239=true:=by kernel_rfl
theorem AFW:XL.calleeOK Tryz.prog 240=true:=by kernel_rfl
theorem AIy:XL.calleeOK Tryz.prog 241=true:=by kernel_rfl
theorem ALY:XL.calleeOK Tryz.prog 242=true:=by kernel_rfl
theorem Gf:XL.calleeOK Tryz.prog 243=true:=by kernel_rfl
theorem ALX:XL.calleeOK Tryz.prog 245=true:=by kernel_rfl
theorem ALW:XL.calleeOK Tryz.prog 247=true:=by kernel_rfl
theorem ALV:XL.calleeOK Tryz.prog 252=true:=by kernel_rfl
theorem AIx:XL.calleeOK Tryz.prog 253=true:=by kernel_rfl
theorem ALU:XL.calleeOK Tryz.prog 254=true:=by kernel_rfl
theorem ALT:XL.calleeOK Tryz.prog 257=true:=by kernel_rfl
theorem AIw:XL.calleeOK Tryz.prog 258=true:=by kernel_rfl
theorem ALS:XL.calleeOK Tryz.prog 259=true:=by kernel_rfl
theorem ALR:XL.calleeOK Tryz.prog 260=true:=by kernel_rfl
theorem ALQ:XL.calleeOK Tryz.prog 261=true:=by kernel_rfl
theorem ALP:XL.calleeOK Tryz.prog 262=true:=by kernel_rfl
theorem AIv:XL.calleeOK Tryz.prog 263=true:=by kernel_rfl
theorem ALO:XL.calleeOK Tryz.prog 264=true:=by kernel_rfl
theorem ALN:XL.calleeOK Tryz.prog 265=true:=by kernel_rfl
theorem AFV:XL.calleeOK Tryz.prog 266=true:=by kernel_rfl
theorem AIu:XL.calleeOK Tryz.prog 267=true:=by kernel_rfl
theorem AIt:XL.calleeOK Tryz.prog 268=true:=by kernel_rfl
theorem AIs:XL.calleeOK Tryz.prog 269=true:=by kernel_rfl
theorem ALM:XL.calleeOK Tryz.prog 270=true:=by kernel_rfl
theorem AIr:XL.calleeOK Tryz.prog 271=true:=by kernel_rfl
theorem ALL:XL.calleeOK Tryz.prog 272=true:=by kernel_rfl
theorem ALK:XL.calleeOK Tryz.prog 273=true:=by kernel_rfl
theorem AIq:XL.calleeOK Tryz.prog 274=true:=by kernel_rfl
theorem AIp:XL.calleeOK Tryz.prog 276=true:=by kernel_rfl
theorem AFU:XL.calleeOK Tryz.prog 279=true:=by kernel_rfl
theorem AIo:XL.calleeOK Tryz.prog 280=true:=by kernel_rfl
theorem ALJ:XL.calleeOK Tryz.prog 281=true:=by kernel_rfl
theorem ALI:XL.calleeOK Tryz.prog 282=true:=by kernel_rfl
theorem ALH:XL.calleeOK Tryz.prog 283=true:=by kernel_rfl
theorem ALG:XL.calleeOK Tryz.prog 284=true:=by kernel_rfl
theorem ALF:XL.calleeOK Tryz.prog 285=true:=by kernel_rfl
theorem AFT:XL.calleeOK Tryz.prog 286=true:=by kernel_rfl
theorem ALE:XL.calleeOK Tryz.prog 287=true:=by kernel_rfl
theorem ALD:XL.calleeOK Tryz.prog 289=true:=by kernel_rfl
theorem ALC:XL.calleeOK Tryz.prog 290=true:=by kernel_rfl

open Go Go.XL
def U64(r:Int):Prop:=0≤r∧r<18446744073709551616
def I64(r:Int):Prop := -9223372036854775808≤r∧r≤9223372036854775807
theorem AAv{a b:Int}(h:0≤a):a.tmod b=a%b:=Int.tmod_eq_emod_of_nonneg h
theorem AId{a b:Int}(h:0≤a):a.tdiv b=a/b:=Int.tdiv_eq_ediv_of_nonneg h

def Ff(r:Int):Bool:=decide (r=0∨1≤r%65536∧r%65536≤512∧r/65536≤1048576)
def Hu(r:Int):Prop:=¬r=0∧Ff r=true
instance (r:Int):Decidable (Hu r):=inferInstanceAs (Decidable (_∧_))
def Bk(r:Int):Int:=if Hu r then r%65536-1 else -1
def AD3(r:Int):Int:=if Hu r then r/65536 else 0
def isR(p g:Int):Bool:=decide (0≤p∧p<512∧0≤g∧g≤1048576)
def ofR(p g:Int):Int:=g*65536+p+1

theorem Ib(r:Int):Ff r=true↔(r=0∨1≤r%65536∧r%65536≤512∧r/65536≤1048576):=by
 unfold Ff;exact decide_eq_true_iff
theorem Yt(r:Int):Hu r↔(¬r=0∧1≤r%65536∧r%65536≤512∧r/65536≤1048576):=by
 unfold Hu;rw[Ib]
 constructor
 ·rintro⟨h1,h2⟩;exact⟨h1,h2.resolve_left h1⟩
 ·rintro⟨h1,h2⟩;exact⟨h1,.inr h2⟩

theorem Qn(r:Int)(hr:U64 r)(w:World):FC Tryz.prog 239 [.int .u64 r] w (Val (.bool (Ff r)) w):=by
 unfold U64 at hr
 refine As Tryz.func239 rfl Tryz.ntmps239 rfl ?_
 have S:=Ax w
 refine Ac<|Aa rfl<|Ah rfl<|Ae<|Ab<|Ac<|Aa rfl<|Af rfl<|Ak (.as (v':=.int .u64 (r%65536)) (.rem rfl rfl (by decide)) (by rw[AAv hr.1]))<|Ah rfl<|Ae<|Ab<|Ac<|Aa rfl<|Af rfl<|Bc rfl rfl rfl ?_;refine Af rfl<|Bn 8 rfl (fun h1=>?_) (fun h1=>?_)
 ·
  refine Bd 11 rfl<|Br rfl rfl<|Ah rfl<|Ae<|Ab<|Bb 2 rfl rfl rfl ?_
  first|exact⟨congrArg Value.bool (decide_eq_true (by omega)).symm,S⟩|exact⟨congrArg Value.bool (decide_eq_false (by omega)).symm,S⟩|exact⟨congrArg Value.bool (decide_eq_decide.2 (by omega)),S⟩
 ·
  refine Af rfl<|Bc rfl rfl rfl<|Af rfl<|Bn 11 rfl (fun h2=>?_) (fun h2=>?_)
  ·
   refine Af rfl<|Bc rfl rfl rfl<|Br rfl rfl<|Af rfl<|Bn 15 rfl (fun h3=>?_) (fun h3=>?_)
   ·
    refine Af rfl<|Ak (.as (.quo rfl rfl (by decide)) (AAt (y:=r/65536) (by exact AId hr.1) (by omega))) ?_;refine Bc rfl rfl rfl<|Br rfl rfl<|Bq rfl rfl<|Ah rfl<|Ae<|Ab<|Bb 2 rfl rfl rfl ?_
    first|exact⟨congrArg Value.bool (decide_eq_true (by omega)).symm,S⟩|exact⟨congrArg Value.bool (decide_eq_false (by omega)).symm,S⟩|exact⟨congrArg Value.bool (decide_eq_decide.2 (by omega)),S⟩
   ·
    refine Bd 3 rfl<|Bq rfl rfl<|Bq rfl rfl<|Ah rfl<|Ae<|Ab<|Bb 2 rfl rfl rfl ?_
    first|exact⟨congrArg Value.bool (decide_eq_true (by omega)).symm,S⟩|exact⟨congrArg Value.bool (decide_eq_false (by omega)).symm,S⟩|exact⟨congrArg Value.bool (decide_eq_decide.2 (by omega)),S⟩
  ·
   refine Bd 2 rfl<|Bq rfl rfl<|Af rfl<|Bd 3 rfl<|Bq rfl rfl<|Bq rfl rfl<|Ah rfl<|Ae<|Ab<|Bb 2 rfl rfl rfl ?_
   first|exact⟨congrArg Value.bool (decide_eq_true (by omega)).symm,S⟩|exact⟨congrArg Value.bool (decide_eq_false (by omega)).symm,S⟩|exact⟨congrArg Value.bool (decide_eq_decide.2 (by omega)),S⟩
theorem AB1(r:Int)(hr:U64 r)(w:World):FC Tryz.prog 231 [.int .u64 r] w (Val (.int .i64 (r%65536-1)) w):=by
 unfold U64 at hr
 refine As Tryz.func231 rfl Tryz.ntmps231 rfl ?_
 have S:=Ax w
 refine Ac<|Aa rfl<|Ah rfl<|Ae<|Ab<|Ac<|Aa rfl<|Af rfl<|Ak (.as (v':=.int .u64 (r%65536)) (.rem rfl rfl (by decide)) (by rw[AAv hr.1]))<|Ak (.as (.conv AKo i3 rfl) (Cs (y:=r%65536) (by rfl) (by omega))) ?_;refine Ak (.as (.bin rfl rfl rfl) (Cs (y:=r%65536-1) (by rfl) (by omega)))<|Ah rfl<|Ae<|Ab<|Bb 2 rfl rfl rfl ?_
 exact⟨rfl,S⟩
theorem AEy(r:Int)(hr:U64 r)(w:World):FC Tryz.prog 247 [.int .u64 r] w (Val (.int .i64 (r/65536)) w):=by
 unfold U64 at hr
 refine As Tryz.func247 rfl Tryz.ntmps247 rfl ?_
 have S:=Ax w
 refine Ac<|Aa rfl<|Ah rfl<|Ae<|Ab<|Ac<|Aa rfl<|Af rfl<|Ak (.as (.quo rfl rfl (by decide)) (AAt (y:=r/65536) (by exact AId hr.1) (by omega))) ?_;refine Ak (.as (.conv AKo i3 rfl) (Cs (y:=r/65536) (by rfl) (by omega))) ?_;refine Ah rfl<|Ae<|Ab<|Bb 2 rfl rfl rfl ?_
 exact⟨rfl,S⟩
theorem AAq(r:Int)(hr:U64 r)(w:World):FC Tryz.prog 230 [.int .u64 r,.func (.func 231) #[] #[],.int .i64 (-1)] w (Val (.int .i64 (Bk r)) w):=by
 refine As Tryz.func230 rfl Tryz.ntmps230 rfl ?_
 have S:=Ax w
 refine Ac<|Aa rfl<|Ah rfl<|Ae<|Ab<|Ac<|Ac<|Aa rfl<|Af rfl<|Bc rfl rfl rfl<|Af rfl<|Bn 9 rfl (fun h1=>?_) (fun h1=>?_)
 ·
  refine Bd 3 rfl<|Br rfl rfl<|Ae<|Ab<|Bm rfl<|Ac<|Aa rfl<|Af rfl<|Ah rfl<|Ae<|Ab<|Bb 6 rfl rfl rfl ?_
  first|exact⟨congrArg (Value.int .i64) (if_neg (fun h:Hu r=>by first|exact h.1 (by assumption)|simp_all [h.2])).symm,S⟩|exact⟨congrArg (Value.int .i64) (if_pos (show Hu r from⟨by assumption,by simpa using ‹(!Ff r)=false›⟩)).symm,S⟩
 ·
  refine Af rfl<|Az rfl AFX (Qn r hr w) ?_;rintro _ w2 ⟨rfl,s3⟩;have S:=S.trans s3;refine Ak (.not rfl)<|Bq rfl rfl<|Ae<|Ab<|Db rfl (fun h4=>?_) (fun h4=>?_)
  ·
   refine Ac<|Aa rfl<|Af rfl<|Ah rfl<|Ae<|Ab<|Bb 6 rfl rfl rfl ?_
   first|exact⟨congrArg (Value.int .i64) (if_neg (fun h:Hu r=>by first|exact h.1 (by assumption)|simp_all [h.2])).symm,S⟩|exact⟨congrArg (Value.int .i64) (if_pos (show Hu r from⟨by assumption,by simpa using ‹(!Ff r)=false›⟩)).symm,S⟩
  ·
   refine Ao<|Ab<|Ac<|Aa rfl<|Af rfl<|Af rfl<|Dl rfl rfl (us:=[]) (cs:=[]) ALa (AB1 r hr w2) rfl rfl ?_;rintro _ w5 ⟨rfl,s6⟩;have S:=S.trans s6;refine Ah rfl<|Ae<|Ab<|Bb 6 rfl rfl rfl ?_
   first|exact⟨congrArg (Value.int .i64) (if_neg (fun h:Hu r=>by first|exact h.1 (by assumption)|simp_all [h.2])).symm,S⟩|exact⟨congrArg (Value.int .i64) (if_pos (show Hu r from⟨by assumption,by simpa using ‹(!Ff r)=false›⟩)).symm,S⟩
theorem ACo(r:Int)(hr:U64 r)(w:World):FC Tryz.prog 230 [.int .u64 r,.func (.func 247) #[] #[],.int .i64 0] w (Val (.int .i64 (AD3 r)) w):=by
 refine As Tryz.func230 rfl Tryz.ntmps230 rfl ?_
 have S:=Ax w
 refine Ac<|Aa rfl<|Ah rfl<|Ae<|Ab<|Ac<|Ac<|Aa rfl<|Af rfl<|Bc rfl rfl rfl<|Af rfl<|Bn 9 rfl (fun h1=>?_) (fun h1=>?_)
 ·
  refine Bd 3 rfl<|Br rfl rfl<|Ae<|Ab<|Bm rfl<|Ac<|Aa rfl<|Af rfl<|Ah rfl<|Ae<|Ab<|Bb 6 rfl rfl rfl ?_
  first|exact⟨congrArg (Value.int .i64) (if_neg (fun h:Hu r=>by first|exact h.1 (by assumption)|simp_all [h.2])).symm,S⟩|exact⟨congrArg (Value.int .i64) (if_pos (show Hu r from⟨by assumption,by simpa using ‹(!Ff r)=false›⟩)).symm,S⟩
 ·
  refine Af rfl<|Az rfl AFX (Qn r hr w) ?_;rintro _ w2 ⟨rfl,s3⟩;have S:=S.trans s3;refine Ak (.not rfl)<|Bq rfl rfl<|Ae<|Ab<|Db rfl (fun h4=>?_) (fun h4=>?_)
  ·
   refine Ac<|Aa rfl<|Af rfl<|Ah rfl<|Ae<|Ab<|Bb 6 rfl rfl rfl ?_
   first|exact⟨congrArg (Value.int .i64) (if_neg (fun h:Hu r=>by first|exact h.1 (by assumption)|simp_all [h.2])).symm,S⟩|exact⟨congrArg (Value.int .i64) (if_pos (show Hu r from⟨by assumption,by simpa using ‹(!Ff r)=false›⟩)).symm,S⟩
  ·
   refine Ao<|Ab<|Ac<|Aa rfl<|Af rfl<|Af rfl<|Dl rfl rfl (us:=[]) (cs:=[]) ALW (AEy r hr w2) rfl rfl ?_;rintro _ w5 ⟨rfl,s6⟩;have S:=S.trans s6;refine Ah rfl<|Ae<|Ab<|Bb 6 rfl rfl rfl ?_
   first|exact⟨congrArg (Value.int .i64) (if_neg (fun h:Hu r=>by first|exact h.1 (by assumption)|simp_all [h.2])).symm,S⟩|exact⟨congrArg (Value.int .i64) (if_pos (show Hu r from⟨by assumption,by simpa using ‹(!Ff r)=false›⟩)).symm,S⟩
theorem Je(r:Int)(hr:U64 r)(w:World):FC Tryz.prog 169 [.int .u64 r] w (Val (.int .i64 (Bk r)) w):=by
 refine As Tryz.func169 rfl Tryz.ntmps169 rfl ?_
 have S:=Ax w
 refine Ac<|Aa rfl<|Ah rfl<|Ae<|Ab<|Ac<|Aa rfl<|Af rfl<|Az rfl AIz (AAq r hr w) ?_;rintro _ w1 ⟨rfl,s2⟩;have S:=S.trans s2;refine Ah rfl<|Ae<|Ab<|Bb 2 rfl rfl rfl ?_
 exact⟨rfl,S⟩
theorem AG6(r:Int)(hr:U64 r)(w:World):FC Tryz.prog 193 [.int .u64 r] w (Val (.int .i64 (AD3 r)) w):=by
 refine As Tryz.func193 rfl Tryz.ntmps193 rfl ?_
 have S:=Ax w
 refine Ac<|Aa rfl<|Ah rfl<|Ae<|Ab<|Ac<|Aa rfl<|Af rfl<|Az rfl AIz (ACo r hr w) ?_;rintro _ w1 ⟨rfl,s2⟩;have S:=S.trans s2;refine Ah rfl<|Ae<|Ab<|Bb 2 rfl rfl rfl ?_
 exact⟨rfl,S⟩
theorem Og(p g:Int):isR p g=true↔0≤p∧p<512∧0≤g∧g≤1048576:=by unfold isR;exact decide_eq_true_iff
theorem AG5(p g:Int)(h:isR p g=true)(w:World):FC Tryz.prog 254 [.int .i64 p,.int .i64 g] w (Val (.tuple #[.int .u64 (ofR p g),.int .i64 0]) w):=by
 have hp:=(Og p g).1 h
 refine As Tryz.func254 rfl Tryz.ntmps254 rfl ?_
 have S:=Ax w
 refine Ac<|Aa rfl<|Ah rfl<|Ah rfl<|Ae<|Ab<|Ac<|Ac<|Aa rfl<|Af rfl<|Ak (.as (v':=.bool false) (.bin rfl rfl rfl) (Bt (by omega)))<|Af rfl<|Af rfl<|Ak (.as (v':=.bool false) (.bin rfl rfl rfl) (Bt (by omega)))<|Bq rfl rfl<|Af rfl ?_;refine Af rfl<|Ak (.as (v':=.bool false) (.bin rfl rfl rfl) (Bt (by omega)))<|Bq rfl rfl<|Af rfl<|Af rfl<|Ak (.as (v':=.bool false) (.bin rfl rfl rfl) (Bt (by omega)))<|Bq rfl rfl<|Ae<|Ab<|Bw rfl<|Ao<|Ab<|Ac<|Aa rfl<|Af rfl<|Ak (.as (.bin rfl rfl rfl) (Cs (y:=g*65536) (by rfl) (by omega))) ?_;refine Af rfl<|Ak (.as (.bin rfl rfl rfl) (Cs (y:=g*65536+p) (by rfl) (by omega)))<|Ak (.as (.bin rfl rfl rfl) (Cs (y:=g*65536+p+1) (by rfl) (by omega)))<|Ak (.as (.conv i3 i31 rfl) (AAt (y:=g*65536+p+1) (by rfl) (by omega))) ?_;refine Ah rfl<|Ah rfl<|Ae<|Ab<|Bo (rs:=[.tmp 4,.tmp 5]) (vs:=[_,_]) rfl rfl ⟨rfl,rfl,trivial⟩ ?_
 exact⟨rfl,S⟩
theorem AHt{p g:Int}(h:isR p g=true):U64 (ofR p g):=by
 have hp:=(Og p g).1 h
 unfold U64 ofR;omega
theorem ABD{p g:Int}(h:isR p g=true):Hu (ofR p g):=by
 have hp:=(Og p g).1 h
 rw[Yt];unfold ofR;omega
theorem Ys{p g:Int}(h:isR p g=true):Bk (ofR p g)=p:=by
 have hp:=(Og p g).1 h
 rw[Bk,if_pos (ABD h)];unfold ofR;omega
theorem AHz{p g:Int}(h:isR p g=true):AD3 (ofR p g)=g:=by
 have hp:=(Og p g).1 h
 rw[AD3,if_pos (ABD h)];unfold ofR;omega

end Go.Proofs.YtbjmllnddanniaaGreat
set_option linter.unusedVariables false
set_option linter.unusedSimpArgs false
set_option maxRecDepth 4000
namespace Go.Proofs.YtbjmllnddanniaaGreat
open Go Go.XL
structure Node where
 kind:Int
 gen:Int
 n:Int
 v:Int
 s:Int
 k0:Int
 k1:Int
 k2:Int
 k3:Int
 k4:Int
 k5:Int
 k6:Int
 k7:Int
 k8:Int
 pre:Int
 suf:Int
 deriving DecidableEq

def u6(x:Int):Value:=.int .u64 x
def i6(x:Int):Value:=.int .i64 x
def Node.kids(x:Node):List Int:=[x.k0,x.k1,x.k2,x.k3,x.k4,x.k5,x.k6,x.k7,x.k8]
def Node.cells(x:Node):List Value :=
 [.int .i64 x.kind,.int .i64 x.gen,.int .i64 x.n,.int .i64 x.v,.int .i64 x.s,.int .u64 x.k0,.int .u64 x.k1,.int .u64 x.k2,.int .u64 x.k3,.int .u64 x.k4,.int .u64 x.k5,.int .u64 x.k6,.int .u64 x.k7,.int .u64 x.k8,.int .i64 x.pre,.int .i64 x.suf]
def Node.val(x:Node):Value:=.agg x.cells.toArray
def Eg(g:Int):Node:=⟨0,g,0,0,0,0,0,0,0,0,0,0,0,0,0,0⟩
structure Node.ok (x:Node):Prop where
 kind:I64 x.kind
 gen:I64 x.gen
 n:I64 x.n
 v:I64 x.v
 s:I64 x.s
 kids:∀k∈x.kids,U64 k
 pre:I64 x.pre
 suf:I64 x.suf
theorem z64:I64 0:=by unfold I64;omega
theorem AMJ:U64 0:=by unfold U64;omega
theorem ABj{g:Int}(h:I64 g):(Eg g).ok :=
 ⟨z64,h,z64,z64,z64,fun k hk=>by
  simp[Node.kids,Eg] at hk
  subst hk
  exact AMJ,z64,z64⟩
theorem Ce{α:Type}{l:List α}{i:Nat}(h:i<l.length):∃x,l[i]?=some x:=⟨_,List.getElem?_eq_getElem h⟩
theorem Cc{α:Type}{l:List α}{i:Nat}{x:α}(h:l[i]?=some x):i<l.length:=by
 rcases Nat.lt_or_ge i l.length with q|q
 ·exact q
 ·rw[List.getElem?_eq_none q] at h;cases h
theorem Ex{α:Type}{l:List α}{i:Nat}{x:α}(h:l[i]?=some x)(hi:i<l.length):l[i]=x:=by
 rw[List.getElem?_eq_getElem hi] at h;cases h;rfl

def well(x:Node):Bool:=decide (0≤x.gen∧x.gen≤1048576∧0≤x.pre∧x.pre≤9∧0≤x.suf∧x.suf≤9)&&x.kids.all Ff
theorem Ga(x:Node):well x=true↔(0≤x.gen∧x.gen≤1048576∧0≤x.pre∧x.pre≤9∧0≤x.suf∧x.suf≤9)∧x.kids.all Ff=true:=by
 unfold well;rw[Bool.and_eq_true,decide_eq_true_iff]

structure Ar where
 nodes:List Node
 free:List Int
structure AOk (A:Ar):Prop where
 one:1≤A.nodes.length
 most:A.nodes.length≤512
 fit:A.free.length≤A.nodes.length
 free:∀x∈A.free,0≤x∧x<A.nodes.length
 nodup:A.free.Nodup
 well:∀x∈A.nodes,well x=true
 kind:∀(i:Nat) x,A.nodes[i]?=some x→(x.kind=0↔(i:Int)∈A.free)
 bare:∀(i:Nat) x,A.nodes[i]?=some x→(i:Int)∈A.free→x=Eg x.gen

def I1(l:List Int):List (List Value):=l.map fun x=>[i6 x]
structure ArR (w:World) (na fa:Option Addr) (A:Ar):Prop where
 nodes:Sl w na 16 (A.nodes.map Node.cells)
 free:Sl w fa 1 (A.free.map fun x=>[i6 x])
 nok:∀x∈A.nodes,x.ok
 fok:∀x∈A.free,I64 x
theorem ArR.sub{w w' na fa A}(h:ArR w na fa A)(s:Sub w w'):ArR w' na fa A:=⟨h.nodes.sub s,h.free.sub s,h.nok,h.fok⟩
def arV(na fa:Option Addr)(nc fc:Nat)(A:Ar):Value:=.agg #[.slice na A.nodes.length nc,.slice fa A.free.length fc]

theorem AH5(r:Int)(hr:U64 r)(w:World):FC Tryz.prog 238 [.int .u64 r] w (Val (.bool (!Ff r)) w):=by
 refine As Tryz.func238 rfl Tryz.ntmps238 rfl ?_
 have S:=Ax w
 refine Ac<|Aa rfl<|Ah rfl<|Ae<|Ab<|Ac<|Aa rfl<|Af rfl<|Az rfl AFX (Qn r hr w) ?_;rintro _ w1 ⟨rfl,s2⟩;have S:=S.trans s2;refine Ak (.not rfl)<|Ah rfl<|Ae<|Ab<|Bb 2 rfl rfl rfl ?_
 exact⟨rfl,S⟩

def Ke{α:Type}(p:α→Bool)(l:List α):Int:=if l.any p then(l.findIdx p:Int) else -1
theorem ACq(p:Int→Bool)(l:List Int)(a:Option Addr)(c:Nat)(f:FuncId)(hf:calleeOK Tryz.prog f=true)(us cs:List Value)(w:World)(hs:Sl w a 1 (l.map fun x=>[u6 x]))(hlen:l.length≤1000000)
  (hp:∀x∈l,∀w',Sub w w'→FC Tryz.prog f (us++[u6 x]++cs) w' (Val (.bool (p x)) w')) :
  FC Tryz.prog 241 [.slice a l.length c,.func (.func f) us.toArray cs.toArray] w (Val (.int .i64 (Ke p l)) w):=by
 refine As Tryz.func241 rfl Tryz.ntmps241 rfl ?_
 have S:=Ax w
 refine Ac<|Aa rfl<|Ah rfl<|Ae<|Ab<|Ac<|Ac<|Aa rfl<|Af rfl<|Cm Kw rfl<|Af rfl<|Ae<|Ab<|Bh<|Cw (α:=Nat) (fun i=>[(0,.slice a l.length c),(1,.func (.func f) us.toArray cs.toArray),(7,.int .i64 (l.length:Int)),(8,.int .i64 (i:Int))]) (fun i w1=>i≤l.length∧(∀j x,l[j]?=some x→j<i→p x=false)∧Sub w w1) (fun i=>l.length-i) 0 (Bf (by repeat (first|exact trivial|refine And.intro rfl ?_))) (⟨Nat.zero_le _,fun j x _ h=>absurd h (by omega),S⟩) (fun i w1 hJ=>?_)
 obtain⟨hi,hn,S⟩:=hJ
 refine Ac<|Aa rfl<|Bc rfl rfl rfl<|Ae<|Ab<|Ac<|An rfl (fun h2=>?_) (fun h2=>?_)
 ·
  obtain⟨x,hx⟩:=Ce (l:=l) (i:=i) (by omega)
  refine Ao<|Ab<|Ac<|Bh<|Ac<|Aa rfl<|Af rfl<|Ah rfl<|Ae<|Ab<|Ac<|Aa rfl<|Af rfl<|Af rfl<|Af rfl<|Ak (.indexS Kw rfl rfl (by omega) (hs.is (i:=0) (by simp only[Aj,Al,Am];omega))) ?_;refine Ak (.load1 Dm rfl ((hs.sub S).one (enc:=u6) (i:=i) hx))<|Dl rfl rfl (us:=us) (cs:=cs) hf (hp x (Au hx) _ S) rfl rfl ?_;rintro _ w3 ⟨rfl,s4⟩;have S:=S.trans s4;refine Ae<|Ab<|Db rfl (fun h5=>?_) (fun h5=>?_)
  ·
   have hv:=h5
   refine Ac<|Aa rfl<|Af rfl<|Ah rfl<|Ae<|Ab<|Bb 4 rfl rfl rfl ?_
   refine⟨?_,S⟩
   show Value.int .i64 _=_
   congr 1
   rw[Ke,if_pos (List.any_eq_true.2 ⟨x,Au hx,hv⟩)]
   congr 1
   symm
   have hlt:=Cc hx
   rw[List.findIdx_eq hlt]
   exact⟨by rw[Ex hx hlt];exact hv,fun j hj=>hn j _ (List.getElem?_eq_getElem (by omega)) hj⟩
  ·
   have hv:=h5
   refine Ao<|Ab<|Aa rfl<|Ak (.as (.bin rfl rfl rfl) (Cs (y:=((i+1:Nat):Int)) (by omega) (by omega)))<|Af rfl ?_
   exact Ae (fun a ka=>⟨i+1,⟨by omega,fun j x hj h=>(Nat.lt_succ_iff_lt_or_eq.1 h).elim (hn j x hj) (fun e=>by subst e;rw[hx] at hj;cases hj;exact hv),S⟩,by omega,ka.keep (Bf (by repeat (first|exact trivial|refine And.intro rfl ?_)))⟩)
 ·
  refine Co rfl<|Ab<|Ac<|Aa rfl<|Ah rfl<|Ae<|Ab<|Bb 4 rfl rfl rfl ?_
  refine⟨?_,S⟩
  show Value.int .i64 _=_
  congr 1
  rw[Ke,if_neg]
  intro hh
  obtain⟨x,hx,hpx⟩:=List.any_eq_true.1 hh
  obtain⟨j,hj,rfl⟩:=List.getElem_of_mem hx
  have:=hn j _ (List.getElem?_eq_getElem hj) (by omega)
  rw[this] at hpx
  cases hpx

theorem Xt(p:Int→Bool)(l:List Int)(a:Option Addr)(c:Nat)(f:FuncId)(hf:calleeOK Tryz.prog f=true)(us cs:List Value)(w:World)(hs:Sl w a 1 (l.map fun x=>[u6 x]))(hlen:l.length≤1000000)
  (hp:∀x∈l,∀w',Sub w w'→FC Tryz.prog f (us++[u6 x]++cs) w' (Val (.bool (p x)) w')) :
  FC Tryz.prog 186 [.slice a l.length c,.func (.func f) us.toArray cs.toArray] w (Val (.bool (l.any p)) w):=by
 refine As Tryz.func186 rfl Tryz.ntmps186 rfl ?_
 have S:=Ax w
 refine Ac<|Aa rfl<|Ah rfl<|Ae<|Ab<|Ac<|Aa rfl<|Af rfl<|Af rfl<|Az rfl AIy (ACq p l a c f hf us cs w (hs.sub S) hlen (fun x hx w' s=>hp x hx w' (S.trans s))) ?_;rintro _ w1 ⟨rfl,s2⟩;have S:=S.trans s2;refine Bc rfl rfl rfl<|Ah rfl<|Ae<|Ab<|Bb 4 rfl rfl rfl ?_
 refine⟨?_,S⟩
 show Value.bool _=_
 congr 1
 unfold Ke
 cases h:l.any p with
 |true=>exact decide_eq_true (by rw[if_pos rfl];exact Int.natCast_nonneg _)
 |false=>exact decide_eq_false (by rw[if_neg (by decide)];decide)

theorem AIW{α:Type}(p:α→Bool)(l:List α):(!l.any fun x => !p x)=l.all p:=by
 induction l with
 |nil=>rfl
 |cons x l ih=>simp[←ih]
theorem AF6(x:Node)(hx:x.ok)(w:World):FC Tryz.prog 182 [x.val] w (Val (.bool (well x)) w):=by
 refine As Tryz.func182 rfl Tryz.ntmps182 rfl ?_
 have S:=Ax w
 refine Ac<|Aa rfl<|Bu rfl rfl rfl (fun f b e d a c=>?_);have S:=S.trans c;refine Ah rfl<|Ae<|Ab<|Ac<|Ac<|Aa rfl<|Av Gv rfl<|Ba sh3 rfl a rfl<|Bc rfl rfl rfl<|Af rfl<|Bn 6 rfl (fun h1=>?_) (fun h1=>?_)
 ·
  refine Bd 3 rfl<|Br rfl rfl<|Af rfl<|Bd 3 rfl<|Br rfl rfl<|Af rfl<|Bd 3 rfl<|Br rfl rfl<|Af rfl<|Bd 3 rfl<|Br rfl rfl<|Af rfl<|Bd 3 rfl<|Br rfl rfl<|Ae (Ab ?_);refine Bm rfl<|Ac<|Aa rfl<|Ah rfl<|Ae<|Ab<|Bb 2 rfl rfl rfl ?_
  refine⟨?_,S⟩
  show Value.bool _=_
  congr 1
  symm
  rw[Bool.eq_false_iff]
  intro h
  have:=(Ga x).1 h
  omega
 ·
  refine Av Gv rfl<|Ba sh3 rfl a rfl<|Bc rfl rfl rfl<|Bq rfl rfl<|Af rfl<|Bn 11 rfl (fun h2=>?_) (fun h2=>?_)
  ·
   refine Bd 3 rfl<|Br rfl rfl<|Af rfl<|Bd 3 rfl<|Br rfl rfl<|Af rfl<|Bd 3 rfl<|Br rfl rfl<|Af rfl<|Bd 3 rfl<|Br rfl rfl<|Ae<|Ab<|Bm rfl<|Ac<|Aa rfl ?_;refine Ah rfl<|Ae<|Ab<|Bb 2 rfl rfl rfl ?_
   refine⟨?_,S⟩
   show Value.bool _=_
   congr 1
   symm
   rw[Bool.eq_false_iff]
   intro h
   have:=(Ga x).1 h
   omega
  ·
   refine Av ADk rfl<|Ba sh3 rfl a rfl<|Bc rfl rfl rfl<|Bq rfl rfl<|Af rfl<|Bn 16 rfl (fun h3=>?_) (fun h3=>?_)
   ·
    refine Bd 3 rfl<|Br rfl rfl<|Af rfl<|Bd 3 rfl<|Br rfl rfl<|Af rfl<|Bd 3 rfl<|Br rfl rfl<|Ae<|Ab<|Bm rfl<|Ac<|Aa rfl<|Ah rfl<|Ae (Ab ?_);refine Bb 2 rfl rfl rfl ?_
    refine⟨?_,S⟩
    show Value.bool _=_
    congr 1
    symm
    rw[Bool.eq_false_iff]
    intro h
    have:=(Ga x).1 h
    omega
   ·
    refine Av ADk rfl<|Ba sh3 rfl a rfl<|Bc rfl rfl rfl<|Bq rfl rfl<|Af rfl<|Bn 21 rfl (fun h4=>?_) (fun h4=>?_)
    ·
     refine Bd 3 rfl<|Br rfl rfl<|Af rfl<|Bd 3 rfl<|Br rfl rfl<|Ae<|Ab<|Bm rfl<|Ac<|Aa rfl<|Ah rfl<|Ae<|Ab<|Bb 2 rfl rfl rfl ?_
     refine⟨?_,S⟩
     show Value.bool _=_
     congr 1
     symm
     rw[Bool.eq_false_iff]
     intro h
     have:=(Ga x).1 h
     omega
    ·
     refine Av ADj rfl<|Ba sh3 rfl a rfl<|Bc rfl rfl rfl<|Bq rfl rfl<|Af rfl<|Bn 26 rfl (fun h5=>?_) (fun h5=>?_)
     ·
      refine Bd 3 rfl<|Br rfl rfl<|Ae<|Ab<|Bm rfl<|Ac<|Aa rfl<|Ah rfl<|Ae<|Ab<|Bb 2 rfl rfl rfl ?_
      refine⟨?_,S⟩
      show Value.bool _=_
      congr 1
      symm
      rw[Bool.eq_false_iff]
      intro h
      have:=(Ga x).1 h
      omega
     ·
      refine Av ADj rfl<|Ba sh3 rfl a rfl<|Bc rfl rfl rfl<|Bq rfl rfl<|Ae<|Ab<|An rfl (fun h6=>?_) (fun h6=>?_)
      ·
       refine Ac<|Aa rfl<|Ah rfl<|Ae<|Ab<|Bb 2 rfl rfl rfl ?_
       refine⟨?_,S⟩
       show Value.bool _=_
       congr 1
       symm
       rw[Bool.eq_false_iff]
       intro h
       have:=(Ga x).1 h
       omega
      ·
       refine Ao<|Ab<|Ac<|Aa rfl<|Av Da rfl<|Ak (.sliceArr Eb rfl)<|Az rfl AI6 (Xt (fun r => !Ff r) x.kids _ 9 238 ALZ [] [] b (Xg (pre:=[i6 x.kind,i6 x.gen,i6 x.n,i6 x.v,i6 x.s]) (post:=[i6 x.pre,i6 x.suf]) a rfl) (Nat.le_of_ble_eq_true rfl) (fun r hr w' _=>AH5 r (hx.kids r hr) w')) ?_;rintro _ w7 ⟨rfl,s8⟩;have S:=S.trans s8;refine Ak (.not rfl)<|Ah rfl<|Ae<|Ab<|Bb 2 rfl rfl rfl ?_
       refine⟨?_,S⟩
       show Value.bool _=_
       congr 1
       rw[AIW]
       unfold well
       rw[decide_eq_true (by omega)]
       rfl

noncomputable def aokB (A:Ar):Bool:=@decide (AOk A) (Classical.propDecidable _)
theorem Hd(A:Ar):aokB A=true↔AOk A:=by unfold aokB;exact @decide_eq_true_iff _ (Classical.propDecidable _)

def Kr(A:Ar)(i:Nat):List Bool:=(List.range A.nodes.length).map fun(p:Nat)=>decide ((p:Int)∈A.free.take i)
theorem Pb(A:Ar)(i:Nat):(Kr A i).length=A.nodes.length:=by simp[Kr]
theorem Pc(A:Ar)(i:Nat)(x:Int)(h:0≤x∧x<A.nodes.length):(Kr A i)[x.toNat]?=some (decide (x∈A.free.take i)):=by
 have h1:x.toNat<A.nodes.length:=by omega
 simp only[Kr,List.getElem?_map,List.getElem?_range h1,Option.map_some]
 rw[Int.toNat_of_nonneg h.1]
theorem Lg{l:List Int}{i:Nat}{x y:Int}(hy:l[i]?=some y):x∈l.take (i+1)↔x∈l.take i∨x=y:=by
 rw[List.take_add_one,hy];simp
theorem AEe(A:Ar)(i:Nat)(x:Int)(hx:A.free[i]?=some x)(h:0≤x∧x<A.nodes.length):(Kr A i).set x.toNat true=Kr A (i+1):=by
 apply List.ext_getElem?
 intro k
 rw[List.getElem?_set,Pb]
 by_cases hk:k<A.nodes.length
 ·have h2:=Pc A (i+1) k (by omega)
  have h3:=Pc A i k (by omega)
  rw[Int.toNat_natCast] at h2 h3
  rw[h2,h3]
  by_cases e:x.toNat=k
  ·rw[if_pos e,if_pos (by omega)]
   congr 1;symm
   rw[decide_eq_true_iff,Lg hx]
   exact .inr (by omega)
  ·rw[if_neg e]
   congr 1
   rw[decide_eq_decide,Lg hx]
   exact⟨.inl,fun h=>h.resolve_right (by omega)⟩
 ·rw[List.getElem?_eq_none (l:=Kr A (i+1)) (by rw[Pb];omega),List.getElem?_eq_none (l:=Kr A i) (by rw[Pb];omega)]
  by_cases e:x.toNat=k
  ·rw[if_pos e,if_neg (by omega)]
  ·rw[if_neg e]
theorem AH1(A:Ar):Kr A 0=List.replicate A.nodes.length false:=by
 apply List.ext_getElem?
 intro k
 simp[Kr,List.getElem?_replicate,List.getElem?_range]
 by_cases h:k<A.nodes.length
 ·simp[h]
 ·simp[h]
theorem AEf(A:Ar)(i:Nat)(h:i=A.free.length)(k:Nat)(hk:k<A.nodes.length):(Kr A i)[k]?=some (decide ((k:Int)∈A.free)):=by
 have:=Pc A i k (by omega)
 rw[Int.toNat_natCast,h,List.take_length] at this
 rw[h];exact this
theorem Na{l:List Int}{i:Nat}{y:Int}(hy:l[i]?=some y):(l.take (i+1)).Nodup↔(l.take i).Nodup∧y∉l.take i:=by
 rw[List.take_add_one,hy,Option.toList_some,List.nodup_append]
 constructor
 ·rintro⟨h1,_,h3⟩;exact⟨h1,fun h=>h3 _ h _ (List.mem_singleton.2 rfl) rfl⟩
 ·rintro⟨h1,h2⟩
  exact⟨h1,by simp,fun a ha b hb e=>by rw[List.mem_singleton] at hb;subst hb;subst e;exact h2 ha⟩
structure Pre1 (A:Ar) (i:Nat):Prop where
 rng:∀x∈A.free.take i,0≤x∧x<A.nodes.length
 nd:(A.free.take i).Nodup
theorem Pre1.succ{A:Ar}{i:Nat}{x:Int}(h:Pre1 A i)(hx:A.free[i]?=some x)(hr:0≤x∧x<A.nodes.length)(hn:x∉A.free.take i):Pre1 A (i+1) :=
 ⟨fun y hy=>((Lg hx).1 hy).elim (h.rng y) (fun e=>e▸hr),(Na hx).2 ⟨h.nd,hn⟩⟩
def Pre2(A:Ar)(i:Nat):Prop:=∀(j:Nat) x,A.nodes[j]?=some x→j<i→well x=true∧(x.kind=0↔(j:Int)∈A.free)∧((j:Int)∈A.free→x=Eg x.gen)
theorem Pre2.succ{A:Ar}{i:Nat}{x:Node}(h:Pre2 A i)(hx:A.nodes[i]?=some x)(hr:well x=true∧(x.kind=0↔(i:Int)∈A.free)∧((i:Int)∈A.free→x=Eg x.gen)):Pre2 A (i+1) :=
 fun j y hy hj=>(Nat.lt_succ_iff_lt_or_eq.1 hj).elim (h j y hy) (fun e=>by subst e;rw[hx] at hy;cases hy;exact hr)
theorem AKQ{A:Ar}(h1:1≤A.nodes.length∧A.nodes.length≤512∧A.free.length≤A.nodes.length)(p1:Pre1 A A.free.length)(p2:Pre2 A A.nodes.length):AOk A :=
  ⟨h1.1,h1.2.1,h1.2.2,by have:=p1.rng;rwa [List.take_length] at this,by have:=p1.nd;rwa [List.take_length] at this,
   fun x hx=>by obtain⟨j,hj⟩:=List.getElem?_of_mem hx;exact(p2 j x hj (Cc hj)).1,
   fun i x hx=>(p2 i x hx (Cc hx)).2.1,fun i x hx=>(p2 i x hx (Cc hx)).2.2⟩
theorem AAQ{A:Ar}(h:AOk A){i:Nat}{x:Node}(hx:A.nodes[i]?=some x):well x=true∧(x.kind=0↔(i:Int)∈A.free)∧((i:Int)∈A.free→x=Eg x.gen) :=
 ⟨h.well x (Au hx),h.kind i x hx,h.bare i x hx⟩
theorem ACu{A:Ar}(h:AOk A){i:Nat}{x:Int}(hx:A.free[i]?=some x):x∉A.free.take i:=by
 have:(A.free.take (i+1)).Nodup:=h.nodup.sublist (List.take_sublist _ _)
 exact((Na hx).1 this).2
theorem Jw{A:Ar}(h:¬AOk A):aokB A=false:=by rw[Bool.eq_false_iff];exact fun e=>h ((Hd A).1 e)
theorem Lt{A:Ar}(h:AOk A):aokB A=true:=(Hd A).2 h
theorem Gl(x y:Node):eqL x.cells y.cells=decide (x=y):=by
 cases x;cases y
 simp only[Node.cells,eqL,eq1,Node.mk.injEq,Bool.decide_and,Bool.and_true]
 rfl
theorem Kh(A:Ar)(na fa:Option Addr)(nc fc:Nat)(w:World)(hA:ArR w na fa A):
  FC Tryz.prog 109 [arV na fa nc fc A] w (Val (.bool (aokB A)) w):=by
 have hN:=hA.nodes
 have hFr:=hA.free
 refine As Tryz.func109 rfl Tryz.ntmps109 rfl ?_
 have S:=Ax w
 refine Ac<|Aa rfl<|Bu rfl rfl rfl (fun q u F D b z=>?_);have S:=S.trans z
 have b:Has u q ([.slice na A.nodes.length nc,.slice fa A.free.length fc]) _:=b
 refine Ah rfl<|Ae<|Ab<|Ac<|Ac<|Aa rfl<|Av Et rfl<|Ba Jj rfl b rfl<|Cm Ig rfl<|Bc rfl rfl rfl<|Af rfl<|Bn 12 rfl (fun h1=>?_) (fun h1=>?_)
 ·
  refine Bd 4 rfl<|Br rfl rfl<|Af rfl<|Bd 7 rfl<|Br rfl rfl<|Ae<|Ab<|Bm rfl<|Ac<|Aa rfl<|Ah rfl<|Ae<|Ab<|Bb 2 rfl rfl rfl ?_
  exact⟨congrArg Value.bool (Jw (fun h=>by have:=h.one;have:=h.most;have:=h.fit;omega)).symm,S⟩
 ·
  refine Av Et rfl<|Ba Jj rfl b rfl<|Cm Ig rfl<|Bc rfl rfl rfl<|Bq rfl rfl<|Af rfl<|Bn 18 rfl (fun h2=>?_) (fun h2=>?_)
  ·
   refine Bd 7 rfl<|Br rfl rfl<|Ae<|Ab<|Bm rfl<|Ac<|Aa rfl<|Ah rfl<|Ae<|Ab<|Bb 2 rfl rfl rfl ?_
   exact⟨congrArg Value.bool (Jw (fun h=>by have:=h.one;have:=h.most;have:=h.fit;omega)).symm,S⟩
  ·
   refine Av Ja rfl<|Ba El rfl b rfl<|Cm Dd rfl<|Av Et rfl<|Ba Jj rfl b rfl<|Cm Ig rfl<|Bc rfl rfl rfl<|Bq rfl rfl<|Ae<|Ab<|An rfl (fun h3=>?_) (fun h3=>?_)
   ·
    refine Ac<|Aa rfl<|Ah rfl<|Ae<|Ab<|Bb 2 rfl rfl rfl ?_
    exact⟨congrArg Value.bool (Jw (fun h=>by have:=h.one;have:=h.most;have:=h.fit;omega)).symm,S⟩
   ·
    refine Ao<|Ab<|Ac<|Aa rfl<|Av Et rfl<|Ba Jj rfl b rfl<|Cm Ig rfl<|Dh Jr ze4 rfl rfl rfl rfl (by omega) rfl rfl (fun d o n t k g=>?_);have m:=S.le n;have f:=b.ne n;have S:=S.trans g;have b:=b.sub g
    have hF:Has o d ((Kr A 0).map Value.bool) 4:=by have:=k;rw[AH1,List.map_replicate];rw[Int.toNat_natCast] at this;rw[←AFA];exact this
    refine Ah rfl<|Ae<|Ab<|Ac<|Ac<|Aa rfl<|Av Ja rfl<|Ba El rfl b rfl<|Cm Dd rfl<|Af rfl<|Ae<|Ab<|Bh<|Cw (α:=Nat) (fun i=>[(1,.pointer (some ⟨q,0,none⟩)),(3,.slice (some ⟨d,0,none⟩) A.nodes.length A.nodes.length),(32,.slice fa A.free.length fc),(33,.int .i64 (A.free.length:Int)),(34,.int .i64 (i:Int))]) (fun i w4=>i≤A.free.length∧Pre1 A i∧Has w4 q [.slice na A.nodes.length nc,.slice fa A.free.length fc] 26∧Has w4 d ((Kr A i).map Value.bool) 4∧Sub w w4) (fun i=>A.free.length-i) 0 (Bf (by repeat (first|exact trivial|refine And.intro rfl ?_))) (⟨Nat.zero_le _,⟨fun x hx=>by simp at hx,by simp⟩,b,hF,S⟩) (fun i w4 hJ=>?_)
    obtain⟨hi,hp,b,hF,S⟩:=hJ
    refine Ac<|Aa rfl<|Bc rfl rfl rfl<|Ae<|Ab<|Ac<|An rfl (fun h5=>?_) (fun h5=>?_)
    ·
     obtain⟨y,hy⟩:=Ce (l:=A.free) (i:=i) (by omega)
     refine Ao<|Ab<|Ac<|Bh<|Ac<|Aa rfl<|Ak (.indexS Dd rfl rfl (by omega) (hFr.is (i:=0) (by simp only[Aj,Al,Am];omega)))<|Ak (.load1 sh3 rfl ((hFr.sub S).one (enc:=i6) (i:=i) hy))<|Ah rfl<|Ae<|Ab<|Ac<|Ac<|Aa rfl<|Af rfl<|Bc rfl rfl rfl ?_;refine Af rfl<|Bn 40 rfl (fun h6=>?_) (fun h6=>?_)
     ·
      refine Bd 4 rfl<|Br rfl rfl<|Af rfl<|Bd 4 rfl<|Br rfl rfl<|Ae<|Ab<|Bm rfl<|Ac<|Aa rfl<|Ah rfl<|Ae<|Ab<|Bb 2 rfl rfl rfl ?_
      exact⟨congrArg Value.bool (Jw (fun h=>by have:=h.free y (Au hy);omega)).symm,S⟩
     ·
      refine Af rfl<|Af rfl<|Cm Jr rfl<|Bc rfl rfl rfl<|Bq rfl rfl<|Af rfl<|Bn 46 rfl (fun h7=>?_) (fun h7=>?_)
      ·
       refine Bd 4 rfl<|Br rfl rfl<|Ae<|Ab<|Bm rfl<|Ac<|Aa rfl<|Ah rfl<|Ae<|Ab<|Bb 2 rfl rfl rfl ?_
       exact⟨congrArg Value.bool (Jw (fun h=>by have:=h.free y (Au hy);omega)).symm,S⟩
      ·
       refine Af rfl<|Af rfl<|Ak (.indexO Jr rfl rfl (by omega))<|Ak (.load1 sh4 rfl (hF.cell (v:=.bool (decide (y∈A.free.take i))) (by rw[Nat.mul_one,Nat.zero_add,List.getElem?_map,Pc A i y (by omega)];rfl))) ?_;refine Bq rfl rfl<|Ae<|Ab<|An rfl (fun h8=>?_) (fun h8=>?_)
       ·
        have hbad:=h8
        refine Ac<|Aa rfl<|Ah rfl<|Ae<|Ab<|Bb 2 rfl rfl rfl ?_
        exact⟨congrArg Value.bool (Jw (fun h=>ACu h hy hbad)).symm,S⟩
       ·
        have hno:=h8
        refine Ao<|Ab<|Aa rfl<|Af rfl<|Af rfl<|Ak (.indexO Jr rfl rfl (by omega))<|Cg sh4 rfl rfl rfl hF (by show 0+y.toNat*1+1≤_;rw[Aj,Pb];omega) (by rfl) rfl (fun w9 z9 hF a9=>?_);have S:=S.upd a9 m;have b:=b.upd a9 f
        have hF:=(Ro (enc:=Value.bool) (i:=y.toNat) (x:=true) (by rw[Nat.zero_add,Nat.mul_one] at hF;exact hF))
        rw[AEe A i y hy (by omega)] at hF
        refine Ae<|Ab<|Aa rfl<|Ak (.as (.bin rfl rfl rfl) (Cs (y:=((i+1:Nat):Int)) (by omega) (by omega)))<|Af rfl ?_
        exact Ae (fun a ka=>⟨i+1,⟨by omega,hp.succ hy (by omega) hno,b,hF,S⟩,by omega,ka.keep (Bf (by repeat (first|exact trivial|refine And.intro rfl ?_)))⟩)
    ·
     obtain rfl:i=A.free.length:=by omega
     refine Co rfl<|Ab<|Ac<|Ac<|Aa rfl<|Av Et rfl<|Ba Jj rfl b rfl<|Cm Ig rfl<|Af rfl<|Ae<|Ab<|Bh<|Cw (α:=Nat) (fun i=>[(3,.slice (some ⟨d,0,none⟩) A.nodes.length A.nodes.length),(57,.slice na A.nodes.length nc),(58,.int .i64 (A.nodes.length:Int)),(59,.int .i64 (i:Int))]) (fun i w10=>i≤A.nodes.length∧Pre2 A i∧Has w10 d ((Kr A A.free.length).map Value.bool) 4∧Sub w w10) (fun i=>A.nodes.length-i) 0 (Bf (by repeat (first|exact trivial|refine And.intro rfl ?_))) (⟨Nat.zero_le _,fun j x _ h=>absurd h (by omega),hF,S⟩) (fun i w10 hJ=>?_)
     obtain⟨hi,hq,hF,S⟩:=hJ
     refine Ac<|Aa rfl<|Bc rfl rfl rfl<|Ae<|Ab<|Ac<|An rfl (fun h11=>?_) (fun h11=>?_)
     ·
      obtain⟨x,hx⟩:=Ce (l:=A.nodes) (i:=i) (by omega)
      have hfl:=AEf A _ rfl i (by omega)
      refine Ao<|Ab<|Ac<|Bh<|Ac<|Aa rfl<|Af rfl<|Ak (.indexS Ig rfl rfl (by omega) (hN.is (i:=0) (by simp only[Aj,Al,Am];omega)))<|Ak (.loadR (x.cells) Ct rfl ((hN.sub S).rowAt (enc:=Node.cells) (i:=i) hx) rfl)<|Ay Dx rfl rfl (fun B E s C c r=>?_);have p:=S.le s;have e:=hF.ne s;have S:=S.trans r;have hF:=hF.sub r;refine Ah rfl<|At Ct rfl rfl rfl c (fun w12 z12 c a12=>?_);have S:=S.upd a12 p;have hF:=hF.upd a12 e
      have c:Has w12 B (x.cells) _:=c.now (by kernel_rfl)
      refine Ae<|Ab<|Ac<|Ev rfl mxo (by kernel_rfl)<|Aw (.loadR (x.cells) Ct rfl c.row rfl)<|Ji rfl AI7 (fun w' s'=>AF6 x (hA.nok x (Au hx)) w') rfl rfl<|Aw (.not rfl)<|Cf rfl<|Tg 67 rfl (fun h13=>?_) (fun h13=>?_)
      ·
       have hbad1:¬well x=true:=(by simpa using h13)
       refine Bj<|Bj<|Bj<|Bj<|Bj<|Bj<|Bj<|Bj<|Aw (.pick_t rfl rfl)<|Cf rfl<|Bj<|Bj<|Bj<|Bj<|Bj<|Bj ?_;refine Bj<|Bj<|Bj<|Bj<|Bj<|Aw (.pick_t rfl rfl)<|Dq (fun w14 s15=>Ab ?_);have S:=S.trans s15;have hF:=hF.sub s15;have c:=c.sub s15;refine Bm rfl<|Ac<|Aa rfl<|Ah rfl<|Ae<|Ab<|Bb 2 rfl rfl rfl ?_
       exact⟨congrArg Value.bool (Jw (fun h=>hbad1 (AAQ h hx).1)).symm,S⟩
      ·
       have hw:well x=true:=(by simpa using h13)
       refine Aw (.field0 Es rfl)<|Aw (.load1 sh3 rfl (c.cell rfl))<|Aw (.bin rfl rfl rfl)<|Cf rfl<|Cf rfl<|Aw (.indexO Jr rfl rfl (by omega))<|Aw (.load1 sh4 rfl (hF.cell (v:=.bool (decide ((i:Int)∈A.free))) (by rw[Nat.mul_one,Nat.zero_add,List.getElem?_map,Int.toNat_natCast,hfl];rfl))) ?_;refine Aw (.neB bo4 rfl rfl)<|Aw (.pick_f rfl rfl)<|Cf rfl<|Tg 77 rfl (fun h16=>?_) (fun h16=>?_)
       ·
        have hbad2:¬(x.kind=0↔(i:Int)∈A.free):=(by simpa using h16)
        refine Bj<|Bj<|Bj<|Bj<|Bj<|Bj<|Bj<|Bj<|Bj<|Bj<|Bj<|Aw (.pick_t rfl rfl)<|Dq (fun w17 s18=>Ab ?_);have S:=S.trans s18;have hF:=hF.sub s18;have c:=c.sub s18;refine Bm rfl<|Ac<|Aa rfl<|Ah rfl<|Ae<|Ab<|Bb 2 rfl rfl rfl ?_
        exact⟨congrArg Value.bool (Jw (fun h=>hbad2 (AAQ h hx).2.1)).symm,S⟩
       ·
        have hk:(x.kind=0↔(i:Int)∈A.free):=(by simpa using h16)
        refine Cf rfl<|Cf rfl<|Aw (.indexO Jr rfl rfl (by omega))<|Aw (.load1 sh4 rfl (hF.cell (v:=.bool (decide ((i:Int)∈A.free))) (by rw[Nat.mul_one,Nat.zero_add,List.getElem?_map,Int.toNat_natCast,hfl];rfl))) ?_;refine Cf rfl<|Fp 82 rfl (fun h19=>?_) (fun h19=>?_)
        ·
         have hmem:=h19
         refine Aw (.loadR (x.cells) Ct rfl c.row rfl)<|Aw (.field0 Gv rfl)<|Aw (.load1 sh3 rfl (c.cell rfl))<|Aw (.buildS Dx Mv rfl rfl)<|Aw (.neS (xs:=x.cells) (ys:=(Eg x.gen).cells) Vb Vc Ct rfl rfl rfl rfl rfl)<|Aw (.pick_t rfl rfl)<|Aw (.pick_f rfl rfl)<|Dq (fun w20 s21=>Ab ?_);have S:=S.trans s21;have hF:=hF.sub s21;refine Db rfl (fun h22=>?_) (fun h22=>?_)
         ·
          have hbad3:¬x=Eg x.gen:=(by have:=h22;rw[Gl] at this;simpa using this)
          refine Ac<|Aa rfl<|Ah rfl<|Ae<|Ab<|Bb 2 rfl rfl rfl ?_
          exact⟨congrArg Value.bool (Jw (fun h=>hbad3 ((AAQ h hx).2.2 hmem))).symm,S⟩
         ·
          have hgood:well x=true∧(x.kind=0↔(i:Int)∈A.free)∧((i:Int)∈A.free→x=Eg x.gen):=⟨hw,hk,fun _=>by have:=h22;rw[Gl] at this;simpa using this⟩
          refine Ao<|Ab<|Aa rfl<|Ak (.as (.bin rfl rfl rfl) (Cs (y:=((i+1:Nat):Int)) (by omega) (by omega)))<|Af rfl ?_
          exact Ae (fun a ka=>⟨i+1,⟨by omega,hq.succ hx hgood,hF,S⟩,by omega,ka.keep (Bf (by repeat (first|exact trivial|refine And.intro rfl ?_)))⟩)
        ·
         have hgood:well x=true∧(x.kind=0↔(i:Int)∈A.free)∧((i:Int)∈A.free→x=Eg x.gen):=⟨hw,hk,fun h=>absurd h h19⟩
         refine Bj<|Bj<|Bj<|Bj<|Bj<|Aw (.pick_f rfl rfl)<|Aw (.pick_f rfl rfl)<|Dq (fun w23 s24=>Ab ?_);have S:=S.trans s24;have hF:=hF.sub s24;refine Bw rfl<|Ao<|Ab<|Aa rfl<|Ak (.as (.bin rfl rfl rfl) (Cs (y:=((i+1:Nat):Int)) (by omega) (by omega)))<|Af rfl ?_
         exact Ae (fun a ka=>⟨i+1,⟨by omega,hq.succ hx hgood,hF,S⟩,by omega,ka.keep (Bf (by repeat (first|exact trivial|refine And.intro rfl ?_)))⟩)
     ·
      obtain rfl:i=A.nodes.length:=by omega
      refine Co rfl<|Ab<|Ac<|Aa rfl<|Ah rfl<|Ae<|Ab<|Bb 2 rfl rfl rfl ?_
      exact⟨congrArg Value.bool (Lt (AKQ (by omega) hp hq)).symm,S⟩
def Ch(A:Ar)(r:Int):Option Node :=
 if Bk r<0 then none else
 match A.nodes[(Bk r).toNat]? with
 |none=>none
 |some x=>if x.kind=0∨¬x.gen=AD3 r then none else some x
def Zz(A:Ar)(r:Int):Value:=match Ch A r with
 |some x=>.tuple #[x.val,.int .i64 0]
 |none=>.tuple #[(Eg 0).val,.int .i64 4]
theorem Rj{A:Ar}{r:Int}(h:Bk r<0∨A.nodes.length≤Bk r):Ch A r=none:=by
 unfold Ch
 split
 ·rfl
 ·rw[List.getElem?_eq_none (by omega)]
theorem ADZ{A:Ar}{r:Int}{x:Node}(h:0≤Bk r)(hx:A.nodes[(Bk r).toNat]?=some x):Ch A r=if x.kind=0∨¬x.gen=AD3 r then none else some x:=by
 unfold Ch
 rw[if_neg (by omega),hx]
theorem Kt{A:Ar}{r:Int}(h:Ch A r=none):Zz A r=.tuple #[(Eg 0).val,.int .i64 4]:=by rw[Zz,h]
theorem Io{A:Ar}{r:Int}{x:Node}(h:Ch A r=some x):Zz A r=.tuple #[x.val,.int .i64 0]:=by rw[Zz,h]

theorem Jc(A:Ar)(na fa:Option Addr)(nc fc:Nat)(r:Int)(hr:U64 r)(w:World)(hA:ArR w na fa A):
  FC Tryz.prog 125 [arV na fa nc fc A,.int .u64 r] w (Val (Zz A r) w):=by
 have hN:=hA.nodes
 have hFr:=hA.free
 refine As Tryz.func125 rfl Tryz.ntmps125 rfl ?_
 have S:=Ax w
 refine Ac<|Aa rfl<|Bu rfl rfl rfl (fun o m s q b n=>?_);have S:=S.trans n
 have b:Has m o ([.slice na A.nodes.length nc,.slice fa A.free.length fc]) _:=b
 refine Ay Dx rfl rfl (fun f k h p a g=>?_);have d:=S.le h;have c:=b.ne h;have S:=S.trans g;have b:=b.sub g;refine Ah rfl<|Ae<|Ab<|Ac<|Aa rfl<|Af rfl<|Az rfl Yd (Je r hr k) ?_;rintro _ w1 ⟨rfl,s2⟩;have S:=S.trans s2;have b:=b.sub s2;have a:=a.sub s2;refine Ah rfl<|Ae<|Ab<|Ac<|Ac<|Ev rfl mxo (by kernel_rfl)<|Cf rfl<|Aw (.bin rfl rfl rfl)<|Cf rfl<|Fp 11 rfl (fun h3=>?_) (fun h3=>?_)
 ·
  refine Bj<|Bj<|Bj<|Bj<|Bj<|Aw (.pick_t rfl rfl)<|Cf rfl<|Bj<|Bj<|Bj<|Bj<|Bj<|Bj<|Bj<|Aw (.pick_t rfl rfl)<|Cf rfl ?_;refine Bj<|Bj<|Bj<|Bj<|Bj<|Bj<|Bj<|Bj<|Bj<|Aw (.pick_t rfl rfl)<|Dq (fun w4 s5=>Ab ?_);have S:=S.trans s5;have b:=b.sub s5;have a:=a.sub s5;refine Bm rfl<|Ac<|Aa rfl<|Ak (.buildS Dx Mv rfl rfl)<|At Ct rfl rfl rfl a (fun w6 z6 a a6=>?_);have S:=S.upd a6 d;have b:=b.upd a6 c
  have a:Has w6 f ((Eg 0).cells) _:=a.now (by kernel_rfl)
  refine Ah rfl<|Ae<|Ab<|Bo (rs:=[.cell 4 140,.tmp 5]) (vs:=[_,_]) rfl rfl ⟨⟨_,rfl,.inr ⟨(Eg 0).cells,Ct,a.row,rfl⟩⟩,rfl,trivial⟩ ?_
  rw[Kt (Rj (by omega))]
  exact⟨rfl,S⟩
 ·
  refine Cf rfl<|Aw (.field0 Et rfl)<|Aw (.load1 Jj rfl (b.cell rfl))<|Aw (.len Ig rfl)<|Aw (.bin rfl rfl rfl)<|Aw (.pick_f rfl rfl)<|Cf rfl<|Fp 18 rfl (fun h7=>?_) (fun h7=>?_)
  ·
   refine Bj<|Bj<|Bj<|Bj<|Bj<|Bj<|Bj<|Aw (.pick_t rfl rfl)<|Cf rfl<|Bj<|Bj<|Bj<|Bj<|Bj<|Bj<|Bj ?_;refine Bj<|Bj<|Aw (.pick_t rfl rfl)<|Dq (fun w8 s9=>Ab ?_);have S:=S.trans s9;have b:=b.sub s9;have a:=a.sub s9;refine Bm rfl<|Ac<|Aa rfl<|Ak (.buildS Dx Mv rfl rfl)<|At Ct rfl rfl rfl a (fun w10 z10 a a10=>?_);have S:=S.upd a10 d;have b:=b.upd a10 c
   have a:Has w10 f ((Eg 0).cells) _:=a.now (by kernel_rfl)
   refine Ah rfl<|Ae<|Ab<|Bo (rs:=[.cell 4 140,.tmp 5]) (vs:=[_,_]) rfl rfl ⟨⟨_,rfl,.inr ⟨(Eg 0).cells,Ct,a.row,rfl⟩⟩,rfl,trivial⟩ ?_
   rw[Kt (Rj (by omega))]
   exact⟨rfl,S⟩
  ·
   obtain⟨x,hx⟩:=Ce (l:=A.nodes) (i:=(Bk r).toNat) (by omega)
   have hga:=ADZ (by omega) hx
   refine Aw (.field0 Et rfl)<|Aw (.load1 Jj rfl (b.cell rfl))<|Cf rfl<|Aw (.indexS Ig rfl rfl (by omega) (hN.is (i:=0) (by simp only[Aj,Al,Am];omega)))<|Aw (.fieldA Es rfl)<|Aw (.load1 sh3 rfl ((hN.sub S).cell (enc:=Node.cells) (j:=0) hx rfl))<|Aw (.bin rfl rfl rfl)<|Aw (.pick_f rfl rfl)<|Cf rfl<|Fp 27 rfl (fun h11=>?_) (fun h11=>?_)
   ·
    have hk:=h11
    refine Bj<|Bj<|Bj<|Bj<|Bj<|Bj<|Bj<|Bj<|Bj<|Aw (.pick_t rfl rfl)<|Dq (fun w12 s13=>Ab ?_);have S:=S.trans s13;have b:=b.sub s13;have a:=a.sub s13;refine Bm rfl<|Ac<|Aa rfl<|Ak (.buildS Dx Mv rfl rfl)<|At Ct rfl rfl rfl a (fun w14 z14 a a14=>?_);have S:=S.upd a14 d;have b:=b.upd a14 c
    have a:Has w14 f ((Eg 0).cells) _:=a.now (by kernel_rfl)
    refine Ah rfl<|Ae<|Ab<|Bo (rs:=[.cell 4 140,.tmp 5]) (vs:=[_,_]) rfl rfl ⟨⟨_,rfl,.inr ⟨(Eg 0).cells,Ct,a.row,rfl⟩⟩,rfl,trivial⟩ ?_
    rw[Kt (hga.trans (if_pos (.inl hk)))]
    exact⟨rfl,S⟩
   ·
    have hk:=h11
    refine Aw (.field0 Et rfl)<|Aw (.load1 Jj rfl (b.cell rfl))<|Cf rfl<|Aw (.indexS Ig rfl rfl (by omega) (hN.is (i:=0) (by simp only[Aj,Al,Am];omega)))<|Aw (.fieldA Gv rfl)<|Aw (.load1 sh3 rfl ((hN.sub S).cell (enc:=Node.cells) (j:=1) hx rfl))<|Cf rfl<|Ji rfl ALl (fun w' s'=>AG6 r hr w') rfl rfl<|Aw (.bin rfl rfl rfl)<|Aw (.pick_f rfl rfl)<|Dq (fun w15 s16=>Ab ?_);have S:=S.trans s16;have b:=b.sub s16;have a:=a.sub s16;refine An rfl (fun h17=>?_) (fun h17=>?_)
    ·
     have hg:=h17
     refine Ac<|Aa rfl<|Ak (.buildS Dx Mv rfl rfl)<|At Ct rfl rfl rfl a (fun w18 z18 a a18=>?_);have S:=S.upd a18 d;have b:=b.upd a18 c
     have a:Has w18 f ((Eg 0).cells) _:=a.now (by kernel_rfl)
     refine Ah rfl<|Ae<|Ab<|Bo (rs:=[.cell 4 140,.tmp 5]) (vs:=[_,_]) rfl rfl ⟨⟨_,rfl,.inr ⟨(Eg 0).cells,Ct,a.row,rfl⟩⟩,rfl,trivial⟩ ?_
     rw[Kt (hga.trans (if_pos (.inr hg)))]
     exact⟨rfl,S⟩
    ·
     have hg:=h17
     refine Ao<|Ab<|Ac<|Aa rfl<|Av Et rfl<|Ba Jj rfl b rfl<|Af rfl<|Ak (.indexS Ig rfl rfl (by omega) (hN.is (i:=0) (by simp only[Aj,Al,Am];omega)))<|Ak (.loadR (x.cells) Ct rfl ((hN.sub S).rowAt (enc:=Node.cells) hx) rfl)<|At Ct rfl rfl rfl a (fun w19 z19 a a19=>?_);have S:=S.upd a19 d
     have a:Has w19 f (x.cells) _:=a.now (by kernel_rfl)
     refine Ah rfl<|Ae<|Ab<|Bo (rs:=[.cell 4 140,.tmp 5]) (vs:=[_,_]) rfl rfl ⟨⟨_,rfl,.inr ⟨x.cells,Ct,a.row,rfl⟩⟩,rfl,trivial⟩ ?_
     rw[Io (hga.trans (if_neg (by rintro(e|e);exact hk e;exact hg e)))]
     exact⟨rfl,S⟩

theorem Rs(l:List Node)(a:Option Addr)(c:Nat)(w:World)(hs:Sl w a 16 (l.map Node.cells))(hl:l.length≤1000):
  FC Tryz.prog 253 [.slice a l.length c] w (fun v w'=>Ows w.heap.size w' 140 16 v (l.map Node.cells)∧Sub w w'):=by
 refine As Tryz.func253 rfl Tryz.ntmps253 rfl ?_
 have S:=Ax w
 refine Ac<|Aa rfl<|Ah rfl<|Ae<|Ab<|Ac<|Ac<|Aa rfl<|Af rfl<|Ak (.eqNil Ig rfl)<|Ae<|Ab<|Db rfl (fun h1=>?_) (fun h1=>?_)
 ·
  have ha:a=none:=Option.isNone_iff_eq_none.1 h1
  obtain rfl:l=[]:=(by cases l with|nil=>rfl|cons x l=>exact absurd (hs.some (by simp)) (by simp[ha]))
  subst ha
  refine Ac<|Aa rfl<|Ah rfl<|Ae<|Ab<|Bb 2 rfl rfl rfl ?_
  exact⟨Ows.nil _ _ _ _,S⟩
 ·
  refine Ao<|Ab<|Ac<|Aa rfl<|Ge Ig rfl rfl (fun p m o i b h=>?_);have S:=S.trans h;refine Af rfl ?_;have g:=S.size
  have ltb_5_7:=b.lt
  refine De (base:=w.heap.size) (rows:=[]) (news:=l.map Node.cells) Ig Dx rfl rfl rfl rfl (.inl (Gk b (by omega))) (hs.sub S) (by(try simp only[Aj]);first|done|rfl) (by intro r hr;obtain⟨x,_,rfl⟩:=List.mem_map.1 hr;rfl) (by rw[List.all_eq_true];intro r hr;obtain⟨x,_,rfl⟩:=List.mem_map.1 hr;rfl) (by(try simp only[Aj,Am,Ag,Al]);omega) (by(try simp only[Aj,Am,Ag,Al]);omega) (by omega) rfl rfl (fun n j hc_7 d f ob_7=>?_)
  have S:=S.agrN f (fun k e=>Ad (by omega) e.2)
  refine Ah rfl<|Ae<|Ab<|Bb 2 rfl rfl rfl ?_
  exact⟨d (.inr (Gk b (by omega))),S⟩

theorem AKM(l:List Int)(a:Option Addr)(c:Nat)(w:World)(hc:l.length≤c):
  FC Tryz.prog 264 [.slice a l.length c] w (Val (.slice a l.length l.length) w):=by
 refine As Tryz.func264 rfl Tryz.ntmps264 rfl ?_
 have S:=Ax w
 refine Ac<|Aa rfl<|Ah rfl<|Ae<|Ab<|Ac<|Aa rfl<|Af rfl<|Af rfl<|Cm Dd rfl<|Af rfl<|Cm Dd rfl<|Ak (.sliceHM Dd rfl rfl rfl (by omega))<|Ah rfl<|Ae (Ab ?_);refine Bb 2 rfl rfl rfl ?_
 exact⟨rfl,S⟩
def ar0:Ar:=⟨[],[]⟩
def AFI:Value:=.agg #[.slice none 0 0,.slice none 0 0]
def Fk(n i:Nat):List Int:=(List.range i).map fun(j:Nat)=>(n:Int)-1-j
def Fe(n:Nat):Ar:=⟨List.replicate n (Eg 0),Fk n n⟩
theorem Rq(n i:Nat):Fk n (i+1)=Fk n i++[(n:Int)-1-i]:=by
 simp[Fk,List.range_succ]
theorem Kv(n i:Nat):(Fk n i).length=i:=by simp[Fk]

def ArI(w w':World)(na fa:Option Addr)(A:Ar)(na' fa':Option Addr)(A':Ar):Prop :=
 ∀N:Nat→Prop,(∀k,N k→k<w.heap.size)→Imm N (fun u=>ArR u na fa A) w→Imm N (fun u=>ArR u na' fa' A') w'
def ArO(w w':World)(na fa:Option Addr)(A:Ar)(v:Value)(A':Ar):Prop :=
 ∃na' fa' nc' fc',v=arV na' fa' nc' fc' A'∧A'.nodes.length≤nc'∧A'.free.length≤fc'∧ArI w w' na fa A na' fa' A'
theorem AKO(n:Nat)(hn:1≤n∧n≤512)(w:World):FC Tryz.prog 10 [.int .i64 n] w (fun v w'=>∃na fa nc fc,v=.tuple #[arV na fa nc fc (Fe n),.int .i64 0]∧(Fe n).nodes.length≤nc∧(Fe n).free.length≤fc∧(∀N:Nat→Prop,(∀k,N k→k<w.heap.size)→Imm N (fun u=>ArR u na fa (Fe n)) w')∧Sub w w'):=by
 refine As Tryz.func10 rfl Tryz.ntmps10 rfl ?_
 have S:=Ax w
 refine Ac<|Aa rfl<|Ay Fy rfl rfl (fun G aa U Y c Q=>?_);have C:=S.le U;have S:=S.trans Q;refine Ah rfl<|Ae<|Ab<|Ac<|Ac<|Aa rfl<|Af rfl<|Bc rfl rfl rfl<|Af rfl<|Bn 8 rfl (fun h1=>?_) (fun h1=>?_)
 ·
  exact absurd h1 (by omega)
 ·
  refine Af rfl<|Bc rfl rfl rfl<|Bq rfl rfl<|Ae<|Ab<|An rfl (fun h2=>?_) (fun h2=>?_)
  ·
   exact absurd h2 (by omega)
  ·
   refine Ao<|Ab<|Ac<|Aa rfl<|Af rfl<|Dh Ig Dx rfl rfl rfl rfl (by omega) rfl rfl (fun f O E K b q=>?_);have o:=c.ne E;have S:=S.trans q;have c:=c.sub q;refine Ak (.buildS Fy Rz rfl rfl)<|Ay Fy rfl rfl (fun z Z D X d A=>?_);have t:=S.le D;have m:=c.ne D;have h:=b.ne D;have S:=S.trans A;have c:=c.sub A;have b:=b.sub A;refine At Cb rfl rfl rfl d (fun w3 z3 d a3=>?_);have S:=S.upd a3 t;have c:=c.upd a3 m;have b:=b.upd a3 h
   have d:Has w3 z ([.slice (some ⟨f,0,none⟩) n n,.slice none 0 0]) _:=d.now (by kernel_rfl)
   refine Ae<|Ab<|Ac<|Ac<|Aa rfl<|Af rfl<|Af rfl ?_
   have lt_2:=c.lt
   have lt_4:=d.lt
   have lt_14:=b.lt
   obtain⟨B,szB⟩:∃B,B=w3.heap.size:=⟨_,rfl⟩
   refine Ae<|Ab<|Bh<|Cw (α:=Nat × Value) (fun x=>[(0,.int .i64 (n:Int)),(4,.pointer (some ⟨z,0,none⟩)),(2,.pointer (some ⟨G,0,none⟩)),(16,.int .i64 (n:Int)),(17,.int .i64 (x.1:Int))]) (fun x w4=>x.1≤n∧Ows B w4 3 1 x.2 ((Fk n x.1).map fun x=>[i6 x])∧Has w4 z [.slice (some ⟨f,0,none⟩) n n,x.2] 26∧Has w4 G [.slice none 0 0,.slice none 0 0] 26∧Has w4 f (List.replicate n (Eg 0).cells).flatten 140∧B≤w4.heap.size∧Sub w w4) (fun x=>n-x.1) (0,.slice none 0 0) (Bf (by repeat (first|exact trivial|refine And.intro rfl ?_))) (⟨Nat.zero_le _,Ows.nil _ _ _ _,d,c,by have:=b;rw[Int.toNat_natCast] at this;exact this,by omega,S⟩) (fun x w4 hJ=>?_)
   obtain⟨i,u⟩:=x;obtain⟨hi,ho,d,c,b,szB,S⟩:=hJ
   refine Ac<|Aa rfl<|Bc rfl rfl rfl<|Ae<|Ab<|Ac<|An rfl (fun h5=>?_) (fun h5=>?_)
   ·
    refine Ao<|Ab<|Ac<|Bh<|Ac<|Aa rfl<|Af rfl<|Ah rfl<|Ae<|Ab<|Aa rfl<|Av Ja rfl<|Ba El rfl d rfl<|Af rfl<|Ak (.as (.bin rfl rfl rfl) (Cs (y:=(n:Int)-1) (by rfl) (by omega)))<|Af rfl ?_;refine Ak (.as (.bin rfl rfl rfl) (Cs (y:=(n:Int)-1-(i:Int)) (by rfl) (by omega)))<|Bi Dd _ ze3 rfl rfl rfl rfl rfl rfl rfl (fun V M T J p l=>?_);have S:=S.trans l;have c:=c.sub l;have d:=d.sub l;have b:=b.sub l;have szB:=Ad szB l.size;have ho:=ho.sub l;have I:=S.size
    have ltb_2_27:=c.lt
    have ltb_4_27:=d.lt
    have ltb_14_27:=b.lt
    have ltb_26_27:=p.lt
    refine De (base:=B) (rows:=(Fk n i).map fun x=>[i6 x]) (news:=[_]) Dd ze3 rfl rfl rfl rfl (.inl ho) (Dr p) rfl (by intro r hr;rw[List.mem_singleton] at hr;subst hr;rfl) rfl (by(try simp only[Aj,Am,Ag,Al]);rw[Kv];omega) (by(try simp only[Aj,Am,Ag,Al]);rw[Kv];omega) (by omega) rfl rfl (fun P L hc_27 s g ob_27=>?_)
    have S:=S.agrN g (fun k e=>Ad (by omega) e.2)
    have c:=c.step g (fun e=>absurd e.2 (by omega));have d:=d.step g (fun e=>absurd e.2 (by omega));have b:=b.step g (fun e=>absurd e.2 (by omega));have szB:=Ad szB g.size
    have hO:=s (.inl (by simp))
    rw[show(Fk n i).map (fun x=>[i6 x])++[_]=(Fk n (i+1)).map (fun x=>[i6 x]) from by rw[Rq,List.map_append];rfl] at hO
    obtain⟨H,F,rfl,R⟩:=hO.form
    refine Av Ja rfl<|At El rfl rfl rfl d (fun w6 z6 d a6=>?_);have S:=S.upd a6 t;have c:=c.upd a6 m;have b:=b.upd a6 h;have szB:=Ad szB a6.size;have hO:=hO.upd a6 (by omega)
    have d:Has w6 z ([.slice (some ⟨f,0,none⟩) n n,.slice H ((Fk n (i+1)).map fun x=>[i6 x]).length F]) _:=d
    refine Ae<|Ab<|Aa rfl<|Ak (.as (.bin rfl rfl rfl) (Cs (y:=((i+1:Nat):Int)) (by omega) (by omega)))<|Af rfl ?_
    exact Ae (fun a ka=>⟨(i+1,_),⟨by omega,hO,d,c,b,szB,S⟩,by omega,ka.keep (Bf (by repeat (first|exact trivial|refine And.intro rfl ?_)))⟩)
   ·
    obtain rfl:n=i:=(by omega)
    obtain⟨a_u,c_u,hu,k_u⟩:=ho.form
    simp only[] at hu
    subst hu
    refine Co rfl<|Ab<|Ac<|Aa rfl<|Ak (.loadR ([.slice (some ⟨f,0,none⟩) n n,.slice a_u ((Fk n n).map fun x=>[i6 x]).length c_u]) Cb rfl d.row rfl)<|At Cb rfl rfl rfl c (fun w7 z7 c a7=>?_);have S:=S.upd a7 C;have b:=b.upd a7 o.symm;have szB:=Ad szB a7.size;have ho:=ho.upd a7 (by omega)
    have c:Has w7 G ([.slice (some ⟨f,0,none⟩) n n,.slice a_u ((Fk n n).map fun x=>[i6 x]).length c_u]) _:=c.now (by kernel_rfl)
    refine Ah rfl<|Ae<|Ab<|Bo (rs:=[.cell 2 26,.tmp 3]) (vs:=[_,_]) rfl rfl ⟨⟨_,rfl,.inr ⟨[.slice (some ⟨f,0,none⟩) n n,.slice a_u ((Fk n n).map fun x=>[i6 x]).length c_u],Cb,c.row,rfl⟩⟩,rfl,trivial⟩ ?_
    refine⟨some ⟨f,0,none⟩,a_u,n,c_u,?_,by simp[Fe],by simpa[Fe] using k_u,fun N hN W hW=>⟨?_,(ho.imm (N:=N) (fun k hk=>by have:=hN k hk;omega)) W hW,?_,?_⟩,S⟩
    ·simp only[arV,Fe,List.length_replicate,Aj];rfl
    ·show Sl W _ 16 ((List.replicate n (Eg 0)).map Node.cells)
     rw[List.map_replicate]
     exact Hj (b.step hW (fun e=>by have:=hN _ e;omega)) (fun r hr=>by rw[(List.mem_replicate.1 hr).2];rfl)
    ·intro x hx
     rw[Fe] at hx
     rw[(List.mem_replicate.1 hx).2]
     exact ABj z64
    ·intro x hx
     obtain⟨j,hj,rfl⟩:=List.mem_map.1 hx
     have:=List.mem_range.1 hj
     unfold I64
     omega

def x0(x:Node):Node:={x with gen:=0}
theorem AK2{x:Node}(h:x.ok):(x0 x).ok:=⟨h.kind,z64,h.n,h.v,h.s,h.kids,h.pre,h.suf⟩
def Ez(A:Ar)(x:Node):Prop:=AOk A∧1≤x.kind∧x.kind≤100∧well (x0 x)=true
def En(A:Ar):Int:=A.free.getD (A.free.length-1) 0
def Ln(A:Ar)(p:Int):Int:=(A.nodes.getD p.toNat (Eg 0)).gen
def Pp(A:Ar)(x:Node):Node:={x with gen:=Ln A (En A)}
def Gu(A:Ar)(x:Node):Ar:=⟨A.nodes.set (En A).toNat (Pp A x),A.free.take (A.free.length-1)⟩
def Va(A:Ar):Int:=ofR (En A) (Ln A (En A))
theorem Kj{A:Ar}(h:0<A.free.length):A.free[A.free.length-1]?=some (En A):=by
 rw[En,List.getD_eq_getElem?_getD,List.getElem?_eq_getElem (by omega)];rfl
theorem Ie{A:Ar}(hA:AOk A)(h:0<A.free.length):0≤En A∧En A<A.nodes.length:=hA.free _ (Au (Kj h))
theorem Zd{A:Ar}{p:Int}{y:Node}(h:A.nodes[p.toNat]?=some y):Ln A p=y.gen:=by
 rw[Ln,List.getD_eq_getElem?_getD,h];rfl
theorem Sy{A:Ar}(hA:AOk A){p:Int}(h:0≤p∧p<A.nodes.length):0≤Ln A p∧Ln A p≤1048576:=by
 obtain⟨y,hy⟩:=Ce (l:=A.nodes) (i:=p.toNat) (by omega)
 rw[Zd hy]
 have:=(Ga y).1 (hA.well y (Au hy))
 omega
theorem Rh{A:Ar}(hA:AOk A)(h:0<A.free.length):isR (En A) (Ln A (En A))=true:=by
 have h1:=Ie hA h
 have h2:=Sy hA h1
 have:=hA.most
 rw[Og];omega

theorem ADu(A:Ar)(na fa:Option Addr)(nc fc:Nat)(x:Node)(hx:x.ok)(w:World)(hA:ArR w na fa A)(hfc:A.free.length≤fc):
  FC Tryz.prog 219 [arV na fa nc fc A,x.val] w (fun v w'=>Sub w w'∧(¬Ez A x∧v=.tuple #[AFI,.int .u64 0,.int .i64 1]∨Ez A x∧A.free.length=0∧v=.tuple #[AFI,.int .u64 0,.int .i64 2] ∨
   Ez A x∧0<A.free.length∧∃av,v=.tuple #[av,.int .u64 (Va A),.int .i64 0]∧ArO w w' na fa A av (Gu A x))):=by
 have hN:=hA.nodes
 have hFr:=hA.free
 refine As Tryz.func219 rfl Tryz.ntmps219 rfl ?_
 have S:=Ax w
 have ek:(x0 x).kind=x.kind:=rfl
 refine Ac<|Aa rfl<|Bu rfl rfl rfl (fun I Q T X c R=>?_);have G:=S.le T;have S:=S.trans R
 have c:Has Q I ([.slice na A.nodes.length nc,.slice fa A.free.length fc]) _:=c
 refine Bu rfl rfl rfl (fun H P O V d M=>?_);have J:=S.le O;have m:=c.ne O;have S:=S.trans M;have c:=c.sub M
 have d:Has P H (x.cells) _:=d
 refine Ay Fy rfl rfl (fun D Y L U b K=>?_);have q:=S.le L;have g:=c.ne L;have f:=d.ne L;have S:=S.trans K;have c:=c.sub K;have d:=d.sub K;refine Ah rfl<|Ah rfl<|Ae<|Ab<|Ac<|Aa rfl<|Av Gv rfl<|At sh3 rfl rfl rfl d (fun w1 z1 d a1=>?_);have S:=S.upd a1 J;have c:=c.upd a1 m;have b:=b.upd a1 f.symm
 have d:Has w1 H ((x0 x).cells) _:=d
 refine Ae<|Ab<|Ac<|Bh<|Ac<|Aa rfl<|Ak (.loadR ([.slice na A.nodes.length nc,.slice fa A.free.length fc]) Cb rfl c.row rfl)<|Az rfl Uy (Kh A na fa nc fc w1 (hA.sub S)) ?_;rintro _ w2 ⟨rfl,s3⟩;have S:=S.trans s3;have c:=c.sub s3;have d:=d.sub s3;have b:=b.sub s3;refine Ak (.not rfl)<|Af rfl<|Fo 16 rfl (fun h4=>?_) (fun h4=>?_)
 ·
  have q1:¬AOk A:=(fun h=>by have h2:=h4;rw[Lt h] at h2;cases h2)
  refine Bd 3 rfl<|Br rfl rfl<|Af rfl<|Bd 3 rfl<|Br rfl rfl<|Af rfl<|Bd 3 rfl<|Br rfl rfl<|Ah rfl<|Ae<|Ab<|Bm rfl<|Ac<|Aa rfl<|Ak (.buildS Fy Rz rfl rfl)<|At Cb rfl rfl rfl b (fun w5 z5 b a5=>?_);have S:=S.upd a5 q;have c:=c.upd a5 g;have d:=d.upd a5 f
  have b:Has w5 D ([.slice none 0 0,.slice none 0 0]) _:=b.now (by kernel_rfl)
  refine Ah rfl<|Ah rfl<|Ae<|Ab<|Bo (rs:=[.cell 4 26,.tmp 5,.tmp 6]) (vs:=[_,_,_]) rfl rfl ⟨⟨_,rfl,.inr ⟨[.slice none 0 0,.slice none 0 0],Cb,b.row,rfl⟩⟩,rfl,rfl,trivial⟩ ?_
  exact⟨S,.inl ⟨fun h=>q1 h.1,rfl⟩⟩
 ·
  have hok:AOk A:=(Hd A).1 (by simpa using h4)
  have hmost:=hok.most
  have hone:=hok.one
  have hfit:=hok.fit
  refine Av Es rfl<|Ba sh3 rfl d rfl<|Bc rfl rfl rfl<|Bq rfl rfl<|Af rfl<|Bn 21 rfl (fun h6=>?_) (fun h6=>?_)
  ·
   refine Bd 3 rfl<|Br rfl rfl<|Af rfl<|Bd 3 rfl<|Br rfl rfl<|Ah rfl<|Ae<|Ab<|Bm rfl<|Ac<|Aa rfl<|Ak (.buildS Fy Rz rfl rfl)<|At Cb rfl rfl rfl b (fun w7 z7 b a7=>?_);have S:=S.upd a7 q;have c:=c.upd a7 g;have d:=d.upd a7 f
   have b:Has w7 D ([.slice none 0 0,.slice none 0 0]) _:=b.now (by kernel_rfl)
   refine Ah rfl<|Ah rfl<|Ae<|Ab<|Bo (rs:=[.cell 4 26,.tmp 5,.tmp 6]) (vs:=[_,_,_]) rfl rfl ⟨⟨_,rfl,.inr ⟨[.slice none 0 0,.slice none 0 0],Cb,b.row,rfl⟩⟩,rfl,rfl,trivial⟩ ?_
   exact⟨S,.inl ⟨fun h=>by have:=h.2.1;omega,rfl⟩⟩
  ·
   refine Av Es rfl<|Ba sh3 rfl d rfl<|Bc rfl rfl rfl<|Bq rfl rfl<|Af rfl<|Bn 26 rfl (fun h8=>?_) (fun h8=>?_)
   ·
    refine Bd 3 rfl<|Br rfl rfl<|Ah rfl<|Ae<|Ab<|Bm rfl<|Ac<|Aa rfl<|Ak (.buildS Fy Rz rfl rfl)<|At Cb rfl rfl rfl b (fun w9 z9 b a9=>?_);have S:=S.upd a9 q;have c:=c.upd a9 g;have d:=d.upd a9 f
    have b:Has w9 D ([.slice none 0 0,.slice none 0 0]) _:=b.now (by kernel_rfl)
    refine Ah rfl<|Ah rfl<|Ae<|Ab<|Bo (rs:=[.cell 4 26,.tmp 5,.tmp 6]) (vs:=[_,_,_]) rfl rfl ⟨⟨_,rfl,.inr ⟨[.slice none 0 0,.slice none 0 0],Cb,b.row,rfl⟩⟩,rfl,rfl,trivial⟩ ?_
    exact⟨S,.inl ⟨fun h=>by have:=h.2.2.1;omega,rfl⟩⟩
   ·
    refine Ak (.loadR ((x0 x).cells) Ct rfl d.row rfl)<|Az rfl AI7 (AF6 (x0 x) (AK2 hx) w2) ?_;rintro _ w10 ⟨rfl,s11⟩;have S:=S.trans s11;have c:=c.sub s11;have d:=d.sub s11;have b:=b.sub s11;refine Ak (.not rfl)<|Bq rfl rfl<|Ah rfl<|Ae<|Ab<|Db rfl (fun h12=>?_) (fun h12=>?_)
    ·
     have q2:=h12
     refine Ac<|Aa rfl<|Ak (.buildS Fy Rz rfl rfl)<|At Cb rfl rfl rfl b (fun w13 z13 b a13=>?_);have S:=S.upd a13 q;have c:=c.upd a13 g;have d:=d.upd a13 f
     have b:Has w13 D ([.slice none 0 0,.slice none 0 0]) _:=b.now (by kernel_rfl)
     refine Ah rfl<|Ah rfl<|Ae<|Ab<|Bo (rs:=[.cell 4 26,.tmp 5,.tmp 6]) (vs:=[_,_,_]) rfl rfl ⟨⟨_,rfl,.inr ⟨[.slice none 0 0,.slice none 0 0],Cb,b.row,rfl⟩⟩,rfl,rfl,trivial⟩ ?_
     exact⟨S,.inl ⟨fun h=>(by rw[h.2.2.2] at q2;cases q2),rfl⟩⟩
    ·
     have hm:Ez A x:=⟨hok,by omega,by omega,by simpa using h12⟩
     refine Ac<|Aa rfl<|Av Ja rfl<|Ba El rfl c rfl<|Cm Dd rfl<|Bc rfl rfl rfl<|Ah rfl<|Ae<|Ab<|An rfl (fun h14=>?_) (fun h14=>?_)
     ·
      refine Ac<|Aa rfl<|Ak (.buildS Fy Rz rfl rfl)<|At Cb rfl rfl rfl b (fun w15 z15 b a15=>?_);have S:=S.upd a15 q;have c:=c.upd a15 g;have d:=d.upd a15 f
      have b:Has w15 D ([.slice none 0 0,.slice none 0 0]) _:=b.now (by kernel_rfl)
      refine Ah rfl<|Ah rfl<|Ae<|Ab<|Bo (rs:=[.cell 4 26,.tmp 5,.tmp 6]) (vs:=[_,_,_]) rfl rfl ⟨⟨_,rfl,.inr ⟨[.slice none 0 0,.slice none 0 0],Cb,b.row,rfl⟩⟩,rfl,rfl,trivial⟩ ?_
      exact⟨S,.inr (.inl ⟨hm,by omega,rfl⟩)⟩
     ·
      have hpos:0<A.free.length:=(by omega)
      have hat:=Ie hok hpos
      have hgr:=Sy hok hat
      obtain⟨y,hy⟩:=Ce (l:=A.nodes) (i:=(En A).toNat) (by omega)
      have hgy:=Zd hy
      refine Ao<|Ab<|Ac<|Aa rfl<|Av Ja rfl<|Ba El rfl c rfl<|Cm Dd rfl<|Ak (.as (.bin rfl rfl rfl) (Cs (y:=((A.free.length-1:Nat):Int)) (by omega) (by omega)))<|Ah rfl<|Ae<|Ab<|Ac<|Aa rfl<|Av Ja rfl<|Ba El rfl c rfl<|Af rfl ?_;refine Ak (.indexS Dd rfl rfl (by omega) (hFr.is (i:=0) (by simp only[Aj,Al,Am];omega)))<|Ak (.as (v':=.int .i64 (En A)) (.load1 sh3 rfl ((hFr.sub S).one (enc:=i6) (i:=A.free.length-1) (x:=En A) (by exact Kj hpos))) (by rfl))<|Ah rfl<|Ae<|Ab<|Ac<|Aa rfl<|Av Et rfl<|Ba Jj rfl c rfl<|Af rfl<|Ak (.indexS Ig rfl rfl (by omega) (hN.is (i:=0) (by simp only[Aj,Al,Am];omega)))<|Ak (.fieldA Gv rfl)<|Ak (.as (v':=.int .i64 (Ln A (En A))) (.load1 sh3 rfl ((hN.sub S).cell (enc:=Node.cells) (j:=1) hy rfl)) (by rw[hgy]))<|Av Gv rfl<|At sh3 rfl rfl rfl d (fun w16 z16 d a16=>?_);have S:=S.upd a16 J;have c:=c.upd a16 m;have b:=b.upd a16 f.symm
      have d:Has w16 H ((Pp A x).cells) _:=d
      refine Ae<|Ab<|Hi (α:=Option Addr × Nat) (fun x_=>[(2,.pointer (some ⟨I,0,none⟩)),(3,.pointer (some ⟨H,0,none⟩)),(4,.pointer (some ⟨D,0,none⟩)),(8,.int .i64 (En A))]) (fun x_ w17=>∃B,I<B∧H<B∧D<B∧w.heap.size≤B∧Ows B w17 140 16 (.slice x_.1 (A.nodes.map Node.cells).length x_.2) (A.nodes.map Node.cells)∧Has w17 I [.slice x_.1 (A.nodes.map Node.cells).length x_.2,.slice fa (A.free.length-1) (A.free.length-1)] 26∧Has w17 H (Pp A x).cells 140∧Has w17 D [.slice none 0 0,.slice none 0 0] 26∧Sub w w17) ?_ (fun x_ w17 hJ=>?_)
      ·
       refine Bs (fun k=>k=I) [9,11] w16.heap.size 12 rfl rfl mxo (fun w18 s19=>?_)
       have hNN:∀k,((k=I)∨w16.heap.size≤k)→w.heap.size≤k:=fun k e=>e.elim (fun e=>e▸G) (fun e=>Ad S.size e)
       have hN0:∀k,w16.heap.size≤k→w.heap.size≤k:=fun k e=>Ad S.size e
       have p:=c.lt;have F:=d.lt;have E:=b.lt;have szD:=Nat.le_refl w16.heap.size;have S:=S.trans s19;have c:=c.sub s19;have d:=d.sub s19;have b:=b.sub s19;have szD:=Ad szD s19.size;refine Bl 0 rfl Et rfl<|Fq 1 rfl (by kernel_rfl) (by kernel_rfl) (by kernel_rfl) (by kernel_rfl) (fun w' s'=>.load1 Jj rfl ((c.step s' (Nat.not_le.2 p)).cell rfl)) rfl rfl<|Bl 3 rfl Ja rfl<|Fq 4 rfl (by kernel_rfl) (by kernel_rfl) (by kernel_rfl) (by kernel_rfl) (fun w' s'=>.load1 El rfl ((c.step s' (Nat.not_le.2 p)).cell rfl)) rfl rfl<|Bp 5 rfl rfl<|Bp 6 rfl rfl<|Bg 7 rfl (fun _ _=>.sliceHM Dd rfl rfl rfl (by omega))<|Aq 2 rfl<|Az rfl AIx (Rs A.nodes na nc w18 (hN.sub S) (by omega)) ?_;rintro u w20 ⟨ho,s21⟩
       have ltc:=c.lt
       have szC:=szD;have S:=S.trans s21;have c:=c.sub s21;have d:=d.sub s21;have b:=b.sub s21
       obtain⟨ca,cc,rfl,kc⟩:=ho.form
       refine Be s21.agr<|Bl 8 rfl Et rfl<|Aq 9 rfl<|At Jj rfl rfl rfl c (fun w22 z22 c a22=>?_);have S:=S.upd a22 G;have d:=d.upd a22 m.symm;have b:=b.upd a22 g.symm;have ho:=ho.upd a22 (by omega);refine Cq rfl a22 (rfl)<|Bl 10 rfl Ja rfl<|Aq 11 rfl<|At El rfl rfl rfl c (fun w23 z23 c a23=>?_);have S:=S.upd a23 G;have d:=d.upd a23 m.symm;have b:=b.upd a23 g.symm;have ho:=ho.upd a23 (by omega);refine Cq rfl a23 (rfl) ?_
       exact Fb (by kernel_rfl) (fun a ka=>⟨(ca,cc),⟨_,ltc,by have:=F;have:=szC;omega,by have:=E;have:=szC;omega,by omega,ho,c,d,b,S⟩,ka.keep (Bf (by repeat (first|exact trivial|refine And.intro rfl ?_)))⟩)
      obtain⟨ca,cc⟩:=x_
      obtain⟨B,ab,aa,Z,q_w,ho,c,d,b,S⟩:=hJ
      obtain⟨b_C,cap_C,ex_C,f_C,g_C,k_C,m_C,hb_C,l_C⟩:=ho.has (by simp only[Aj];omega)
      have ge_C:=Ad q_w g_C
      simp only[Value.slice.injEq,true_and] at f_C
      obtain⟨rfl,rfl⟩:=f_C
      have C:b_C≠I:=by omega
      have t:b_C≠H:=by omega
      have o:b_C≠D:=by omega
      refine Ac<|Aa rfl<|Av Et rfl<|Ba Jj rfl c rfl<|Af rfl<|Ak (.loadR ((Pp A x).cells) Ct rfl d.row rfl)<|Ak (.indexO Ig rfl rfl (by simp only[Aj];omega))<|Cg Ct rfl rfl rfl hb_C (by rw[Ag,Cy (sz:=16) _ (fun r hr=>by obtain⟨z,_,rfl⟩:=List.mem_map.1 hr;rfl),Aj];show _+16≤_;omega) (by rfl) rfl (fun w24 z24 hb_C a24=>?_);have S:=S.upd a24 ge_C;have c:=c.upd a24 C.symm;have d:=d.upd a24 t.symm;have b:=b.upd a24 o.symm
      rw[Nat.zero_add] at hb_C
      have hb_C:=Gh hb_C (fun r hr=>by obtain⟨z,_,rfl⟩:=List.mem_map.1 hr;rfl) (by rw[Aj];omega) rfl
      refine Ae<|Ab<|Ac<|Aa rfl<|Af rfl<|Av Gv rfl<|Ba sh3 rfl d rfl<|Az rfl ALU (AG5 _ _ (Rh hok hpos) w24) ?_;rintro _ w25 ⟨rfl,s26⟩;have S:=S.trans s26;have c:=c.sub s26;have b:=b.sub s26;have hb_C:=hb_C.sub s26;refine Af rfl<|Bz rfl rfl<|Bz rfl rfl<|Ah rfl<|Ah rfl<|Ae<|Ab<|Ac<|Aa rfl<|Ak (.loadR ([.slice (some ⟨b_C,0,none⟩) (A.nodes.map Node.cells).length cc,.slice fa (A.free.length-1) (A.free.length-1)]) Cb rfl c.row rfl)<|Af rfl<|Af rfl<|At Cb rfl rfl rfl b (fun w27 z27 b a27=>?_);have S:=S.upd a27 q;have hb_C:=hb_C.upd a27 o
      have b:Has w27 D ([.slice (some ⟨b_C,0,none⟩) (A.nodes.map Node.cells).length cc,.slice fa (A.free.length-1) (A.free.length-1)]) _:=b.now (by kernel_rfl)
      refine Ah rfl<|Ah rfl<|Ae<|Ab<|Bo (rs:=[.cell 4 26,.tmp 5,.tmp 6]) (vs:=[_,_,_]) rfl rfl ⟨⟨_,rfl,.inr ⟨[.slice (some ⟨b_C,0,none⟩) (A.nodes.map Node.cells).length cc,.slice fa (A.free.length-1) (A.free.length-1)],Cb,b.row,rfl⟩⟩,rfl,rfl,trivial⟩ ?_
      refine⟨S,.inr (.inr ⟨hm,hpos,arV (some ⟨b_C,0,none⟩) fa cc (A.free.length-1) (Gu A x),?_,_,_,_,_,rfl,?_,?_,fun N hN hI W hW=>⟨?_,?_,?_,?_⟩⟩)⟩
      ·show tup [Value.agg _,_,_]=_
       simp only[arV,Gu,List.length_set,List.length_take,Aj]
       rw[Nat.min_eq_left (by omega)]
       rfl
      ·simpa[Gu] using k_C
      ·simp only[Gu,List.length_take];omega
      ·show Sl W _ 16 ((Gu A x).nodes.map Node.cells)
       rw[Gu,List.map_set]
       exact Has.sl (hb_C.step hW (fun e=>by have:=hN _ e;omega)) (fun r hr=>(List.mem_or_eq_of_mem_set hr).elim (fun hr=>by obtain⟨z,_,rfl⟩:=List.mem_map.1 hr;rfl) (fun e=>e▸rfl))
      ·show Sl W _ 1 ((Gu A x).free.map fun x=>[i6 x])
       rw[Gu,List.map_take]
       exact((hI.sub S) W hW).free.take _
      ·intro z hz
       rcases List.mem_or_eq_of_mem_set hz with hz|rfl
       ·exact hA.nok z hz
       ·exact⟨hx.kind,by unfold I64;show _≤Ln A (En A)∧Ln A (En A)≤_;omega,hx.n,hx.v,hx.s,hx.kids,hx.pre,hx.suf⟩
      ·exact fun z hz=>hA.fok z (List.mem_of_mem_take hz)
theorem _root_.Go.XL.Has.eqc{w:World}{b:Nat}{xs ys:List Value}{e:TypeId}(h:Has w b xs e)(hx:xs=ys):Has w b ys e:=hx▸h
structure Rt where
 m:Int
 t:Int
 r:Int
 h:Int
 deriving DecidableEq
def Rt.cells(R:Rt):List Value:=[.int .u64 R.m,.int .u64 R.t,.int .u64 R.r,.int .u64 R.h]
def Rt.val(R:Rt):Value:=.agg R.cells.toArray
def Rt.ok(R:Rt):Prop:=U64 R.m∧U64 R.t∧U64 R.r∧U64 R.h
def rt0:Rt:=⟨0,0,0,0⟩
theorem AAD:rt0.ok:=by unfold Rt.ok U64 rt0;decide
structure RcP where
 no:Int
 rt:Rt
 aa:Option Addr
 an:Nat
 ac:Nat
 ra:Option Addr
 rn:Nat
 rc:Nat
def RcP.cells(r:RcP):List Value:=[.int .i64 r.no,.int .u64 r.rt.m,.int .u64 r.rt.t,.int .u64 r.rt.r,.int .u64 r.rt.h,.slice r.aa r.an r.ac,.slice r.ra r.rn r.rc]
def RcP.val(r:RcP):Value:=.agg r.cells.toArray
def Hr:RcP:=⟨0,rt0,none,0,0,none,0,0⟩
structure TbP where
 ra:Option Addr
 rn:Nat
 rc:Nat
 pa:Option Addr
 pn:Nat
 pc:Nat
 sa:Option Addr
 sn:Nat
 sc:Nat
def TbP.cells(t:TbP):List Value:=[.slice t.ra t.rn t.rc,.slice t.pa t.pn t.pc,.slice t.sa t.sn t.sc]
def AML:TbP:=⟨none,0,0,none,0,0,none,0,0⟩
structure WdP where
 na:Option Addr
 nn:Nat
 nc:Nat
 fa:Option Addr
 fn:Nat
 fc:Nat
 tb:TbP
 aa:Option Addr
 an:Nat
 ac:Nat
 wa:Option Addr
 wn:Nat
 wc:Nat
def WdP.cells(x:WdP):List Value:=[.slice x.na x.nn x.nc,.slice x.fa x.fn x.fc,.slice x.tb.ra x.tb.rn x.tb.rc,.slice x.tb.pa x.tb.pn x.tb.pc,.slice x.tb.sa x.tb.sn x.tb.sc,.slice x.aa x.an x.ac,.slice x.wa x.wn x.wc]
def AB6:WdP:=⟨none,0,0,none,0,0,AML,none,0,0,none,0,0⟩
structure StP where
 wd:WdP
 time:Int
 ia:Option Addr
 inn:Nat
 ic:Nat
 la:Option Addr
 ln:Nat
 lc:Nat
 ca:Option Addr
 cn:Nat
 cc:Nat
def StP.cells(x:StP):List Value:=[.slice x.wd.na x.wd.nn x.wd.nc,.slice x.wd.fa x.wd.fn x.wd.fc,.slice x.wd.tb.ra x.wd.tb.rn x.wd.tb.rc,.slice x.wd.tb.pa x.wd.tb.pn x.wd.tb.pc,.slice x.wd.tb.sa x.wd.tb.sn x.wd.tb.sc,.slice x.wd.aa x.wd.an x.wd.ac,.slice x.wd.wa x.wd.wn x.wd.wc,
 .int .i64 x.time,.slice x.ia x.inn x.ic,.slice x.la x.ln x.lc,.slice x.ca x.cn x.cc]
def Rx:StP:=⟨AB6,0,none,0,0,none,0,0,none,0,0⟩
def i0:Value:=.int .i64 0
def wk0:List Value:=[i0,i0,i0,i0,i0,i0,i0,i0,i0,.int .u64 0,.int .u64 0,.int .u64 0,.int .u64 0,.slice none 0 0,.slice none 0 0,.slice none 0 0,i0,.int .u64 0,.int .u64 0,.int .u64 0,.int .u64 0,.slice none 0 0,.slice none 0 0,.slice none 0 0]
def Jm(A:Ar)(p:Int):Option Ar :=
 if 0≤p∧p<A.nodes.length then
  match A.nodes[p.toNat]? with
  |none=>none
  |some y=>if y.kind=0 then none else some ⟨A.nodes.set p.toNat (Eg ((y.gen+1)%1048577)),A.free++[p]⟩
 else none
def Jh(A:Ar):List Int→Option Ar
 | []=>some A
 |p::l=>match Jm A p with|none=>none|some A'=>Jh A' l
theorem Tv{A:Ar}{p:Int}(h:p<0∨A.nodes.length≤p):Jm A p=none:=by rw[Jm,if_neg (by omega)]
theorem Tw{A:Ar}{p:Int}{y:Node}(h:0≤p∧p<A.nodes.length)(hy:A.nodes[p.toNat]?=some y):Jm A p=if y.kind=0 then none else some ⟨A.nodes.set p.toNat (Eg ((y.gen+1)%1048577)),A.free++[p]⟩:=by rw[Jm,if_pos h,hy]
theorem ACG:∀(n:Nat) (l:List Int),l.Nodup→(∀x∈l,0≤x∧x<n)→l.length≤n
 |0,l,_,h=>by
  cases l with
  |nil=>simp
  |cons x l=>have:=h x (by simp);omega
 |n+1,l,hn,h=>by
  have h1:∀x∈l.erase (n:Int),0≤x∧x<n:=fun x hx=>by
   have:=(hn.mem_erase_iff).1 hx
   have:=h x this.2
   omega
  have:=ACG n (l.erase (n:Int)) (hn.erase _) h1
  by_cases hm:(n:Int)∈l
  ·rw[List.length_erase_of_mem hm] at this;omega
  ·rw[List.erase_of_not_mem hm] at this;omega
theorem Tu{A A':Ar}{p:Int}(hA:AOk A)(h:Jm A p=some A'):AOk A':=by
 unfold Jm at h
 split at h
 rotate_left
 ·cases h
 rename_i hp
 split at h
 ·cases h
 rename_i y hy
 split at h
 ·cases h
 rename_i hk
 cases h
 have hat:=AAQ hA hy
 rw[Int.toNat_of_nonneg hp.1] at hat
 have hnf:p∉A.free:=fun h=>hk (hat.2.1.2 h)
 have hw:=(Ga y).1 hat.1
 have hnd:(A.free++[p]).Nodup:=by
  rw[List.nodup_append]
  exact⟨hA.nodup,by simp,fun a ha b hb e=>by rw[List.mem_singleton] at hb;subst hb;subst e;exact hnf ha⟩
 have hall:∀x∈A.free++[p],0≤x∧x<A.nodes.length:=fun x hx=>(List.mem_append.1 hx).elim (hA.free x) (fun h=>by rw[List.mem_singleton] at h;omega)
 have hg:well (Eg ((y.gen+1)%1048577))=true:=by
  rw[Ga]
  refine⟨?_,rfl⟩
  simp only[Eg]
  omega
 have get:∀(i:Nat) x,(A.nodes.set p.toNat (Eg ((y.gen+1)%1048577)))[i]?=some x→(i:Int)=p∧x=Eg ((y.gen+1)%1048577)∨¬(i:Int)=p∧A.nodes[i]?=some x:=by
  intro i x hx
  rw[List.getElem?_set] at hx
  split at hx
  ·split at hx
   ·cases hx;exact .inl ⟨by omega,rfl⟩
   ·cases hx
  ·exact .inr ⟨by omega,hx⟩
 refine⟨by simpa using hA.one,by simpa using hA.most,?_,by simpa using hall,hnd,?_,?_,?_⟩
 ·-- as many are free as there are places, at most
  have:=ACG A.nodes.length (A.free++[p]) hnd hall
  simpa using this
 ·intro x hx
  obtain⟨i,hi⟩:=List.getElem?_of_mem hx
  rcases get i x hi with⟨_,rfl⟩|⟨_,h⟩
  ·exact hg
  ·exact hA.well x (Au h)
 ·intro i x hi
  rcases get i x hi with⟨e,rfl⟩|⟨ne,h⟩
  ·simp[Eg,e]
  ·have:=hA.kind i x h
   rw[List.mem_append,List.mem_singleton]
   exact this.trans ⟨.inl,fun h=>h.resolve_right ne⟩
 ·intro i x hi hm
  rcases get i x hi with⟨e,rfl⟩|⟨ne,h⟩
  ·rfl
  ·rw[List.mem_append,List.mem_singleton] at hm
   exact hA.bare i x h (hm.resolve_right ne)
theorem AAp{A:Ar}{l:List Int}{i:Nat}{p:Int}(hp:l[i]?=some p):Jh A (l.drop i)=match Jm A p with|none=>none|some A'=>Jh A' (l.drop (i+1)):=by
 have hi:=Cc hp
 rw[List.drop_eq_getElem_cons hi,Ex hp hi]
 rfl
theorem ABE(x:Node):x.cells.length=16:=rfl
theorem So(l:List Node):∀r∈l.map Node.cells,r.length=16:=fun r hr=>by obtain⟨z,_,rfl⟩:=List.mem_map.1 hr;rfl

theorem AIV(A:Ar)(na fa:Option Addr)(nc fc:Nat)(l:List Int)(pa:Option Addr)(pc:Nat)(hl:l.length≤10000)(hli:∀x∈l,I64 x)(w:World)(hA:ArR w na fa A)(hfc:A.free.length≤fc)(hP:Sl w pa 1 (l.map fun x=>[i6 x])):
  FC Tryz.prog 227 [arV na fa nc fc A,.slice pa l.length pc] w (fun v w'=>Sub w w'∧((¬AOk A∨Jh A l=none)∧v=.tuple #[AFI,.int .i64 1] ∨
   AOk A∧∃A' av,Jh A l=some A'∧v=.tuple #[av,.int .i64 0]∧ArO w w' na fa A av A')):=by
 have hN:=hA.nodes
 have hFr:=hA.free
 refine As Tryz.func227 rfl Tryz.ntmps227 rfl ?_
 have S:=Ax w
 refine Ac<|Aa rfl<|Bu rfl rfl rfl (fun C R Y ab b U=>?_);have E:=S.le Y;have S:=S.trans U
 have b:Has R C ([.slice na A.nodes.length nc,.slice fa A.free.length fc]) _:=b
 refine Ay Fy rfl rfl (fun t Q L aa d K=>?_);have s:=S.le L;have g:=b.ne L;have S:=S.trans K;have b:=b.sub K;refine Ah rfl<|Ae<|Ab<|Ac<|Ac<|Aa rfl<|Ak (.loadR ([.slice na A.nodes.length nc,.slice fa A.free.length fc]) Cb rfl b.row rfl)<|Az rfl Uy (Kh A na fa nc fc Q (hA.sub S)) ?_;rintro _ w1 ⟨rfl,s2⟩;have S:=S.trans s2;have b:=b.sub s2;have d:=d.sub s2;refine Ak (.not rfl)<|Ae<|Ab<|Db rfl (fun h3=>?_) (fun h3=>?_)
 ·
  have q1:¬AOk A:=(fun h=>by have h2:=h3;rw[Lt h] at h2;cases h2)
  refine Ac<|Aa rfl<|Ak (.buildS Fy Rz rfl rfl)<|At Cb rfl rfl rfl d (fun w4 z4 d a4=>?_);have S:=S.upd a4 s;have b:=b.upd a4 g
  have d:Has w4 t ([.slice none 0 0,.slice none 0 0]) _:=d.now (by kernel_rfl)
  refine Ah rfl<|Ae<|Ab<|Bo (rs:=[.cell 4 26,.tmp 5]) (vs:=[_,_]) rfl rfl ⟨⟨_,rfl,.inr ⟨[.slice none 0 0,.slice none 0 0],Cb,d.row,rfl⟩⟩,rfl,trivial⟩ ?_
  exact⟨S,.inl ⟨.inl q1,rfl⟩⟩
 ·
  have hok:AOk A:=(Hd A).1 (by simpa using h3)
  have hmost:=hok.most
  have hone:=hok.one
  have hfit:=hok.fit
  refine Ao<|Ab<|Hi (α:=Option Addr × Nat) (fun x_=>[(1,.slice pa l.length pc),(2,.pointer (some ⟨C,0,none⟩)),(4,.pointer (some ⟨t,0,none⟩))]) (fun x_ w5=>∃B,C<B∧t<B∧w.heap.size≤B∧Ows B w5 140 16 (.slice x_.1 (A.nodes.map Node.cells).length x_.2) (A.nodes.map Node.cells)∧Has w5 C [.slice x_.1 (A.nodes.map Node.cells).length x_.2,.slice fa A.free.length A.free.length] 26∧Has w5 t [.slice none 0 0,.slice none 0 0] 26∧Sub w w5) ?_ (fun x_ w5 hJ=>?_)
  ·
   refine Bs (fun k=>k=C) [7,9] w1.heap.size 10 rfl rfl mxo (fun w6 s7=>?_)
   have hNN:∀k,((k=C)∨w1.heap.size≤k)→w.heap.size≤k:=fun k e=>e.elim (fun e=>e▸E) (fun e=>Ad S.size e)
   have hN0:∀k,w1.heap.size≤k→w.heap.size≤k:=fun k e=>Ad S.size e
   have n:=b.lt;have D:=d.lt;have szD:=Nat.le_refl w1.heap.size;have S:=S.trans s7;have b:=b.sub s7;have d:=d.sub s7;have szD:=Ad szD s7.size;refine Bl 0 rfl Et rfl<|Fq 1 rfl (by kernel_rfl) (by kernel_rfl) (by kernel_rfl) (by kernel_rfl) (fun w' s'=>.load1 Jj rfl ((b.step s' (Nat.not_le.2 n)).cell rfl)) rfl rfl<|Bl 3 rfl Ja rfl<|Fq 4 rfl (by kernel_rfl) (by kernel_rfl) (by kernel_rfl) (by kernel_rfl) (fun w' s'=>.load1 El rfl ((b.step s' (Nat.not_le.2 n)).cell rfl)) rfl rfl<|Aq 2 rfl<|Az rfl AIx (Rs A.nodes na nc w6 (hN.sub S) (by omega)) ?_;rintro u w8 ⟨ho,s9⟩
   have ltc:=b.lt
   have szC:=szD;have S:=S.trans s9;have b:=b.sub s9;have d:=d.sub s9
   obtain⟨ca,cc,rfl,kc⟩:=ho.form
   refine Be s9.agr<|Bl 6 rfl Et rfl<|Aq 5 rfl<|Az rfl ALO (AKM A.free fa fc w8 hfc) ?_;rintro _ w10 ⟨rfl,s11⟩;have S:=S.trans s11;have b:=b.sub s11;have d:=d.sub s11;have ho:=ho.sub s11;refine Be s11.agr<|Aq 7 rfl<|At Jj rfl rfl rfl b (fun w12 z12 b a12=>?_);have S:=S.upd a12 E;have d:=d.upd a12 g.symm;have ho:=ho.upd a12 (by omega);refine Cq rfl a12 (rfl)<|Bl 8 rfl Ja rfl<|Aq 9 rfl<|At El rfl rfl rfl b (fun w13 z13 b a13=>?_);have S:=S.upd a13 E;have d:=d.upd a13 g.symm;have ho:=ho.upd a13 (by omega);refine Cq rfl a13 (rfl) ?_
   exact Fb (by kernel_rfl) (fun a ka=>⟨(ca,cc),⟨_,ltc,by have:=D;have:=szC;omega,by omega,ho,b,d,S⟩,ka.keep (Bf (by repeat (first|exact trivial|refine And.intro rfl ?_)))⟩)
  obtain⟨ca,cc⟩:=x_
  obtain⟨B0,ad,ac,q_w,ho,b,d,S⟩:=hJ
  obtain⟨b_C,cap_C,ex_C,f_C,g_C,k_C,m_C,hb_C,l_C⟩:=ho.has (by simp only[Aj];omega)
  have ge_C:=Ad q_w g_C
  simp only[Value.slice.injEq,true_and] at f_C
  obtain⟨rfl,rfl⟩:=f_C
  have m:b_C≠C:=by omega
  have f:b_C≠t:=by omega
  have lt_2:=b.lt
  have lt_4:=d.lt
  have lt_C:=hb_C.lt
  rw[Aj] at *
  refine Ac<|Ac<|Aa rfl<|Af rfl<|Cm Dd rfl<|Af rfl ?_
  obtain⟨B,szB⟩:∃B,B=w5.heap.size:=⟨_,rfl⟩
  refine Ae<|Ab<|Bh<|Cw (α:=Nat × Ar × Value) (fun x=>[(2,.pointer (some ⟨C,0,none⟩)),(4,.pointer (some ⟨t,0,none⟩)),(20,.slice pa l.length pc),(21,.int .i64 (l.length:Int)),(22,.int .i64 (x.1:Int))]) (fun x w14=>(x.1≤l.length∧AOk x.2.1∧Jh A l=Jh x.2.1 (l.drop x.1)∧x.2.1.nodes.length=A.nodes.length∧x.2.1.free.length=A.free.length+x.1∧(∀y∈x.2.1.nodes,y.ok)∧(∀y∈x.2.1.free,I64 y))∧Has w14 C [.slice (some ⟨b_C,0,none⟩) A.nodes.length cc,x.2.2] 26∧Has w14 t [.slice none 0 0,.slice none 0 0] 26∧Has w14 b_C ((x.2.1.nodes.map Node.cells).flatten++ex_C) 140∧OwnZ B w14 3 1 x.2.2 (x.2.1.free.map fun x=>[i6 x]) (.slice fa A.free.length A.free.length) (A.free.map fun x=>[i6 x])∧B≤w14.heap.size∧Sub w w14) (fun x=>l.length-x.1) (0,A,.slice fa A.free.length A.free.length) (Bf (by repeat (first|exact trivial|refine And.intro rfl ?_))) (⟨⟨Nat.zero_le _,hok,rfl,rfl,rfl,hA.nok,hA.fok⟩,b,d,hb_C,.inr ⟨rfl,rfl⟩,by omega,S⟩) (fun x w14 hJ=>?_)
  obtain⟨i,Ai,u⟩:=x;obtain⟨⟨hi,hoki,hd,hnl,hfl,hnk,hfk⟩,b,d,hb_C,ho,szB,S⟩:=hJ;simp only[] at hi hoki hd hnl hfl hnk hfk b hb_C ho
  refine Ac<|Aa rfl<|Bc rfl rfl rfl<|Ae<|Ab<|Ac<|An rfl (fun h15=>?_) (fun h15=>?_)
  ·
   obtain⟨p,hp⟩:=Ce (l:=l) (i:=i) (by omega)
   have hdc:=AAp (A:=Ai) hp
   have hpi:=hli p (Au hp)
   refine Ao<|Ab<|Ac<|Bh<|Ac<|Aa rfl<|Ak (.indexS Dd rfl rfl (by omega) (hP.is (i:=0) (by simp only[Aj,Al,Am];omega)))<|Ak (.load1 sh3 rfl ((hP.sub S).one (enc:=i6) (i:=i) hp))<|Ah rfl<|Ae<|Ab<|Ac<|Ac<|Aa rfl<|Af rfl<|Bc rfl rfl rfl ?_;refine Af rfl<|Bn 28 rfl (fun h16=>?_) (fun h16=>?_)
   ·
    refine Bd 5 rfl<|Br rfl rfl<|Af rfl<|Bd 7 rfl<|Br rfl rfl<|Ae<|Ab<|Bm rfl<|Ac<|Aa rfl<|Ak (.buildS Fy Rz rfl rfl)<|At Cb rfl rfl rfl d (fun w17 z17 d a17=>?_);have S:=S.upd a17 s;have b:=b.upd a17 g;have hb_C:=hb_C.upd a17 f;have szB:=Ad szB a17.size;have ho:=ho.upd a17 (by omega)
    have d:Has w17 t ([.slice none 0 0,.slice none 0 0]) _:=d.now (by kernel_rfl)
    refine Ah rfl<|Ae<|Ab<|Bo (rs:=[.cell 4 26,.tmp 5]) (vs:=[_,_]) rfl rfl ⟨⟨_,rfl,.inr ⟨[.slice none 0 0,.slice none 0 0],Cb,d.row,rfl⟩⟩,rfl,trivial⟩ ?_
    exact⟨S,.inl ⟨.inr (by rw[hd,hdc,Tv (by omega)]),rfl⟩⟩
   ·
    refine Af rfl<|Av Et rfl<|Ba Jj rfl b rfl<|Cm Ig rfl<|Bc rfl rfl rfl<|Bq rfl rfl<|Af rfl<|Bn 35 rfl (fun h18=>?_) (fun h18=>?_)
    ·
     refine Bd 7 rfl<|Br rfl rfl<|Ae<|Ab<|Bm rfl<|Ac<|Aa rfl<|Ak (.buildS Fy Rz rfl rfl)<|At Cb rfl rfl rfl d (fun w19 z19 d a19=>?_);have S:=S.upd a19 s;have b:=b.upd a19 g;have hb_C:=hb_C.upd a19 f;have szB:=Ad szB a19.size;have ho:=ho.upd a19 (by omega)
     have d:Has w19 t ([.slice none 0 0,.slice none 0 0]) _:=d.now (by kernel_rfl)
     refine Ah rfl<|Ae<|Ab<|Bo (rs:=[.cell 4 26,.tmp 5]) (vs:=[_,_]) rfl rfl ⟨⟨_,rfl,.inr ⟨[.slice none 0 0,.slice none 0 0],Cb,d.row,rfl⟩⟩,rfl,trivial⟩ ?_
     exact⟨S,.inl ⟨.inr (by rw[hd,hdc,Tv (by omega)]),rfl⟩⟩
    ·
     obtain⟨y,hy⟩:=Ce (l:=Ai.nodes) (i:=p.toNat) (by omega)
     have hst0:=Tw (A:=Ai) (p:=p) (by omega) hy
     have hwy:=(Ga y).1 (hoki.well y (Au hy))
     refine Av Et rfl<|Ba Jj rfl b rfl<|Af rfl<|Ak (.indexO Ig rfl rfl (by omega))<|Av Es rfl<|Ak (.load1 sh3 rfl (hb_C.rowCell (j:=0) ABE hy rfl (by omega)))<|Bc rfl rfl rfl<|Bq rfl rfl<|Ae<|Ab<|An rfl (fun h20=>?_) (fun h20=>?_)
     ·
      have hk0:=h20
      refine Ac<|Aa rfl<|Ak (.buildS Fy Rz rfl rfl)<|At Cb rfl rfl rfl d (fun w21 z21 d a21=>?_);have S:=S.upd a21 s;have b:=b.upd a21 g;have hb_C:=hb_C.upd a21 f;have szB:=Ad szB a21.size;have ho:=ho.upd a21 (by omega)
      have d:Has w21 t ([.slice none 0 0,.slice none 0 0]) _:=d.now (by kernel_rfl)
      refine Ah rfl<|Ae<|Ab<|Bo (rs:=[.cell 4 26,.tmp 5]) (vs:=[_,_]) rfl rfl ⟨⟨_,rfl,.inr ⟨[.slice none 0 0,.slice none 0 0],Cb,d.row,rfl⟩⟩,rfl,trivial⟩ ?_
      exact⟨S,.inl ⟨.inr (by rw[hd,hdc,hst0,if_pos hk0]),rfl⟩⟩
     ·
      rw[if_neg h20] at hst0
      have hst:=hst0
      have hd2:Jh A l=_:=hd.trans (hdc.trans (by rw[hst]))
      have hnk2:∀z∈Ai.nodes.set p.toNat (Eg ((y.gen+1)%1048577)),z.ok:=(fun z hz=>(List.mem_or_eq_of_mem_set hz).elim (hnk z) (fun e=>e▸ABj (by unfold I64;omega)))
      have hfk2:∀z∈Ai.free++[p],I64 z:=(fun z hz=>(List.mem_append.1 hz).elim (hfk z) (fun h=>by rw[List.mem_singleton] at h;exact h▸hpi))
      refine Ao<|Ab<|Ac<|Bs (fun k=>k=b_C) [13] w14.heap.size 14 rfl rfl mxo (fun w22 s23=>?_)
      have hNN:∀k,((k=b_C)∨w14.heap.size≤k)→w.heap.size≤k:=fun k e=>e.elim (fun e=>e▸ge_C) (fun e=>Ad S.size e)
      have hN0:∀k,w14.heap.size≤k→w.heap.size≤k:=fun k e=>Ad S.size e
      have n:=b.lt;have ltD_b_C:=hb_C.lt;have S:=S.trans s23;have b:=b.sub s23;have d:=d.sub s23;have hb_C:=hb_C.sub s23;have szB:=Ad szB s23.size;have ho:=ho.sub s23;refine Bl 0 rfl Et rfl<|Ck 1 rfl Jj rfl b (nE m.symm n) rfl<|Bp 2 rfl rfl<|Bl 3 rfl Et rfl<|Ck 4 rfl Jj rfl b (nE m.symm n) rfl<|Bp 5 rfl rfl<|Bg 6 rfl (fun _ _=>.indexO Ig rfl rfl (by omega))<|Bl 7 rfl Gv rfl<|Fq 8 rfl (by kernel_rfl) (by kernel_rfl) (by kernel_rfl) (by kernel_rfl) (fun w' s'=>.load1 sh3 rfl ((hb_C.step s' (Nat.not_le.2 ltD_b_C)).rowCell (j:=1) ABE hy rfl (by omega))) rfl rfl<|Bg 9 rfl (fun _ _=>.as (.bin rfl rfl rfl) (Cs (y:=y.gen+1) (by rfl) (by omega)))<|Bg 10 rfl (fun _ _=>.as (v':=.int .i64 ((y.gen+1)%1048577)) (.rem rfl rfl (by decide)) (by rw[AAv (by omega)]))<|Bg 11 rfl (fun _ _=>.buildS Dx Mv rfl rfl)<|Bg 12 rfl (fun _ _=>.indexO Ig rfl rfl (by omega))<|Aq 13 rfl<|Cg Ct rfl rfl rfl hb_C (by rw[Ag,Cy (sz:=16) _ (So _),Aj];show _+16≤_;omega) (by rfl) rfl (fun w24 z24 hb_C a24=>?_);have S:=S.upd a24 ge_C;have b:=b.upd a24 m.symm;have d:=d.upd a24 f.symm;have szB:=Ad szB a24.size;have ho:=ho.upd a24 (by omega)
      rw[Nat.zero_add] at hb_C
      have hb_C:=Gh (r:=(Eg ((y.gen+1)%1048577)).cells) hb_C (So _) (by rw[Aj];omega) rfl
      rw[←List.map_set] at hb_C
      refine Cq rfl a24 (rfl)<|Cp<|Ab<|Aa rfl<|Av Ja rfl<|Ba El rfl b rfl<|Af rfl<|Bi Dd _ ze3 rfl rfl rfl rfl rfl rfl rfl (fun Z P X M F q=>?_);have S:=S.trans q;have b:=b.sub q;have d:=d.sub q;have hb_C:=hb_C.sub q;have szB:=Ad szB q.size;have ho:=ho.sub q;have J:=S.size
      have ltb_2_62:=b.lt
      have ltb_4_62:=d.lt
      have ltb_C_62:=hb_C.lt
      have ltb_61_62:=F.lt
      refine De (base:=B) (rows:=Ai.free.map fun x=>[i6 x]) (news:=[_]) Dd ze3 rfl rfl rfl rfl (OwnZ.c (a:=fa) ho (by rw[Aj]) (hFr.sub S) (fun r hr=>by obtain⟨z,_,rfl⟩:=List.mem_map.1 hr;rfl)) (Dr F) rfl (by intro r hr;rw[List.mem_singleton] at hr;subst hr;rfl) rfl (by(try simp only[Aj,Am,Ag,Al]);omega) (by(try simp only[Aj,Am,Ag,Al]);omega) (by omega) rfl rfl (fun T O hc_62 G o ob_62=>?_)
      have S:=S.agrN o (fun k e=>Ad (by omega) e.2)
      have b:=b.step o (fun e=>absurd e.2 (by omega));have d:=d.step o (fun e=>absurd e.2 (by omega));have hb_C:=hb_C.step o (fun e=>absurd e.2 (by omega));have szB:=Ad szB o.size
      have hO:=G (.inl (by simp))
      rw[show Ai.free.map (fun x=>[i6 x])++[_]=(Ai.free++[p]).map (fun x=>[i6 x]) from by rw[List.map_append];rfl] at hO
      obtain⟨I,H,rfl,V⟩:=hO.form
      refine Av Ja rfl<|At El rfl rfl rfl b (fun w25 z25 b a25=>?_);have S:=S.upd a25 E;have d:=d.upd a25 g.symm;have hb_C:=hb_C.upd a25 m;have szB:=Ad szB a25.size;have hO:=hO.upd a25 (by omega)
      have b:Has w25 C ([.slice (some ⟨b_C,0,none⟩) A.nodes.length cc,.slice I ((Ai.free++[p]).map fun x=>[i6 x]).length H]) _:=b
      refine Ae<|Ab<|Aa rfl<|Ak (.as (.bin rfl rfl rfl) (Cs (y:=((i+1:Nat):Int)) (by omega) (by omega)))<|Af rfl ?_
      exact Ae (fun a ka=>⟨(i+1,_,_),⟨⟨by omega,Tu hoki hst,hd2,by simpa using hnl,by simp only[Ag,List.length_singleton];omega,hnk2,hfk2⟩,b,d,hb_C,.inl hO,szB,S⟩,by omega,ka.keep (Bf (by repeat (first|exact trivial|refine And.intro rfl ?_)))⟩)
  ·
   obtain rfl:i=l.length:=(by omega)
   rw[List.drop_length] at hd
   obtain⟨a_u,c_u,hu,k_u,hs_u⟩:=(OwnZ.c (a:=fa) ho (by rw[Aj]) (hFr.sub S) (fun r hr=>by obtain⟨z,_,rfl⟩:=List.mem_map.1 hr;rfl)).form
   subst hu
   refine Co rfl<|Ab<|Ac<|Aa rfl<|Ak (.loadR ([.slice (some ⟨b_C,0,none⟩) A.nodes.length cc,.slice a_u (Ai.free.map fun x=>[i6 x]).length c_u]) Cb rfl b.row rfl)<|At Cb rfl rfl rfl d (fun w26 z26 d a26=>?_);have S:=S.upd a26 s;have hb_C:=hb_C.upd a26 f;have szB:=Ad szB a26.size;have ho:=ho.upd a26 (by omega)
   have d:Has w26 t ([.slice (some ⟨b_C,0,none⟩) A.nodes.length cc,.slice a_u (Ai.free.map fun x=>[i6 x]).length c_u]) _:=d.now (by kernel_rfl)
   refine Ah rfl<|Ae<|Ab<|Bo (rs:=[.cell 4 26,.tmp 5]) (vs:=[_,_]) rfl rfl ⟨⟨_,rfl,.inr ⟨[.slice (some ⟨b_C,0,none⟩) A.nodes.length cc,.slice a_u (Ai.free.map fun x=>[i6 x]).length c_u],Cb,d.row,rfl⟩⟩,rfl,trivial⟩ ?_
   refine⟨S,.inr ⟨hok,Ai,arV (some ⟨b_C,0,none⟩) a_u cc c_u Ai,hd,?_,_,_,_,_,rfl,by omega,by simpa using k_u,fun N hN hI W hW=>⟨Has.sl (hb_C.step hW (fun e=>by have:=hN _ e;omega)) (So _),?_,hnk,hfk⟩⟩⟩
   ·show tup [Value.agg _,_]=_
    simp only[arV,Aj,hnl]
    rfl
   ·rcases ho with ho|⟨e1,e2⟩
    ·exact(ho.imm (N:=N) (fun k hk=>by have:=hN k hk;omega)) W hW
    ·simp only[Value.slice.injEq] at e1
     rw[e2,e1.1]
     exact((hI.sub S) W hW).free
theorem Tr{n:Nat}{x:Int}:x∈Fk n n↔0≤x∧x<n:=by
 unfold Fk
 rw[List.mem_map]
 constructor
 ·rintro⟨j,hj,rfl⟩
  have:=List.mem_range.1 hj
  omega
 ·intro h
  exact⟨((n:Int)-1-x).toNat,List.mem_range.2 (by omega),by omega⟩
theorem Pt(n:Nat):∀i,(Fk n i).Nodup
 |0=>by simp[Fk]
 |i+1=>by
  rw[Rq,List.nodup_append]
  refine⟨Pt n i,by simp,fun a ha b hb e=>?_⟩
  rw[List.mem_singleton] at hb
  subst hb;subst e
  obtain⟨j,hj,h⟩:=List.mem_map.1 ha
  have:=List.mem_range.1 hj
  omega
theorem ADR{n:Nat}(h:1≤n∧n≤512):AOk (Fe n):=by
 have hl:(Fe n).nodes.length=n:=by simp[Fe]
 have key:∀(i:Nat) x,(Fe n).nodes[i]?=some x→x=Eg 0∧i<n:=fun i x hx=>by
  have h1:=Cc hx
  have h2:=Au hx
  exact⟨(List.mem_replicate.1 h2).2,by omega⟩
 refine⟨by omega,by omega,by rw[hl];simp[Fe,Kv],?_,Pt n n,?_,?_,?_⟩
 ·intro x hx;rw[hl];exact Tr.1 hx
 ·intro x hx;rw[(List.mem_replicate.1 hx).2];rfl
 ·intro i x hx
  obtain⟨rfl,hi⟩:=key i x hx
  exact⟨fun _=>Tr.2 (by omega),fun _=>rfl⟩
 ·intro i x hx _
  obtain⟨rfl,hi⟩:=key i x hx
  rfl
theorem Xn{l:List Int}(hn:l.Nodup)(h:0<l.length){p:Int}(hp:l[l.length-1]?=some p)(x:Int):x∈l.take (l.length-1)↔x∈l∧x≠p:=by
 have e:l=l.take (l.length-1)++[p]:=by
  have:=List.take_append_drop (l.length-1) l
  conv=>lhs;rw[←this]
  congr 1
  rw[List.drop_eq_getElem_cons (by omega),Ex hp (by omega),List.drop_eq_nil_of_le (by omega)]
 have hn2:=hn
 rw[e,List.nodup_append] at hn2
 constructor
 ·intro hx
  exact⟨List.mem_of_mem_take hx,fun h=>hn2.2.2 x hx p (by simp) h⟩
 ·rintro⟨hx,hne⟩
  rw[e] at hx
  exact(List.mem_append.1 hx).resolve_right (by simpa using hne)
theorem Vr{A:Ar}{x:Node}(hA:AOk A)(h:0<A.free.length){i:Nat}{y:Node}(hy:(Gu A x).nodes[i]?=some y):(i:Int)=En A∧y=Pp A x∨¬(i:Int)=En A∧A.nodes[i]?=some y:=by
 have hin:=Ie hA h
 simp only[Gu,List.getElem?_set] at hy
 split at hy
 ·split at hy
  ·cases hy;exact .inl ⟨by omega,rfl⟩
  ·cases hy
 ·exact .inr ⟨by omega,hy⟩
theorem ACg{A:Ar}{x:Node}(hm:Ez A x)(h:0<A.free.length):well (Pp A x)=true:=by
 have hg:=Sy hm.1 (Ie hm.1 h)
 have hw:=(Ga (x0 x)).1 hm.2.2.2
 rw[Ga]
 exact⟨⟨hg.1,hg.2,hw.1.2.2⟩,hw.2⟩
theorem ADU{A:Ar}{x:Node}(hm:Ez A x)(h:0<A.free.length):AOk (Gu A x):=by
 have hA:=hm.1
 have hin:=Ie hA h
 have hl:(Gu A x).nodes.length=A.nodes.length:=by simp[Gu]
 have hmem:=Xn hA.nodup h (Kj h)
 have hk:¬(Pp A x).kind=0:=by have:=hm.2.1;show¬x.kind=0;omega
 refine⟨by rw[hl];exact hA.one,by rw[hl];exact hA.most,?_,?_,?_,?_,?_,?_⟩
 ·rw[hl];simp only[Gu,List.length_take];have:=hA.fit;omega
 ·intro y hy;rw[hl];exact hA.free y (List.mem_of_mem_take hy)
 ·exact hA.nodup.sublist (List.take_sublist _ _)
 ·intro y hy
  obtain⟨i,hi⟩:=List.getElem?_of_mem hy
  rcases Vr hA h hi with⟨_,rfl⟩|⟨_,hi⟩
  ·exact ACg hm h
  ·exact hA.well y (Au hi)
 ·intro i y hy
  show _↔(i:Int)∈A.free.take _
  rw[hmem]
  rcases Vr hA h hy with⟨e,rfl⟩|⟨ne,hi⟩
  ·exact⟨fun h=>absurd h hk,fun h=>absurd e h.2⟩
  ·rw[hA.kind i y hi];exact⟨fun h=>⟨h,ne⟩,fun h=>h.1⟩
 ·intro i y hy hf
  have hf2:=(hmem _).1 hf
  rcases Vr hA h hy with⟨e,rfl⟩|⟨ne,hi⟩
  ·exact absurd e hf2.2
  ·exact hA.bare i y hi hf2.1
theorem ABL{A:Ar}{x:Node}(hm:Ez A x)(h:0<A.free.length):Ch (Gu A x) (Va A)=some (Pp A x):=by
 have hi:=Rh hm.1 h
 have hin:=Ie hm.1 h
 have hp:=Ys hi
 have hg:=AHz hi
 rw[show ofR (En A) (Ln A (En A))=Va A from rfl] at hp hg
 have hk:¬(Pp A x).kind=0:=by have:=hm.2.1;show¬x.kind=0;omega
 rw[ADZ (by omega) (x:=Pp A x) (by rw[hp];simp only[Gu];rw[List.getElem?_set_self (by omega)]),if_neg]
 rintro(e|e)
 ·exact hk e
 ·exact e (by rw[hg];rfl)
end Go.Proofs.YtbjmllnddanniaaGreat
set_option linter.unusedVariables false
set_option linter.unusedSimpArgs false
namespace Go.XL
open Go
def AFF:Option IntKind→Value→Prop
 |some k,.int k' a=>k'=k∧(Lit.int k a).wf=true
 |none,.bool _=>True
 |_,_=>False
def Js:List (Option IntKind)→List Value→Prop
 | [],[]=>True
 |k::ks,v::vs=>AFF k v∧Js ks vs
 |_,_=>False
theorem Sz:∀ {ks ks':List (Option IntKind)} {xs ys:List Value},Js ks xs→Js ks' ys→Js (ks++ks') (xs++ys)
 | [],_,[],_,_,h=>h
 |_::_,_,_::_,_,h,h'=>⟨h.1,Sz h.2 h'⟩
 | [],_,_::_,_,h,_=>h.elim
 |_::_,_,[],_,h,_=>h.elim
theorem AGr{k:IntKind}{v:Value}(h:AFF (some k) v):∃a,v=.int k a∧(Lit.int k a).wf=true:=by
 cases v<;>simp[AFF] at h
 obtain⟨rfl,h⟩:=h
 exact⟨_,rfl,h⟩
theorem ACj{k ks xs}(h:Js (k::ks) xs):∃v vs,xs=v::vs∧AFF k v∧Js ks vs:=by
 cases xs with
 |nil=>exact h.elim
 |cons v vs=>exact⟨v,vs,rfl,h.1,h.2⟩
theorem AEg{xs}(h:Js [] xs):xs=[]:=by
 cases xs with
 |nil=>rfl
 |cons v vs=>exact h.elim

section
variable {H:Type} {enc:TypeId × Value→H} {P:Program} {w:World} {base:Nat} {spare:Nat→Bool} {held:Bool}
theorem Pv{t b s}(h:shapeOf P t=some (b,s)):P.cellsOf t=s:=by
 obtain⟨d,i,h1,h2,h3,h4⟩:=Dp h
 simp[Program.cellsOf,h2,h4]

theorem Tt{k:Nat}(IH:∀ {t ks n cs x},flatK P k t=some ks→cs.length=ks.length→DataW.trod enc P w base spare held n t cs=some x→Js ks cs):
  ∀(fs:List Field) (o:Nat) (ks:List (Option IntKind)) (cs:List Value),Ku P (flatK P k) o fs=some ks→cs.length=o+ks.length →
   (∀f∈fs,∃n x,DataW.trod enc P w base spare held n f.type ((cs.drop f.offset).take (P.cellsOf f.type))=some x)→Js ks (cs.drop o)
 | [],o,ks,cs,h,hl,_=>by
  simp only[Ku,Option.some.injEq] at h
  subst h
  rw[List.drop_eq_nil_of_le (by simp at hl;omega)]
  trivial
 |f::fs,o,ks,cs,h,hl,hf=>by
  simp only[Ku] at h
  split at h
  ·cases h
  rename_i hno
  split at h
  ·cases h
  rename_i l hl1
  split at h
  ·cases h
  rename_i b s hs
  split at h
  ·cases h
  rename_i hsl
  have hsl':s=l.length:=Decidable.byContradiction hsl
  split at h
  ·cases h
  rename_i r hr
  cases h
  have ho:f.offset=o:=Decidable.byContradiction fun e=>hno (.inr e)
  obtain⟨n,x,hx⟩:=hf f (by simp)
  rw[ho,Pv hs] at hx
  have h1:=IH hl1 (by rw[List.length_take,List.length_drop,hl,Ag];omega) hx
  have h2:=Tt IH fs (o+s) r cs hr (by rw[hl,Ag];omega) (fun g hg=>hf g (by simp[hg]))
  have e:cs.drop o=(cs.drop o).take s++cs.drop (o+s):=by
   rw[←List.drop_drop,List.take_append_drop]
  rw[e]
  exact Sz h1 h2

theorem Wt{l:List (Option IntKind)}{s:Nat}(hs:s=l.length):∀(n:Nat) (cs:List Value),cs.length=n*s→(∀i,i<n→Js l ((cs.drop (i*s)).take s))→Js (List.replicate n l).flatten cs
 |0,cs,hl,_=>by
  have:cs=[]:=List.eq_nil_of_length_eq_zero (by simpa using hl)
  subst this
  trivial
 |n+1,cs,hl,h=>by
  rw[Nat.succ_mul] at hl
  rw[List.replicate_succ,List.flatten_cons,←List.take_append_drop s cs]
  refine Sz (by simpa using h 0 (by omega)) (Wt hs n (cs.drop s) (by rw[List.length_drop];omega) fun i hi=>?_)
  have:=h (i+1) (by omega)
  rwa [Nat.succ_mul,Nat.add_comm,←List.drop_drop] at this

theorem Si:∀(k:Nat) {t ks n cs x},flatK P k t=some ks→cs.length=ks.length→DataW.trod enc P w base spare held n t cs=some x→Js ks cs
 |0,t,ks,n,cs,x,h,_,_=>by simp[flatK] at h
 |k+1,t,ks,n,cs,x,h,hl,hx=>by
  rw[flatK] at h
  split at h
  ·rename_i kd hu
   cases h
   obtain⟨a,rfl,_,hw⟩:=DataW.trod_int hu hx
   exact⟨⟨rfl,hw⟩,trivial⟩
  ·rename_i hu
   cases h
   obtain⟨b,rfl,_⟩:=DataW.trod_bool hu hx
   exact⟨trivial,trivial⟩
  ·rename_i fs hu
   split at h
   ·cases h
   obtain⟨xs,m,rfl,rfl,hlen,hxl,hf⟩:=DataW.trod_struct hu hx
   have key:∀f∈fs.toList,∃n x,DataW.trod enc P w base spare held n f.type ((cs.drop f.offset).take (P.cellsOf f.type))=some x:=fun f hfm=>by
    obtain⟨i,hi,he⟩:=List.getElem_of_mem hfm
    have hi':i<fs.size:=by simpa using hi
    have:=hf i f (by rw[Array.getElem?_eq_getElem hi'];simpa using he)
    rw[List.getElem?_eq_getElem (by omega)] at this
    exact⟨m,_,this⟩
   have:=Tt (fun h hl hx=>Si k h hl hx) fs.toList 0 ks cs h (by omega) key
   simpa using this
  ·rename_i len e hu
   split at h
   ·cases h
   rename_i l hl1
   split at h
   ·cases h
   rename_i b s hs
   split at h
   ·cases h
   rename_i hsl
   have hsl':s=l.length:=Decidable.byContradiction hsl
   cases h
   obtain⟨xs,m,rfl,rfl,hlen,hxl,hf⟩:=DataW.trod_array hu hx
   rw[Pv hs] at hf
   have hcl:cs.length=len*s:=by rw[hl,List.length_flatten];simp[hsl']
   refine Wt hsl' len cs hcl fun i hi=>?_
   have:=hf i hi
   rw[List.getElem?_eq_getElem (by omega)] at this
   have hle:(i+1)*s≤len*s:=Nat.mul_le_mul_right _ hi
   rw[Nat.succ_mul] at hle
   exact Si k hl1 (by rw[List.length_take,List.length_drop];omega) this
  ·cases h

theorem AHi{t e s by_ ks n cs x}(ht:sliceOf P t=some (e,s,by_))(hk:flatK P 6 e=some ks)(hs:s=ks.length)(h:DataW.trod enc P w base spare held n t cs=some x):
  ∃(a:Option Addr) (rows:List (List Value)) (c:Nat),cs=[.slice a rows.length c]∧rows.length≤c∧c≤maxLen∧Sl w a s rows∧∀r∈rows,Js ks r:=by
 obtain⟨h1,i,h2,h3,h4⟩:=Dk ht
 have hc:P.cellsOf e=s:=by simp[Program.cellsOf,h2,h3]
 rcases Go.Deep.open_slice h1 h with⟨rfl,rfl⟩|⟨a,len,cap,m,n',D,Pl,rfl,hb,hlc,hcm,hm,rfl,hel⟩
 ·exact⟨none,[],0,rfl,Nat.le_refl _,Nat.zero_le _,Sl.nil _ _ _,by simp⟩
 ·rw[hc] at hel
  have hlm:len≤m:=by rw[hm];split<;>omega
  let f:Nat→List Value:=fun i=>(w.cells? base (a.add (i*s)) s).getD []
  have hf:∀i,i<len→w.cells? base (a.add (i*s)) s=some (f i)∧Js ks (f i):=fun i hi=>by
   obtain⟨cs',g1,g2⟩:=hel i (by omega)
   have hl:=(World.cells?_some g1).2.1
   have e:f i=cs':=by simp only[f,g1,Option.getD_some]
   rw[e]
   exact⟨g1,Si 6 hk (by omega) g2⟩
  have hlen:((List.range len).map f).length=len:=by simp
  refine⟨some a,(List.range len).map f,cap,by rw[hlen],by omega,hcm,⟨fun _=>rfl,fun i r hr=>?_⟩,fun r hr=>?_⟩
  ·rw[List.getElem?_map] at hr
   by_cases hi:i<len
   ·rw[List.getElem?_range hi] at hr
    cases hr
    obtain⟨_,g2,g3⟩:=World.cells?_some (hf i hi).1
    intro j v hj
    have hjl:j<s:=by
     rw[←g2]
     rcases Nat.lt_or_ge j (f i).length with q|q
     ·exact q
     ·rw[List.getElem?_eq_none q] at hj;cases hj
    simp only[Option.getD_some]
    rw[g3 j hjl,hj]
   ·rw[List.getElem?_eq_none (by simpa using hi)] at hr;cases hr
  ·obtain⟨i,hi,rfl⟩:=List.mem_map.1 hr
   exact(hf i (List.mem_range.1 hi)).2
theorem ADK{α:Type}{enc:α→List Value}{ok:α→Prop}:∀(rows:List (List Value)),(∀r∈rows,∃x,r=enc x∧ok x)→∃l:List α,rows=l.map enc∧∀x∈l,ok x
 | [],_=>⟨[],rfl,by simp⟩
 |r::rows,h=>by
  obtain⟨x,rfl,hx⟩:=h r (by simp)
  obtain⟨l,rfl,hl⟩:=ADK rows (fun r hr=>h r (by simp[hr]))
  exact⟨x::l,rfl,by intro y hy;rcases List.mem_cons.1 hy with rfl|hy;exact hx;exact hl y hy⟩
theorem AHr{α:Type}(f:α→List Value)(ok:α→Prop){t e s by_ ks v d ps r b}(ht:sliceOf P t=some (e,s,by_))(hk:flatK P 6 e=some ks)(hs:s=ks.length)(hf:∀r,Js ks r→∃x,r=f x∧ok x)(hok:Value.okWide P w r b t v)(h:DataW.Trod enc P w base spare held t v d ps):
  ∃(a:Option Addr) (l:List α) (c:Nat),v=.slice a l.length c∧l.length≤c∧c≤maxLen∧Sl w a s (l.map f)∧∀x∈l,ok x:=by
 obtain⟨n,hn⟩:=h
 obtain⟨a,rows,c,h1,h2,h3,h4,h5⟩:=AHi ht hk hs hn
 obtain⟨l,rfl,hl⟩:=ADK rows (fun r hr=>hf r (h5 r hr))
 rw[Aj] at h1 h2
 have hv:v=.slice a l.length c:=by
  have hu:=(Dk ht).1
  cases v with
  |agg cs=>simp[Value.okWide,hu,Cell.okWide,Cell.ok] at hok
  |slice a' n' c'=>simpa[Value.cells] using h1
  |_=>simp[Value.cells] at h1
 exact⟨a,l,c,hv,h2,h3,h4,hl⟩
end
end Go.XL
set_option linter.unusedVariables false
set_option linter.unusedSimpArgs false
namespace Go.Proofs.YtbjmllnddanniaaGreat
open Go Go.XL
theorem wfI{a:Int}(h:(Lit.int .i64 a).wf=true):I64 a:=by
 simp[Lit.wf,IntKind.min,IntKind.max,IntKind.signed,IntKind.bits] at h
 unfold I64
 omega
theorem AMs{v:Value}(h:AFF (some .i64) v):∃a,v=.int .i64 a∧I64 a:=by
 obtain⟨a,h1,h2⟩:=AGr h
 exact⟨a,h1,wfI h2⟩
theorem AH2(r:List Value)(h:Js [some .i64] r):∃x:Int,r=[i6 x]∧I64 x:=by
 obtain⟨_,_,rfl,h0,h⟩:=ACj h
 obtain rfl:=AEg h
 obtain⟨a,rfl,g⟩:=AMs h0
 exact⟨a,rfl,g⟩
def n7:Node:=⟨1,0,7,0,0,0,0,0,0,0,0,0,0,0,0,0⟩
theorem AJM(w w':World)(na fa:Option Addr)(A:Ar):ArI w w' na fa A none none ar0:=fun N _ _ u _=>⟨Sl.nil _ _ _,Sl.nil _ _ _,by simp[ar0],by simp[ar0]⟩
theorem Yu{A:Ar}{x:Node}{w w':World}{na fa:Option Addr}{v:Value}(h:¬Ez A x∧v=.tuple #[AFI,.int .u64 0,.int .i64 1]∨Ez A x∧A.free.length=0∧v=.tuple #[AFI,.int .u64 0,.int .i64 2] ∨
   Ez A x∧0<A.free.length∧∃av,v=.tuple #[av,.int .u64 (Va A),.int .i64 0]∧ArO w w' na fa A av (Gu A x)) :
  ∃na' fa' nc' fc' B r e,v=.tuple #[arV na' fa' nc' fc' B,.int .u64 r,.int .i64 e]∧B.nodes.length≤nc'∧B.free.length≤fc'∧ArI w w' na fa A na' fa' B ∧
   (e=0→Ez A x∧0<A.free.length∧B=Gu A x∧r=Va A)∧(¬e=0→B=ar0∧r=0∧(¬Ez A x∧e=1∨Ez A x∧A.free.length=0∧e=2)):=by
 rcases h with⟨h1,rfl⟩|⟨h1,h2,rfl⟩|⟨h1,h2,av,rfl,na',fa',nc',fc',rfl,h3,h4,h5⟩
 ·exact⟨none,none,0,0,ar0,0,1,rfl,by decide,by decide,AJM _ _ _ _ _,fun h=>absurd h (by decide),fun _=>⟨rfl,rfl,.inl ⟨h1,rfl⟩⟩⟩
 ·exact⟨none,none,0,0,ar0,0,2,rfl,by decide,by decide,AJM _ _ _ _ _,fun h=>absurd h (by decide),fun _=>⟨rfl,rfl,.inr ⟨h1,h2,rfl⟩⟩⟩
 ·exact⟨na',fa',nc',fc',_,_,0,rfl,h3,h4,h5,fun _=>⟨h1,h2,rfl,rfl⟩,fun h=>absurd rfl h⟩
structure Ft (M:Nat→Prop) (I:World→Prop) (w:World):Prop where
 lt:∀k,M k→k<w.heap.size
 imm:∀w',Agr (fun k=>¬M k) w w'→I w'
theorem Ft.now{M I w}(h:Ft M I w):I w:=h.imm w (Agr.refl _ _)
theorem Ft.step{M I w w'}{N:Nat→Prop}(h:Ft M I w)(a:Agr N w w')(hn:∀k,M k→¬N k):Ft M I w' :=
 ⟨fun k hk=>Nat.lt_of_lt_of_le (h.lt k hk) a.size,fun w'' a'=>h.imm w'' ((a.mono fun k _ e hk=>hn k hk e).trans a')⟩
theorem Ft.sub{M I w w'}(h:Ft M I w)(s:Sub w w'):Ft M I w':=h.step (N:=fun _=>False) s.agr (fun _ _ e=>e)
theorem Ft.updD{M I w w' b}(h:Ft M I w)(a:Agr (· = b) w w')(d:∀k,M k→k≠b):Ft M I w':=h.step a d
theorem Ft.neNew{M I w b}(h:Ft M I w)(hb:b=w.heap.size):∀k,M k→k≠b:=fun k hk e=>absurd (h.lt k hk) (by omega)
theorem Ft.ge{M I w}(h:Ft M I w):∀k,M k→0≤k∧k<w.heap.size:=fun k hk=>⟨Nat.zero_le _,h.lt k hk⟩
theorem Ft.imp{M}{I J:World→Prop}{w}(h:Ft M I w)(k:∀u,I u→J u):Ft M J w:=⟨h.lt,fun w' a=>k _ (h.imm w' a)⟩
theorem Hm{I:World→Prop}{w}(h:∀u,Sub w u→I u):Ft (· < w.heap.size) I w :=
 ⟨fun _ hk=>hk,fun u a=>h u ⟨a.os,a.tape,a.output,a.size,fun k hk=>a.block k hk (fun hn=>hn hk)⟩⟩
theorem AHb{w:World}{v v':Value}{M:Nat→Prop}(h:ob v'=ob v∨∃c,ob v'=some c∧w.heap.size≤c)(d:∀k,ob v=some k→M k→False)(h2:∀k,M k→k<w.heap.size):∀k,ob v'=some k→M k→False:=by
 intro k hk hk2
 rcases h with h|⟨c,h1,h3⟩
 ·exact d k (h▸hk) hk2
 ·rw[h1] at hk;cases hk;have:=h2 _ hk2;omega
def AHe(M:Nat→Prop)(w w':World):Nat→Prop:=fun k=>M k∨w.heap.size≤k∧k<w'.heap.size
theorem Ft.ans{M}{I J:World→Prop}{w w'}(h:Ft M I w)(k:∀N:Nat→Prop,(∀k,N k→k<w.heap.size)→Imm N I w→Imm N J w')(s:Sub w w'):Ft (AHe M w w') J w':=by
 refine⟨fun k hk=>hk.elim (fun h'=>Nat.lt_of_lt_of_le (h.lt k h') s.size) (fun h'=>h'.2),fun u a=>?_⟩
 refine k (fun k=>k<w.heap.size∧¬M k) (fun k hk=>hk.1) (fun u' a'=>h.imm u' (a'.mono fun k _ e=>e.2)) u (a.mono fun k hk e=>?_)
 refine⟨Nat.lt_of_not_le fun h'=>e (.inr ⟨h',hk⟩),fun h'=>e (.inl h')⟩
theorem AGH{J:World→Prop}{w w'}(k:∀N:Nat→Prop,(∀k,N k→k<w.heap.size)→Imm N J w')(s:Sub w w'):Ft (AHe (fun _=>False) w w') J w':=by
 refine⟨fun k hk=>hk.elim False.elim (fun h'=>h'.2),fun u a=>?_⟩
 refine k (fun k=>k<w.heap.size) (fun k hk=>hk) u (a.mono fun k hk e=>?_)
 exact Nat.lt_of_not_le fun h'=>e (.inr ⟨h',hk⟩)
theorem AJf{M:Nat→Prop}{w w':World}{b:Nat}(d:∀k,M k→k≠b)(hb:b<w.heap.size):∀k,AHe M w w' k→k≠b:=fun k hk=>hk.elim (d k) (fun h e=>by omega)
theorem Gi{N:Nat→Prop}{w0 w:World}{b:Nat}(h:Agr N w0 w)(e:b=w.heap.size):w0.heap.size≤b:=by rw[e];exact h.size
theorem Dv{N:Nat→Prop}{w0 w w':World}{b:Nat}(h:Agr N w0 w)(a:Agr (· = b) w w')(g:w0.heap.size≤b):Agr N w0 w' :=
 ⟨a.os.trans h.os,a.tape.trans h.tape,a.output.trans h.output,Ad h.size a.size,fun k hk hn=>(a.block k (Nat.lt_of_lt_of_le hk h.size) (fun(e:k=b)=>absurd hk (by omega))).trans (h.block k hk hn)⟩
theorem AFg{N:Nat→Prop}{w0 w w':World}{v:Value}{base:Nat}(h:Agr N w0 w)(a:Agr (fun k=>ob v=some k∧base≤k) w w')(g:w0.heap.size≤base):Agr N w0 w' :=
 ⟨a.os.trans h.os,a.tape.trans h.tape,a.output.trans h.output,Ad h.size a.size,fun k hk hn=>(a.block k (Nat.lt_of_lt_of_le hk h.size) (fun e=>absurd hk (by omega))).trans (h.block k hk hn)⟩
theorem AKS{D:Nat→Prop}{b:Nat}{w w1 w2:World}(G:Agr D w w1)(ag:Agr (fun k=>k=b∨D k) w1 w2)(ge:w.heap.size≤b):Agr D w w2 :=
 ⟨ag.os.trans G.os,ag.tape.trans G.tape,ag.output.trans G.output,Ad G.size ag.size,fun i hi hn =>
  (ag.block i (Nat.lt_of_lt_of_le hi G.size) (fun e=>e.elim (fun e=>by omega) hn)).trans (G.block i hi hn)⟩
theorem Ft.self{M:Nat→Prop}{I:World→Prop}{w:World}(h:Ft M I w):Ft M (fun u=>Ft M I u) w:=⟨h.lt,fun u a=>h.step a (fun k hk hn=>hn hk)⟩
theorem _root_.Go.XL.Has.ft{w:World}{b e:Nat}{cs:List Value}(h:Has w b cs e):Ft (· = b) (fun u=>Has u b cs e) w:=⟨fun k hk=>hk▸h.lt,fun u a=>h.step a (fun hn=>hn rfl)⟩
theorem Ft.and{M M':Nat→Prop}{I J:World→Prop}{w:World}(h:Ft M I w)(k:Ft M' J w):Ft (fun x=>M x∨M' x) (fun u=>I u∧J u) w :=
 ⟨fun x hx=>hx.elim (h.lt x) (k.lt x),fun u a=>⟨h.imm u (a.mono fun x _ e hx=>e (.inl hx)),k.imm u (a.mono fun x _ e hx=>e (.inr hx))⟩⟩
theorem _root_.Go.XL.Ows.ft{base e sz v rows}{w:World}(h:Ows base w e sz v rows):Ft (fun k=>ob v=some k) (fun u=>Ows base u e sz v rows) w :=
 ⟨fun k hk=>(h.ge k hk).2,fun u a=>h.step a (fun k hk hn=>hn hk)⟩
theorem Zy{w:World}{e:TypeId}{sz b:Nat}{v:Value}{rows:List (List Value)}{w':World}(h:Ows w.heap.size w' e sz v rows)(hb:b<w.heap.size):∀k,ob v=some k→k≠b:=fun k hk e=>by have:=(h.ge k hk).1;omega
theorem _root_.Go.XL.Ows.low{base base':Nat}{w:World}{e:TypeId}{sz:Nat}{v:Value}{rows:List (List Value)}(h:Ows base w e sz v rows)(hb:base'≤base):Ows base' w e sz v rows:=by
 obtain⟨⟨h1,h2⟩,h3⟩:=h
 refine⟨⟨h1,h2.imp id ?_⟩,h3⟩
 rintro⟨b,cap,ex,e,hb2,rest⟩
 exact⟨b,cap,ex,e,Ad hb hb2,rest⟩
theorem Gb{A:Ar}{r:Int}{x:Node}(h:Ch A r=some x):0≤Bk r∧Bk r<A.nodes.length:=by
 unfold Ch at h
 split at h
 ·cases h
 ·split at h
  ·cases h
  ·rename_i y hy
   have:=Cc hy
   omega
theorem Ek{A:Ar}{r:Int}{x:Node}(h:Ch A r=some x):x∈A.nodes:=by
 unfold Ch at h
 split at h
 ·cases h
 ·split at h
  ·cases h
  ·rename_i y hy
   split at h
   ·cases h
   ·cases h;exact Au hy
theorem Ls{A:Ar}{r:Int}{x:Node}(h:Ch A r=some x):A.nodes[(Bk r).toNat]?=some x∧¬x.kind=0:=by
 unfold Ch at h
 split at h
 ·cases h
 ·split at h
  ·cases h
  ·rename_i y hy
   split at h
   ·cases h
   ·rename_i hn;cases h;exact⟨hy,fun e=>hn (.inl e)⟩
theorem Wj{r:Int}(h:¬Hu r):Bk r = -1:=if_neg h
theorem Mq(A:Ar)(r:Int):∃(y:Node) (e:Int),Zz A r=.tuple #[y.val,.int .i64 e]∧(∀x,Ch A r=some x→y=x∧e=0)∧(Ch A r=none→y=Eg 0∧e=4):=by
 cases h:Ch A r with
 |none=>exact⟨Eg 0,4,Kt h,fun x h=>(by cases h),fun _=>⟨rfl,rfl⟩⟩
 |some x=>exact⟨x,0,Io h,fun y h=>(by cases h;exact⟨rfl,rfl⟩),fun h=>(by cases h)⟩
theorem Zc{A B:Ar}{r:Int}(h:A.nodes[(Bk r).toNat]?=B.nodes[(Bk r).toNat]?):Ch A r=Ch B r:=by unfold Ch;rw[h]
end Go.Proofs.YtbjmllnddanniaaGreat
