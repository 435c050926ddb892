/-
  What the law TopQueue leans on, part 2.
-/
import Derived.Test.YtbjmllnddanniaaGreatPTopQueue1
set_option linter.unusedVariables false
set_option linter.unusedSimpArgs false
namespace Go.Proofs.YtbjmllnddanniaaGreat
open Go Go.XL
structure Ext (A A':Ar):Prop where
 len:A'.nodes.length=A.nodes.length
 keep:∀(i:Nat) x,A.nodes[i]?=some x→¬x.kind=0→A'.nodes[i]?=some x
theorem Ext.refl(A:Ar):Ext A A:=⟨rfl,fun _ _ h _=>h⟩
theorem Ext.trans{A B C:Ar}(h:Ext A B)(k:Ext B C):Ext A C:=⟨k.len.trans h.len,fun i x hx hk=>k.keep i x (h.keep i x hx hk) hk⟩
theorem Ext.get{A A':Ar}{r:Int}{x:Node}(h:Ext A A')(hg:Ch A r=some x):Ch A' r=some x:=by
 have h1:=Ls hg
 rw[←Zc (A:=A) (B:=A') (by rw[h1.1,h.keep _ _ h1.1 h1.2])]
 exact hg
theorem ABH{A:Ar}{x:Node}(hA:AOk A)(h:0<A.free.length):Ext A (Gu A x):=by
 refine⟨by simp[Gu],fun i y hy hk=>?_⟩
 have hin:=Ie hA h
 simp only[Gu]
 rw[List.getElem?_set_ne,hy]
 intro e
 have:=(hA.kind i y hy).2 (by
  have h2:=Au (Kj h)
  rwa [show En A=(i:Int) by omega] at h2)
 exact hk this

abbrev St:=Ar × Int
structure Gs (n:Nat) (s s':St):Prop where
 ext:Ext s.1 s'.1
 ok:AOk s'.1
 free:s.1.free.length≤s'.1.free.length+n
 stay:¬s.2=0→s'.2=s.2
 full:s.2=0→¬s'.2=0→s'.2=2∧s.1.free.length<n
theorem Gs.back{n:Nat}{s s':St}(h:Gs n s s')(h0:s'.2=0):s.2=0:=Classical.byContradiction fun e=>e (by rw[←h.stay e];exact h0)
theorem Gs.refl{s:St}(h:AOk s.1):Gs 0 s s:=⟨Ext.refl _,h,Nat.le_refl _,fun _=>rfl,fun h k=>absurd h k⟩
theorem Gs.mono{n m:Nat}{s s':St}(h:Gs n s s')(hn:n≤m):Gs m s s':=⟨h.ext,h.ok,by have:=h.free;omega,h.stay,fun a b=>⟨(h.full a b).1,by have:=(h.full a b).2;omega⟩⟩
theorem Gs.trans{n m:Nat}{a b c:St}(h:Gs n a b)(k:Gs m b c):Gs (n+m) a c:=by
 refine⟨h.ext.trans k.ext,k.ok,by have:=h.free;have:=k.free;omega,fun e=>?_,fun e e2=>?_⟩
 ·have h1:=h.stay e
  rw[k.stay (by rw[h1];exact e),h1]
 ·by_cases q:b.2=0
  ·have h1:=k.full q e2;have h2:=h.free;exact⟨h1.1,by omega⟩
  ·have h1:=h.full e q
   exact⟨by rw[k.stay q,h1.1],by omega⟩
def Ey(A:Ar)(r:Int):Int:=match Ch A r with
 |none=>0
 |some y=>y.s
def MkX(s:St)(x:Node)(s':St)(r:Int):Prop :=
 (¬s.2=0∧s'=s∧r=0)∨(s.2=0∧Ez s.1 x∧0<s.1.free.length∧s'=(Gu s.1 x,0)∧r=Va s.1) ∨
 (s.2=0∧Ez s.1 x∧s.1.free.length=0∧s'=(s.1,2)∧r=0)∨(s.2=0∧¬Ez s.1 x∧s'=(s.1,1)∧r=0)
theorem MkX.gs{s s':St}{x:Node}{r:Int}(h:MkX s x s' r)(hA:AOk s.1)(hm:s.2=0→Ez s.1 x):Gs 1 s s':=by
 rcases h with⟨h0,rfl,rfl⟩|⟨h0,hm,hf,rfl,rfl⟩|⟨h0,hm,hf,rfl,rfl⟩|⟨h0,hn,rfl,rfl⟩
 ·exact(Gs.refl hA).mono (by omega)
 ·refine⟨ABH hA hf,ADU hm hf,?_,fun e=>absurd h0 e,fun _ e=>absurd rfl e⟩
  simp only[Gu,List.length_take];omega
 ·exact⟨Ext.refl _,hA,by omega,fun e=>absurd h0 e,fun _ _=>⟨rfl,by omega⟩⟩
 ·exact absurd (hm h0) hn
theorem MkX.u64{s s':St}{x:Node}{r:Int}(h:MkX s x s' r):U64 r:=by
 rcases h with⟨_,_,rfl⟩|⟨_,hm,hf,_,rfl⟩|⟨_,_,_,_,rfl⟩|⟨_,_,_,rfl⟩
 ·unfold U64;decide
 ·exact AHt (Rh hm.1 hf)
 ·unfold U64;decide
 ·unfold U64;decide
theorem MkX.get{s s':St}{x:Node}{r:Int}(h:MkX s x s' r)(h0:s'.2=0):s.2=0∧Ez s.1 x∧0<s.1.free.length∧Ch s'.1 r=some {x with gen:=Ln s.1 (En s.1)}∧Ext s.1 s'.1:=by
 rcases h with⟨h1,rfl,rfl⟩|⟨h1,hm,hf,rfl,rfl⟩|⟨_,_,_,rfl,_⟩|⟨_,_,rfl,_⟩
 ·exact absurd h0 h1
 ·exact⟨h1,hm,hf,ABL hm hf,ABH hm.1 hf⟩
 ·exact absurd h0 (show¬(2:Int)=0 by decide)
 ·exact absurd h0 (show¬(1:Int)=0 by decide)
theorem MkX.place{s s':St}{x:Node}{r:Int}(h:MkX s x s' r)(h0:s'.2=0):Bk r∈s.1.free∧¬Bk r∈s'.1.free:=by
 rcases h with⟨h1,rfl,rfl⟩|⟨h1,hm,hf,rfl,rfl⟩|⟨_,_,_,rfl,_⟩|⟨_,_,rfl,_⟩
 ·exact absurd h0 h1
 ·have hp:Bk (Va s.1)=En s.1:=Ys (Rh hm.1 hf)
  refine⟨by rw[hp];exact Au (Kj hf),?_⟩
  rw[hp]
  have hok:=(ADU hm hf)
  have hg:=ABL (x:=x) hm hf
  intro hin
  have h1:=Ls hg
  rw[hp] at h1
  have:=(hok.kind _ _ h1.1).2 (by rw[show(((En s.1).toNat:Nat):Int)=En s.1 from Int.toNat_of_nonneg (Ie hm.1 hf).1];exact hin)
  exact h1.2 this
 ·exact absurd h0 (show¬(2:Int)=0 by decide)
 ·exact absurd h0 (show¬(1:Int)=0 by decide)
def Fr(A B:Ar):Prop:=∀p∈B.free,p∈A.free
theorem MkX.fr{s s':St}{x:Node}{r:Int}(h:MkX s x s' r):Fr s.1 s'.1:=by
 rcases h with⟨h1,rfl,rfl⟩|⟨h1,hm,hf,rfl,rfl⟩|⟨_,_,_,rfl,_⟩|⟨_,_,rfl,_⟩
 ·exact fun p hp=>hp
 ·exact fun p hp=>List.mem_of_mem_take hp
 ·exact fun p hp=>hp
 ·exact fun p hp=>hp
theorem AEc{A:Ar}{r:Int}{x:Node}(hA:AOk A)(h:Ch A r=some x):¬Bk r∈A.free:=by
 intro hin
 have h1:=Ls h
 have h2:=(Gb h).1
 exact h1.2 ((hA.kind _ _ h1.1).2 (by rw[Int.toNat_of_nonneg h2];exact hin))
def getN(A:Ar)(r:Int):Node:=(Ch A r).getD (Eg 0)
theorem Qa(A:Ar)(r:Int):(getN A r).s=Ey A r:=by
 unfold getN Ey
 cases Ch A r<;>rfl
theorem Jl{A:Ar}{r:Int}{x:Node}(h:Ch A r=some x):getN A r=x:=by unfold getN;rw[h];rfl
theorem ACK(A:Ar)(r:Int):∃e,Zz A r=.tuple #[(getN A r).val,.int .i64 e]:=by
 unfold getN
 cases h:Ch A r with
 |none=>exact⟨4,Kt h⟩
 |some x=>exact⟨0,Io h⟩
def wvC(na fa:Option Addr)(nc fc:Nat)(A:Ar)(bad:Int):List Value:=[.slice na A.nodes.length nc,.slice fa A.free.length fc,.int .i64 bad]
def wvA(na fa:Option Addr)(nc fc:Nat)(A:Ar):List Value:=[.slice na A.nodes.length nc,.slice fa A.free.length fc]
theorem Fg{w:World}{b:Nat}{xs ys:List Value}{e:TypeId}(h:Has w b (xs++ys) e):Row w ⟨b,0,none⟩ xs:=fun i v hv=>h.row i v (by rw[List.getElem?_append_left (Cc hv)];exact hv)
def FoG(ty:TypeId)(b:Nat)(s:St)(C:Nat→Prop)(u:World):Prop :=
 C b∧∃na fa nc fc M,Has u b (wvC na fa nc fc s.1 s.2) ty∧s.1.nodes.length≤nc∧s.1.free.length≤fc∧Ft M (fun u=>ArR u na fa s.1) u∧¬M b∧∀k,M k→C k
theorem FoG.ft{ty:TypeId}{b:Nat}{s:St}{M:Nat→Prop}{w:World}{na fa:Option Addr}{nc fc:Nat}(h:Has w b (wvC na fa nc fc s.1 s.2) ty)(h1:s.1.nodes.length≤nc)(h2:s.1.free.length≤fc)(h3:Ft M (fun u=>ArR u na fa s.1) w)(h4:¬M b):
  Ft (fun k=>k=b∨M k) (FoG ty b s (fun k=>k=b∨M k)) w :=
 ⟨fun k hk=>hk.elim (fun e=>e▸h.lt) (h3.lt k),fun u a=>⟨.inl rfl,na,fa,nc,fc,M,h.step a (fun hn=>hn (.inl rfl)),h1,h2,h3.step a (fun k hk hn=>hn (.inr hk)),h4,fun k hk=>.inr hk⟩⟩
theorem FoG.nok{ty:TypeId}{b:Nat}{s:St}{C:Nat→Prop}{u:World}(h:FoG ty b s C u):∀x∈s.1.nodes,x.ok:=by
 obtain⟨_,na,fa,nc,fc,M,_,_,_,h,_⟩:=h
 exact h.now.nok
theorem zu0:U64 0:=by unfold U64;decide
def AL8(size i:Nat):List Int:=(List.range i).map fun(j:Nat)=>(size:Int)-1-j
theorem AA8{w:World}{b:Nat}{e:TypeId}{sz:Nat}{rows:List (List Value)}{r:List Value}{i:Nat}(h:Has w b (Eh rows.flatten (i*sz) r) e)(hl:∀r∈rows,r.length=sz)(hi:i<rows.length)(hr:r.length=sz):Has w b (rows.set i r).flatten e:=by
 have:=Gh (extra:=[]) (rows:=rows) (i:=i) (sz:=sz) (r:=r) (by rw[List.append_nil];exact h) hl hi hr
 rw[List.append_nil] at this
 exact this
open Go Go.XL
theorem AD9(vs cs:List Value)(o:Nat)(h:o+vs.length≤cs.length):Eh cs o vs=cs.take o++vs++cs.drop (o+vs.length):=by
 refine List.ext_getElem? (fun k=>?_)
 rw[Ki]
 have h1:(cs.take o).length=o:=by rw[List.length_take];omega
 have h2:(cs.take o++vs).length=o+vs.length:=by rw[Ag,h1]
 by_cases q:k<o
 ·rw[if_pos (by omega),if_neg (by omega),List.getElem?_append_left (by omega),List.getElem?_append_left (by omega),List.getElem?_take_of_lt q]
 ·by_cases q2:k<o+vs.length
  ·rw[if_pos (by omega),if_pos ⟨by omega,q2⟩,List.getElem?_append_left (by omega),List.getElem?_append_right (by omega),h1]
  ·rw[List.getElem?_append_right (by omega),h2,List.getElem?_drop]
   by_cases q3:k<cs.length
   ·rw[if_pos q3,if_neg (by omega),show o+vs.length+(k-(o+vs.length))=k by omega]
   ·rw[if_neg q3,List.getElem?_eq_none (by omega)]
theorem Ze{s:Nat}{R:List (List Value)}(h:∀r∈R,r.length=s)(o:Nat)(ho:o≤R.length):(R.take o).flatten=R.flatten.take (o*s)∧(R.drop o).flatten=R.flatten.drop (o*s):=by
 have hl:(R.take o).flatten.length=o*s:=by
  rw[Cy _ (fun r hr=>h r (List.mem_of_mem_take hr)),List.length_take,Nat.min_eq_left ho]
 have e:R.flatten=(R.take o).flatten++(R.drop o).flatten:=by rw[←List.flatten_append,List.take_append_drop]
 rw[e,←hl]
 exact⟨List.take_left.symm,List.drop_left.symm⟩
def Li(R:List (List Value))(o:Nat)(l:List (List Value)):List (List Value):=R.take o++l++R.drop (o+l.length)
theorem ABi{R l:List (List Value)}{o:Nat}(h:o+l.length≤R.length):(Li R o l).length=R.length:=by
 unfold Li;rw[Ag,Ag,List.length_take,List.length_drop];omega
theorem Zq{s:Nat}{R l:List (List Value)}{o:Nat}(hR:∀r∈R,r.length=s)(hl:∀r∈l,r.length=s):∀r∈Li R o l,r.length=s:=by
 intro r hr
 unfold Li at hr
 rcases List.mem_append.1 hr with hr|hr
 ·rcases List.mem_append.1 hr with hr|hr
  ·exact hR r (List.mem_of_mem_take hr)
  ·exact hl r hr
 ·exact hR r (List.mem_of_mem_drop hr)
theorem Zp{R l:List (List Value)}{o:Nat}(h:o+l.length≤R.length):(Li R o l).take o=R.take o∧(Li R o l).take (o+l.length)=R.take o++l:=by
 unfold Li
 have h1:(R.take o).length=o:=by rw[List.length_take];omega
 have h2:(R.take o++l).length=o+l.length:=by rw[Ag,h1]
 constructor
 ·rw[List.append_assoc,List.take_append_of_le_length (by omega),List.take_of_length_le (by omega)]
 ·rw[List.take_append_of_le_length (by omega),List.take_of_length_le (by omega)]
theorem AC1{g lo cap m c s:Nat}(h:¬cap=lo):Value.slice (if cap=lo then some ⟨g,0,none⟩ else(some ⟨g,0,none⟩:Option Addr).map (·.add (lo*s))) m c=.slice (some ⟨g,lo*s,none⟩) m c:=by
 rw[if_neg h];simp[Addr.add_lit]
theorem To{s:Nat}{R l:List (List Value)}{o:Nat}(hR:∀r∈R,r.length=s)(hl:∀r∈l,r.length=s)(h:o+l.length≤R.length):Eh R.flatten (o*s) l.flatten=(Li R o l).flatten:=by
 have e1:=Cy R hR
 have e2:=Cy l hl
 have e3:(o+l.length)*s≤R.length*s:=Nat.mul_le_mul_right _ h
 rw[AD9 _ _ _ (by rw[e1,e2,←Nat.add_mul];exact e3)]
 unfold Li
 rw[List.flatten_append,List.flatten_append,(Ze hR o (by omega)).1,(Ze hR (o+l.length) h).2,e2,←Nat.add_mul]
theorem Xe{w:World}{ad:Addr}{s:Nat}{l:List (List Value)}(hs':0<s)(hll:∀r∈l,r.length=s)(hsl:Sl w (some ad) s l):Row w ad l.flatten:=by
 intro j u hj
 have hjl:j<l.length*s:=by
  rw[←Cy l hll]
  rcases Nat.lt_or_ge j l.flatten.length with q|q
  ·exact q
  ·rw[List.getElem?_eq_none q] at hj;cases hj
 have hd':j/s<l.length:=(Nat.div_lt_iff_lt_mul hs').2 hjl
 have hmod:j%s<s:=Nat.mod_lt _ hs'
 have ej:j=(j/s)*s+j%s:=by rw[Nat.mul_comm];exact(Nat.div_add_mod j s).symm
 obtain⟨r,hr⟩:∃r,l[j/s]?=some r:=⟨_,List.getElem?_eq_getElem hd'⟩
 have hf:=Ip l hll (j/s) (j%s) r hr hmod
 rw[←ej,hj] at hf
 have hc:=hsl.row (j/s) r hr (j%s) u hf.symm
 simp only[Option.getD_some] at hc
 rw[←hc]
 congr 1
 rw[ej]
 obtain⟨bb,oo,sp⟩:=ad
 unfold Addr.add
 by_cases q1:(j/s)*s=0
 ·rw[←ej]
  by_cases q2:j%s=0
  ·rw[if_pos (by omega),if_pos q1,if_pos q2]
  ·rw[if_neg (by omega),if_pos q1,if_neg q2];simp only;congr 2;omega
 ·rw[←ej]
  by_cases q2:j%s=0
  ·rw[if_neg (by omega),if_neg q1,if_pos q2];congr 1;omega
  ·rw[if_neg (by omega),if_neg q1,if_neg q2];simp only;congr 1;omega
theorem Wi{l:List (List Value)}(hp:l.all (fun r=>r.all Gj)=true):l.flatten.all Gj=true:=by
 rw[List.all_eq_true]
 intro u hu
 obtain⟨r,hr,hur⟩:=List.mem_flatten.1 hu
 exact List.all_eq_true.1 (List.all_eq_true.1 hp r hr) u hur
section
variable {P:Program} {n:Cx} {F:List (Nat × Value)} {w:World} {p:Post} {ops:Array Oper} {rest:List Oper} {d:Option Tmp} {t:TypeId} {pos:String} {af:Array Edge} {g:Option (Nat × Bool)}
theorem AEE{ty ty2 t:TypeId}{b o m c:Nat}{sa:Option Addr}{k c2 e s by_ e0:Nat}{R l:List (List Value)}(ht:sliceOf P ty=some (e,s,by_))(hs':0<s)(hb:Has w b R.flatten e0)(hR:∀r∈R,r.length=s)(ho:o+min k m≤R.length)(hs:Sl w sa s l)(hk:k=l.length)(hl:∀r∈l,r.length=s)(hp:(l.take (min k m)).all (fun r=>r.all Gj)=true):
  ∃w',(Builtin.copy_ #[ty,ty2] t #[.slice (some ⟨b,o*s,none⟩) m c,.slice sa k c2]).run P w=.ok (.int .i64 (min k m:Nat)) w'∧Has w' b (Li R o (l.take (min k m))).flatten e0∧Agr (· = b) w w'∧w'.heap.size=w.heap.size:=by
 obtain⟨h1,i,h2,h3,h4⟩:=Dk ht
 have hl':∀r∈l.take (min k m),r.length=s:=fun r hr=>hl r (List.mem_of_mem_take hr)
 have hpl:(l.take (min k m)).flatten.all Gj=true:=Wi hp
 have hlen:(l.take (min k m)).length=min k m:=by rw[List.length_take];omega
 have hfl:(l.take (min k m)).flatten.length=min k m*s:=by rw[Cy _ hl',hlen]
 have hcells:(Builtin.firstCells i.size (min k m) (.slice sa k c2)).run P w=.ok (l.take (min k m)).flatten.toArray w:=by
  cases sa with
  |none =>
   have:l=[]:=Classical.byContradiction fun e=>by have:=hs.some e;simp at this
   subst this
   simp[Builtin.firstCells,pure]
  |some a =>
   have hr:=XL.run_loadCells (P:=P) (Xe hs' hl' (hs.take (min k m)))
   rw[hfl] at hr
   rw[h3];exact hr
 have hfit:o*s+0+(l.take (min k m)).flatten.length≤R.flatten.length:=by
  rw[hfl,Cy R hR,Nat.add_zero,←Nat.add_mul];exact Nat.mul_le_mul_right _ ho
 obtain⟨w',g1,g2,g3,g4⟩:=XL.run_storeCells (P:=P) (o:=o*s) (l.take (min k m)).flatten 0 R.flatten w hb hfit hpl
 refine⟨w',?_,?_,g3,g4⟩
 ·have hcells':(Builtin.firstCells i.size (Nat.min k m) (.slice sa k c2)).run P w=.ok (l.take (min k m)).flatten.toArray w:=hcells
  simp[Builtin.copy_,Go.run_underlying h1,sizeOf,typeInfo,h2,Builtin.lenOf,hcells',g1,goInt]
 ·rw[Nat.add_zero,To hR hl' (by rw[hlen];exact ho)] at g2
  exact g2
theorem Rn{ty ty2 x y b o m c sa k c2 e s by_ e0 R l}(ht:sliceOf P ty=some (e,s,by_))(hs':Nat.blt 0 s=true)(hx:XL.ev F x=some (.slice (some ⟨b,o*s,none⟩) m c))(hy:XL.ev F y=some (.slice sa k c2))(hb:Has w b R.flatten e0)(hR:∀r∈R,r.length=s)(ho:o+min k m≤R.length)(hs:Sl w sa s l)(hk:k=l.length)(hl:∀r∈l,r.length=s)(hp:(l.take (min k m)).all (fun r=>r.all Gj)=true)
  (hg:Ed ops F g=some true) (hd:inB d n=true)
  (h:∀w',w'.heap.size=w.heap.size→Has w' b (Li R o (l.take (min k m))).flatten e0→Agr (· = b) w w'→RL P n ops rest (upd F d (.int .i64 (min k m:Nat))) w' p):RL P n ops (⟨d,.call ⟨.builtin .copy,#[x,y],#[ty,ty2]⟩,t,pos,af,g⟩::rest) F w p:=by
 obtain⟨w',g1,g2,g3,g4⟩:=AEE (ty2:=ty2) (t:=t) (m:=m) (c:=c) (c2:=c2) ht (by simpa using hs') hb hR ho hs hk hl hp
 refine Kf hg hd (fun ρ hρ=>?_) (h w' g4 g2 g3)
 simp only[execOp,resolve,hρ y _ hy,hρ x _ hx,bind,Sem.bind,pure,invoke,builtin,List.map_toArray,List.map_cons,List.map_nil]
 have:=run_bind (P:=P) (Builtin.copy_ #[ty,ty2] t #[.slice (some ⟨b,o*s,none⟩) m c,.slice sa k c2]) (fun v=>(Sem.pure (Next.value v):Sem Next)) w
 rw[g1] at this
 exact this
theorem Xr{w:World}{sa:Option Addr}{k c2 s:Nat}{l:List (List Value)}(hs':0<s)(hs:Sl w sa s l)(hl:∀r∈l,r.length=s)(m:Nat)(hm:m≤l.length):(Builtin.firstCells s m (.slice sa k c2)).run P w=.ok (l.take m).flatten.toArray w:=by
 have hl':∀r∈l.take m,r.length=s:=fun r hr=>hl r (List.mem_of_mem_take hr)
 have hfl:(l.take m).flatten.length=m*s:=by rw[Cy _ hl',List.length_take,Nat.min_eq_left hm]
 cases sa with
 |none =>
  have:l=[]:=Classical.byContradiction fun e=>by have:=hs.some e;simp at this
  subst this
  simp[Builtin.firstCells,pure]
 |some a =>
  have hr:=XL.run_loadCells (P:=P) (Xe hs' hl' (hs.take m))
  rw[hfl] at hr
  exact hr
theorem Zu{ty x b o m c e s by_ z}{R:List (List Value)}(ht:sliceOf P ty=some (e,s,by_))(hz:zeroOf P e=some z)(hzs:z.cells.size=s)(hs':Nat.blt 0 s=true)(hzp:z.cells.toList.all Gj=true)(hx:XL.ev F x=some (.slice (some ⟨b,o*s,none⟩) m c))(hb:Has w b R.flatten e)(hR:∀r∈R,r.length=s)(ho:o+m≤R.length)
  (hg:Ed ops F g=some true) (hd:inB d n=true)
  (h:∀w',w'.heap.size=w.heap.size→Has w' b (Li R o (List.replicate m z.cells.toList)).flatten e→Agr (· = b) w w'→RL P n ops rest (upd F d (.tuple #[])) w' p):RL P n ops (⟨d,.call ⟨.builtin .clear,#[x],#[ty]⟩,t,pos,af,g⟩::rest) F w p:=by
 have hs2:0<s:=by simpa using hs'
 obtain⟨h1,i,h2,h3,h4⟩:=Dk ht
 obtain⟨i',hi',hzz⟩:=Hf hz
 rw[h2] at hi';cases hi'
 have hl:∀r∈List.replicate m z.cells.toList,r.length=s:=fun r hr=>by rw[(List.mem_replicate.1 hr).2,Array.length_toList,hzs]
 have hfl:(List.replicate m z.cells.toList).flatten.length=m*s:=by rw[Cy _ hl,List.length_replicate]
 have hfit:o*s+0+(List.replicate m z.cells.toList).flatten.length≤R.flatten.length:=by
  rw[hfl,Cy R hR,Nat.add_zero,←Nat.add_mul];exact Nat.mul_le_mul_right _ ho
 have hpl:(List.replicate m z.cells.toList).flatten.all Gj=true:=Wi (by rw[List.all_eq_true];intro r hr;rw[(List.mem_replicate.1 hr).2];exact hzp)
 obtain⟨w',g1,g2,g3,g4⟩:=XL.run_storeCells (P:=P) (o:=o*s) (List.replicate m z.cells.toList).flatten 0 R.flatten w hb hfit hpl
 have g2:Has w' b (Li R o (List.replicate m z.cells.toList)).flatten e:=by rw[Nat.add_zero,To hR hl (by rw[List.length_replicate];exact ho)] at g2;exact g2
 have hzc:Builtin.zeroCells z.cells m=(List.replicate m z.cells.toList).flatten.toArray:=by
  unfold Builtin.zeroCells
  exact Qg z.cells (by omega) m
 have fin:∀w'',(Builtin.clear_ #[ty] t #[.slice (some ⟨b,o*s,none⟩) m c]).run P w=.ok (.tuple #[]) w''→RL P n ops rest (upd F d (.tuple #[])) w'' p→RL P n ops (⟨d,.call ⟨.builtin .clear,#[x],#[ty]⟩,t,pos,af,g⟩::rest) F w p:=by
  intro w'' hr hw
  refine Kf hg hd (fun ρ hρ=>?_) hw
  simp only[execOp,resolve,hρ x _ hx,bind,Sem.bind,pure,invoke,builtin,List.map_toArray,List.map_cons,List.map_nil]
  have:=run_bind (P:=P) (Builtin.clear_ #[ty] t #[.slice (some ⟨b,o*s,none⟩) m c]) (fun v=>(Sem.pure (Next.value v):Sem Next)) w
  rw[hr] at this
  exact this
 cases m with
 |zero =>
  refine fin w (by simp[Builtin.clear_,Go.run_underlying h1]) (h w rfl ?_ (Agr.refl _ _))
  simpa[Li] using hb
 |succ m =>
  exact fin w' (by simp[Builtin.clear_,Go.run_underlying h1,zeroValue,typeInfo,h2,hzz,hzc,g1]) (h w' g4 g2 g3)
theorem AF5{s:Nat}:∀(k:Nat) (l:List Value),l.length=k*s→∃R:List (List Value),R.length=k∧(∀r∈R,r.length=s)∧R.flatten=l
 |0,l,h=>⟨[],rfl,by simp,by rw[Nat.zero_mul] at h;rw[List.eq_nil_of_length_eq_zero h];rfl⟩
 |k+1,l,h=>by
  have h2:(l.drop s).length=k*s:=by rw[List.length_drop,h,Nat.succ_mul];omega
  obtain⟨R,r1,r2,r3⟩:=AF5 k (l.drop s) h2
  refine⟨l.take s::R,by rw[Al,r1],fun r hr=>?_,by rw[List.flatten_cons,r3,List.take_append_drop]⟩
  rcases List.mem_cons.1 hr with rfl|hr
  ·rw[List.length_take,h,Nat.succ_mul];omega
  ·exact r2 r hr
theorem _root_.Go.XL.Ows.whole{base:Nat}{e:TypeId}{s:Nat}{v:Value}{rows:List (List Value)}(h:Ows base w e s v rows):
  (v=.slice none 0 0∧rows=[])∨∃g ex,v=.slice (some ⟨g,0,none⟩) rows.length (rows.length+ex.length)∧base≤g∧Has w g (rows++ex).flatten e∧(∀r∈ex,r.length=s)∧rows.length+ex.length≤maxLen:=by
 rcases h.own.2 with⟨rfl,h0⟩|⟨g,cap,cur,rfl,hbg,hgh,hnc,hcm,hcs,htake⟩
 ·exact .inl ⟨rfl,List.eq_nil_of_length_eq_zero h0⟩
 ·obtain⟨R,r1,r2,r3⟩:=AF5 (s:=s) (cap-rows.length) (cur.toList.drop (rows.length*s)) (by rw[List.length_drop,Array.length_toList,hcs,Nat.sub_mul])
  have e1:rows.length+R.length=cap:=by omega
  refine .inr ⟨g,R,by rw[e1],hbg,?_,r2,by omega⟩
  unfold Has
  rw[List.flatten_append,r3,←htake,List.take_append_drop]
  simpa using hgh
end
theorem Sh{n:Nat}(h:n≤1000):IntKind.u64.wrap (n:Int)=n:=by
 simp[IntKind.wrap,IntKind.bits,IntKind.signed];omega
theorem AHM{n:Nat}(h:n≤1000):Value.int .u64 (IntKind.u64.wrap ((BitVec.ofInt 64 (n:Int) &&& BitVec.ofInt 64 4294967295).toNat:Int))=.int .u64 (n:Int):=by
 have h2:(BitVec.ofInt 64 (n:Int) &&& BitVec.ofInt 64 4294967295).toNat=n:=by
  rw[BitVec.toNat_and,BitVec.ofInt_natCast,BitVec.toNat_ofNat]
  show n%2^64 &&& 2^32-1=n
  rw[Nat.and_two_pow_sub_one_eq_mod];omega
 rw[h2,Sh h]
theorem AA5{n:Nat}(h:n≤1000):Value.int .u64 ((n:Int).fdiv (2^min ((32:Int).toNat) IntKind.u64.bits))=.int .u64 0:=by
 have:(n:Int).fdiv 4294967296=0:=by rw[Int.fdiv_eq_ediv_of_nonneg _ (by decide)];omega
 exact congrArg (Value.int .u64) this
theorem Yo(n:Nat){x:List Value}(h:x.all Gj=true):(List.replicate n x).all (fun r=>r.all Gj)=true:=by
 rw[List.all_eq_true];intro r hr;rw[(List.mem_replicate.1 hr).2];exact h
theorem AIH(n:Nat)(h:n≤1000)(w:World):FC Tryz.prog 245 [.int .u64 1,.int .u64 (n:Int)] w (Val (.tuple #[.int .u64 0,.int .u64 (n:Int)]) w):=by
 refine As Tryz.func245 rfl Tryz.ntmps245 rfl ?_
 have S:=Ax w
 refine Ac<|Aa rfl<|Ah rfl<|Ah rfl<|Ae<|Ab<|Ac<|Aa rfl<|Af rfl<|Ak (.as (v':=.int .u64 1) (.bin rfl rfl rfl) (by rfl))<|Ah rfl<|Ae<|Ab<|Ac<|Aa rfl<|Af rfl ?_;refine Ak (.as (v':=.int .u64 0) (.shr rfl rfl (by decide)) (by rfl))<|Ah rfl<|Ae<|Ab<|Ac<|Aa rfl<|Af rfl<|Ak (.as (v':=.int .u64 (n:Int)) (.bin rfl rfl rfl) (by exact AHM (by omega)))<|Ah rfl<|Ae<|Ab<|Ac<|Aa rfl<|Af rfl<|Ak (.as (v':=.int .u64 0) (.shr rfl rfl (by decide)) (by exact AA5 (by omega)))<|Ah rfl ?_;refine Ae<|Ab<|Ac<|Aa rfl<|Af rfl<|Af rfl<|Ak (.as (v':=.int .u64 (n:Int)) (.bin rfl rfl rfl) (by rw[Int.one_mul,Sh (by omega)]))<|Ah rfl<|Ae<|Ab<|Ac<|Aa rfl<|Af rfl<|Af rfl<|Ak (.as (v':=.int .u64 0) (.bin rfl rfl rfl) (by rw[Int.zero_mul];rfl))<|Af rfl ?_;refine Ak (.as (v':=.int .u64 0) (.shr rfl rfl (by decide)) (by exact AA5 (by omega)))<|Ak (.as (v':=.int .u64 0) (.bin rfl rfl rfl) (by rfl))<|Ah rfl<|Ae<|Ab<|Ac<|Aa rfl<|Af rfl<|Ak (.as (v':=.int .u64 0) (.bin rfl rfl rfl) (by rfl))<|Ah rfl<|Ae<|Ab<|Ac<|Aa rfl<|Af rfl<|Ak (.as (v':=.int .u64 0) (.shr rfl rfl (by decide)) (by rfl)) ?_;refine Ah rfl<|Ae<|Ab<|Ac<|Aa rfl<|Af rfl<|Af rfl<|Af rfl<|Ak (.as (v':=.int .u64 0) (.bin rfl rfl rfl) (by rfl))<|Ak (.as (v':=.int .u64 0) (.bin rfl rfl rfl) (by rfl))<|Ah rfl<|Ae<|Ab<|Ac<|Aa rfl<|Af rfl ?_;refine Af rfl<|Ak (.as (v':=.int .u64 0) (.bin rfl rfl rfl) (by rfl))<|Af rfl<|Ak (.as (v':=.int .u64 0) (.bin rfl rfl rfl) (by rfl))<|Af rfl<|Ak (.as (v':=.int .u64 0) (.shr rfl rfl (by decide)) (by rfl))<|Ak (.as (v':=.int .u64 0) (.bin rfl rfl rfl) (by rfl))<|Ah rfl<|Ae<|Ab<|Ac<|Aa rfl<|Af rfl<|Af rfl<|Ak (.as (v':=.int .u64 (n:Int)) (.bin rfl rfl rfl) (by rw[Int.one_mul,Sh (by omega)]))<|Ah rfl ?_;refine Ae<|Ab<|Bo (rs:=[.tmp 4,.tmp 5]) (vs:=[_,_]) rfl rfl ⟨rfl,rfl,trivial⟩ ?_
 exact⟨rfl,S⟩
theorem AJK(n:Nat)(h:n≤1000)(w:World):FC Tryz.prog 190 [.int .u64 1,.int .u64 (n:Int)] w (Val (.tuple #[.int .u64 0,.int .u64 (n:Int)]) w):=by
 refine As Tryz.func190 rfl Tryz.ntmps190 rfl ?_
 have S:=Ax w
 refine Ac<|Aa rfl<|Ah rfl<|Ah rfl<|Ae<|Ab<|Ac<|Bw rfl<|Ao<|Ab<|Ac<|Aa rfl<|Af rfl<|Af rfl<|Az rfl ALX (AIH n h w) ?_;rintro _ w1 ⟨rfl,s2⟩;have S:=S.trans s2;refine Af rfl<|Bz rfl rfl<|Bz rfl rfl<|Ah rfl<|Ah rfl<|Ae<|Ab<|Ac<|Aa rfl<|Af rfl<|Af rfl<|Ah rfl<|Ah rfl<|Ae<|Ab<|Bo (rs:=[.tmp 4,.tmp 5]) (vs:=[_,_]) rfl rfl ⟨rfl,rfl,trivial⟩ ?_
 exact⟨rfl,S⟩
theorem ABA{x z:List Value}{s k j:Nat}(hx:x.length=s)(hz:z.length=s):∀r∈List.replicate k x++List.replicate j z,r.length=s:=by
 intro r hr
 rcases List.mem_append.1 hr with h|h
 ·rw[(List.mem_replicate.1 h).2,hx]
 ·rw[(List.mem_replicate.1 h).2,hz]
theorem Jy{x:List Value}{s k:Nat}(hx:x.length=s):∀r∈List.replicate k x,r.length=s:=fun r h=>by rw[(List.mem_replicate.1 h).2,hx]
theorem ABh{x z:List Value}{k j:Nat}:Li (List.replicate k x++List.replicate j z) k ((List.replicate k x).take (min k j))=List.replicate (k+min k j) x++List.replicate (j-min k j) z:=by
 unfold Li
 rw[List.take_replicate,List.length_replicate,List.take_left' (List.length_replicate),List.drop_append,List.length_replicate,List.drop_eq_nil_of_le (by simp),List.nil_append,List.drop_replicate,show min (min k j) k=min k j by omega,show k+min k j-k=min k j by omega,←List.replicate_append_replicate]
theorem Zr{x z:List Value}{n:Nat}:Li (List.replicate n z) 0 ([x].take (min 1 n))=List.replicate (min 1 n) x++List.replicate (n-min 1 n) z:=by
 unfold Li
 cases n with
 |zero=>rfl
 |succ n=>rw[show min 1 (n+1)=1 by omega];simp[List.replicate_succ]
theorem Eu(n:Nat)(hn:1≤n∧n≤512)(b:Nat)(w:World)(hb:Has w b ([.int .i64 (-1)]:List Value) 3):
  FC Tryz.prog 243 [.slice (some ⟨b,0,none⟩) 1 1,.int .i64 (n:Int)] w (fun v w'=>Sub w w'∧∃b2,v=.slice (some ⟨b2,0,none⟩) n n∧w.heap.size≤b2∧Has w' b2 (List.replicate n ([.int .i64 (-1)]:List Value)).flatten 3):=by
 have hx:(([.int .i64 (-1)]:List Value):List Value).length=1:=rfl
 have hz:(([.int .i64 0]:List Value):List Value).length=1:=rfl
 refine As Tryz.func243 rfl Tryz.ntmps243 rfl ?_
 have S:=Ax w
 refine Ac<|Aa rfl<|Ah rfl<|Ae<|Ab<|Ac<|Ac<|Aa rfl<|Af rfl<|Bc rfl rfl rfl<|Ae<|Ab<|An rfl (fun h1=>?_) (fun h1=>?_)
 ·
  exact absurd h1 (by omega)
 ·
  refine Ao<|Ab<|Ac<|Aa rfl<|Af rfl<|Cm Dd rfl<|Ak (.conv i3 AD2 rfl)<|Af rfl<|Ak (.as (v':=.int .u64 (n:Int)) (.conv i3 AD2 rfl) (by rw[show IntKind.u64.wrap (n:Int)=n by simp[IntKind.wrap,IntKind.bits,IntKind.signed];omega]))<|Az rfl AI5 (AJK n (by omega) w) ?_;rintro _ w2 ⟨rfl,s3⟩;have S:=S.trans s3;have hb:=hb.sub s3;refine Af rfl<|Bz rfl rfl<|Bz rfl rfl<|Ah rfl<|Ah rfl<|Ae<|Ab<|Ac<|Ac<|Aa rfl<|Af rfl<|Ak (.as (v':=.bool false) (.bin rfl rfl rfl) (Bt (by decide)))<|Af rfl<|Af rfl<|Ak (.as (v':=.bool false) (.bin rfl rfl rfl) (Bt (by omega)))<|Bq rfl rfl ?_;refine Ae<|Ab<|Bw rfl<|Ao<|Ab<|Ac<|Aa rfl<|Af rfl<|Ak (.as (v':=.int .i64 (n:Int)) (.conv AD2 i3 rfl) (by rw[wrap_i64 (by omega)]))<|Dh Dd ze3 rfl rfl rfl rfl (by omega) rfl rfl (fun d h i j c g=>?_);have f:=S.le i;have S:=S.trans g;have hb:=hb.sub g
  have c:Has h d (List.replicate n ([.int .i64 0]:List Value)).flatten 3:=(by have:=c;rw[Int.toNat_natCast] at this;exact this)
  refine Ah rfl<|Ae<|Ab<|Ac<|Aa rfl<|Af rfl<|Af rfl<|Rn (o:=0) (k:=1) (m:=n) (R:=List.replicate n ([.int .i64 0]:List Value)) (l:=[([.int .i64 (-1)]:List Value)]) Dd rfl (by simp only[Nat.zero_mul];rfl) rfl c (Jy hz) (by simp;omega) (Hj (rows:=[([.int .i64 (-1)]:List Value)]) (by simpa using hb) (by simp)) rfl (by simp) (by rw[show min 1 n=1 by omega];rfl) rfl rfl (fun w4 z33 c a33=>?_);have S:=S.upd a33 f
  rw[Zr,show min 1 n=1 by omega] at c
  rw[show min 1 n=1 by omega]
  refine Ah rfl<|Ae<|Ab<|Ac<|Bh<|Cw (α:=Nat) (fun k=>[(7,.slice (some ⟨d,0,none⟩) n n),(8,.int .i64 (k:Int))]) (fun k w5=>(1≤k∧k≤n)∧Has w5 d (List.replicate k ([.int .i64 (-1)]:List Value)++List.replicate (n-k) ([.int .i64 0]:List Value)).flatten 3∧Sub w w5) (fun k=>n-k) 1 (Bf (by repeat (first|exact trivial|refine And.intro rfl ?_))) (⟨⟨Nat.le_refl _,hn.1⟩,c,S⟩) (fun k w5 hJ=>?_)
  obtain⟨hk,c,S⟩:=hJ
  refine Ac<|Ac<|Aa rfl<|Af rfl<|Af rfl<|Cm Dd rfl<|Bc rfl rfl rfl<|Ae<|Ab<|An rfl (fun h6=>?_) (fun h6=>?_)
  ·
   refine Ao<|Ab<|Bh<|Bs (fun k=>k=d) [7] w5.heap.size 10 rfl rfl mxo (fun w7 s8=>?_)
   have hNN:∀k,((k=d)∨w5.heap.size≤k)→w.heap.size≤k:=fun k e=>e.elim (fun e=>e▸f) (fun e=>Ad S.size e)
   have hN0:∀k,w5.heap.size≤k→w.heap.size≤k:=fun k e=>Ad S.size e
   have S:=S.trans s8;have c:=c.sub s8;refine Bp 0 rfl rfl<|Bp 1 rfl rfl<|Bp 2 rfl rfl<|Bg 3 rfl (fun _ _=>.as (v':=.slice (some ⟨d,k*1,none⟩) (n-k) (n-k)) (.sliceLo Dd rfl rfl (by omega)) (by rw[AC1 (by omega)];rfl))<|Bp 4 rfl rfl<|Bp 5 rfl rfl<|Bg 6 rfl (fun _ _=>.sliceHi Dd rfl rfl (by omega))<|Aq 7 rfl<|Rn (o:=k) (k:=k) (m:=n-k) (R:=List.replicate k ([.int .i64 (-1)]:List Value)++List.replicate (n-k) ([.int .i64 0]:List Value)) (l:=List.replicate k ([.int .i64 (-1)]:List Value)) Dd rfl rfl rfl c (ABA hx hz) (by simp;omega) (Has.sl (rows:=List.replicate k ([.int .i64 (-1)]:List Value)) (extra:=(List.replicate (n-k) ([.int .i64 0]:List Value)).flatten) (by rw[←List.flatten_append];exact c) (Jy hx)) (by simp) (Jy hx) (by rw[List.take_replicate];exact Yo _ rfl) rfl rfl (fun w9 z45 c a45=>?_);have S:=S.upd a45 f
   rw[ABh] at c
   refine Cv rfl (a45.mono fun k _ e=>.inl e)<|Bg 8 rfl (fun _ _=>.as (.bin rfl rfl rfl) (Cs (y:=((k+min k (n-k):Nat):Int)) (by omega) (by omega)))<|Cu 9 rfl rfl ?_
   exact Fb (by kernel_rfl) (fun a ka=>⟨k+min k (n-k),⟨by omega,by rw[show n-(k+min k (n-k))=n-k-min k (n-k) by omega];exact c,S⟩,by omega,ka.keep (Bf (by repeat (first|exact trivial|refine And.intro rfl ?_)))⟩)
  ·
   obtain rfl:k=n:=(by omega)
   refine Co rfl<|Ab<|Ac<|Aa rfl<|Af rfl<|Ah rfl<|Ae<|Ab<|Bb 4 rfl rfl rfl ?_
   rw[Nat.sub_self,List.replicate_zero,List.append_nil] at c
   exact⟨S,d,rfl,f,c⟩
theorem ACP(n:Nat)(hn:1≤n∧n≤512)(b:Nat)(w:World)(hb:Has w b ([.int .u64 0,.int .i64 0,.int .i64 0,.bool true]:List Value) 97):
  FC Tryz.prog 117 [.slice (some ⟨b,0,none⟩) 1 1,.int .i64 (n:Int)] w (fun v w'=>Sub w w'∧∃b2,v=.slice (some ⟨b2,0,none⟩) n n∧w.heap.size≤b2∧Has w' b2 (List.replicate n ([.int .u64 0,.int .i64 0,.int .i64 0,.bool true]:List Value)).flatten 97):=by
 have hx:(([.int .u64 0,.int .i64 0,.int .i64 0,.bool true]:List Value):List Value).length=4:=rfl
 have hz:(([.int .u64 0,.int .i64 0,.int .i64 0,.bool false]:List Value):List Value).length=4:=rfl
 refine As Tryz.func117 rfl Tryz.ntmps117 rfl ?_
 have S:=Ax w
 refine Ac<|Aa rfl<|Ah rfl<|Ae<|Ab<|Ac<|Ac<|Aa rfl<|Af rfl<|Bc rfl rfl rfl<|Ae<|Ab<|An rfl (fun h1=>?_) (fun h1=>?_)
 ·
  exact absurd h1 (by omega)
 ·
  refine Ao<|Ab<|Ac<|Aa rfl<|Af rfl<|Cm Xl rfl<|Ak (.conv i3 AD2 rfl)<|Af rfl<|Ak (.as (v':=.int .u64 (n:Int)) (.conv i3 AD2 rfl) (by rw[show IntKind.u64.wrap (n:Int)=n by simp[IntKind.wrap,IntKind.bits,IntKind.signed];omega]))<|Az rfl AI5 (AJK n (by omega) w) ?_;rintro _ w2 ⟨rfl,s3⟩;have S:=S.trans s3;have hb:=hb.sub s3;refine Af rfl<|Bz rfl rfl<|Bz rfl rfl<|Ah rfl<|Ah rfl<|Ae<|Ab<|Ac<|Ac<|Aa rfl<|Af rfl<|Ak (.as (v':=.bool false) (.bin rfl rfl rfl) (Bt (by decide)))<|Af rfl<|Af rfl<|Ak (.as (v':=.bool false) (.bin rfl rfl rfl) (Bt (by omega)))<|Bq rfl rfl ?_;refine Ae<|Ab<|Bw rfl<|Ao<|Ab<|Ac<|Aa rfl<|Af rfl<|Ak (.as (v':=.int .i64 (n:Int)) (.conv AD2 i3 rfl) (by rw[wrap_i64 (by omega)]))<|Dh Xl AHS rfl rfl rfl rfl (by omega) rfl rfl (fun d h i j c g=>?_);have f:=S.le i;have S:=S.trans g;have hb:=hb.sub g
  have c:Has h d (List.replicate n ([.int .u64 0,.int .i64 0,.int .i64 0,.bool false]:List Value)).flatten 97:=(by have:=c;rw[Int.toNat_natCast] at this;exact this)
  refine Ah rfl<|Ae<|Ab<|Ac<|Aa rfl<|Af rfl<|Af rfl<|Rn (o:=0) (k:=1) (m:=n) (R:=List.replicate n ([.int .u64 0,.int .i64 0,.int .i64 0,.bool false]:List Value)) (l:=[([.int .u64 0,.int .i64 0,.int .i64 0,.bool true]:List Value)]) Xl rfl (by simp only[Nat.zero_mul];rfl) rfl c (Jy hz) (by simp;omega) (Hj (rows:=[([.int .u64 0,.int .i64 0,.int .i64 0,.bool true]:List Value)]) (by simpa using hb) (by simp)) rfl (by simp) (by rw[show min 1 n=1 by omega];rfl) rfl rfl (fun w4 z33 c a33=>?_);have S:=S.upd a33 f
  rw[Zr,show min 1 n=1 by omega] at c
  rw[show min 1 n=1 by omega]
  refine Ah rfl<|Ae<|Ab<|Ac<|Bh<|Cw (α:=Nat) (fun k=>[(7,.slice (some ⟨d,0,none⟩) n n),(8,.int .i64 (k:Int))]) (fun k w5=>(1≤k∧k≤n)∧Has w5 d (List.replicate k ([.int .u64 0,.int .i64 0,.int .i64 0,.bool true]:List Value)++List.replicate (n-k) ([.int .u64 0,.int .i64 0,.int .i64 0,.bool false]:List Value)).flatten 97∧Sub w w5) (fun k=>n-k) 1 (Bf (by repeat (first|exact trivial|refine And.intro rfl ?_))) (⟨⟨Nat.le_refl _,hn.1⟩,c,S⟩) (fun k w5 hJ=>?_)
  obtain⟨hk,c,S⟩:=hJ
  refine Ac<|Ac<|Aa rfl<|Af rfl<|Af rfl<|Cm Xl rfl<|Bc rfl rfl rfl<|Ae<|Ab<|An rfl (fun h6=>?_) (fun h6=>?_)
  ·
   refine Ao<|Ab<|Bh<|Bs (fun k=>k=d) [7] w5.heap.size 10 rfl rfl mxo (fun w7 s8=>?_)
   have hNN:∀k,((k=d)∨w5.heap.size≤k)→w.heap.size≤k:=fun k e=>e.elim (fun e=>e▸f) (fun e=>Ad S.size e)
   have hN0:∀k,w5.heap.size≤k→w.heap.size≤k:=fun k e=>Ad S.size e
   have S:=S.trans s8;have c:=c.sub s8;refine Bp 0 rfl rfl<|Bp 1 rfl rfl<|Bp 2 rfl rfl<|Bg 3 rfl (fun _ _=>.as (v':=.slice (some ⟨d,k*4,none⟩) (n-k) (n-k)) (.sliceLo Xl rfl rfl (by omega)) (by rw[AC1 (by omega)];rfl))<|Bp 4 rfl rfl<|Bp 5 rfl rfl<|Bg 6 rfl (fun _ _=>.sliceHi Xl rfl rfl (by omega))<|Aq 7 rfl<|Rn (o:=k) (k:=k) (m:=n-k) (R:=List.replicate k ([.int .u64 0,.int .i64 0,.int .i64 0,.bool true]:List Value)++List.replicate (n-k) ([.int .u64 0,.int .i64 0,.int .i64 0,.bool false]:List Value)) (l:=List.replicate k ([.int .u64 0,.int .i64 0,.int .i64 0,.bool true]:List Value)) Xl rfl rfl rfl c (ABA hx hz) (by simp;omega) (Has.sl (rows:=List.replicate k ([.int .u64 0,.int .i64 0,.int .i64 0,.bool true]:List Value)) (extra:=(List.replicate (n-k) ([.int .u64 0,.int .i64 0,.int .i64 0,.bool false]:List Value)).flatten) (by rw[←List.flatten_append];exact c) (Jy hx)) (by simp) (Jy hx) (by rw[List.take_replicate];exact Yo _ rfl) rfl rfl (fun w9 z45 c a45=>?_);have S:=S.upd a45 f
   rw[ABh] at c
   refine Cv rfl (a45.mono fun k _ e=>.inl e)<|Bg 8 rfl (fun _ _=>.as (.bin rfl rfl rfl) (Cs (y:=((k+min k (n-k):Nat):Int)) (by omega) (by omega)))<|Cu 9 rfl rfl ?_
   exact Fb (by kernel_rfl) (fun a ka=>⟨k+min k (n-k),⟨by omega,by rw[show n-(k+min k (n-k))=n-k-min k (n-k) by omega];exact c,S⟩,by omega,ka.keep (Bf (by repeat (first|exact trivial|refine And.intro rfl ?_)))⟩)
  ·
   obtain rfl:k=n:=(by omega)
   refine Co rfl<|Ab<|Ac<|Aa rfl<|Af rfl<|Ah rfl<|Ae<|Ab<|Bb 4 rfl rfl rfl ?_
   rw[Nat.sub_self,List.replicate_zero,List.append_nil] at c
   exact⟨S,d,rfl,f,c⟩
def pk(a c:Int):Value:=.agg #[.int .i64 a,.int .i64 c]
theorem AAG{a b c d:Int}:pk a b=pk c d↔a=c∧b=d:=by simp[pk]
def HasP(w:World)(b:Nat)(f:Int→Int→Option Value):Prop :=
 ∃es clock,w.heap[b]?=some (.map es clock)∧(∀x∈es.toList,∃a c,x.key=pk a c)∧∀a c v,f a c=some v↔∃x∈es.toList,x.key=pk a c∧x.val=v
theorem HasP.lt{w b f}(h:HasP w b f):b<w.heap.size:=by
 obtain⟨es,c,h,_⟩:=h
 rcases Nat.lt_or_ge b w.heap.size with g|g
 ·exact g
 ·rw[Array.getElem?_eq_none g] at h;cases h
theorem HasP.step{N:Nat→Prop}{w w' b f}(h:HasP w b f)(k:Agr N w w')(hn:¬N b):HasP w' b f:=by
 obtain⟨es,c,h1,h2⟩:=id h
 exact⟨es,c,(k.block b h.lt hn).trans h1,h2⟩
theorem HasP.sub{w w' b f}(h:HasP w b f)(k:Sub w w'):HasP w' b f:=h.step (N:=fun _=>False) k.agr id
structure PairT (P:Program) (kt:TypeId) (f1 f2:Field):Prop where
 hu:P.underlying kt=some (.struct #[f1,f2])
 n1 : (f1.name != "_") = true
 n2 : (f2.name != "_") = true
 h1:P.underlying f1.type=some (.int .i64)
 h2:P.underlying f2.type=some (.int .i64)
 o1:f1.offset=0
 o2:f2.offset=1
 hk:flatK P 6 kt=some [some .i64,some .i64]
 hs:shapeOf P kt=some (true,2)
section
variable {P:Program} {kt:TypeId} {f1 f2:Field} {w:World}
theorem Ps(h:PairT P kt f1 f2)(em:Bool)(n:Nat)(x y:Int):(Instr.checkKey em (n+2) kt (pk x y)).run P w=.ok () w:=by
 have n1 : f1.name ≠ "_" := by simpa using h.n1
 have n2 : f2.name ≠ "_" := by simpa using h.n2
 have p1:P.plainKey f1.type=true:=by simp[Program.plainKey,h.h1]
 have p2:P.plainKey f2.type=true:=by simp[Program.plainKey,h.h2]
 have e1:=run_part_plain (P:=P) w p1 (xs:=#[.int .i64 x,.int .i64 y]) (off:=f1.offset) (v:=.int .i64 x) (by rw[h.o1];rfl)
 have e2:=run_part_plain (P:=P) w p2 (xs:=#[.int .i64 x,.int .i64 y]) (off:=f2.offset) (v:=.int .i64 y) (by rw[h.o2];rfl)
 have c1:(Instr.checkKey em (n+1) f1.type (.int .i64 x)).run P w=.ok () w:=by simp[Instr.checkKey,run_underlying h.h1]
 have c2:(Instr.checkKey em (n+1) f2.type (.int .i64 y)).run P w=.ok () w:=by simp[Instr.checkKey,run_underlying h.h2]
 unfold pk
 rw[Instr.checkKey]
 simp[run_underlying h.hu,n1,n2,e1,e2,c1,c2]
theorem Xo(h:PairT P kt f1 f2)(a b c d:Int):(Op.equal kt (pk a b) (pk c d)).run P w=.ok (decide (a=c∧b=d)) w:=by
 have:=Ob (P:=P) (w:=w) (xs:=[.int .i64 a,.int .i64 b]) (ys:=[.int .i64 c,.int .i64 d]) h.hk h.hs rfl rfl rfl
 refine Eq.trans this ?_
 congr 1
 rw[Bool.eq_iff_iff,decide_eq_true_iff]
 simp[eqL,eq1]
theorem Rp(h:PairT P kt f1 f2)(a b:Int):∀(es:List MapEntry) (i:Nat),(∀x∈es,∃a c,x.key=pk a c) →
  (∃o,(Instr.findAsking kt (pk a b) es i).run P w=.ok o w∧((o=none∧∀x∈es,¬x.key=pk a b)∨∃j x,o=some (j,x.val)∧x∈es∧x.key=pk a b))
 | [],i,_=>⟨none,by simp[Instr.findAsking],.inl ⟨rfl,by simp⟩⟩
 |x::es,i,hk=>by
  obtain⟨c,d,hx⟩:=hk x (by simp)
  have he:=Xo (w:=w) h a b c d
  by_cases q:a=c∧b=d
  ·refine⟨some (i,x.val),?_,.inr ⟨i,x,rfl,by simp,by rw[hx,q.1,q.2]⟩⟩
   rw[Instr.findAsking,hx]
   rw[run_bind,he,decide_eq_true q]
   rfl
  ·obtain⟨o,h1,h2⟩:=Rp h a b es (i+1) (fun y hy=>hk y (by simp[hy]))
   refine⟨o,?_,?_⟩
   ·rw[Instr.findAsking,hx]
    rw[run_bind,he,decide_eq_false q]
    exact h1
   ·rcases h2 with⟨h2,h3⟩|⟨j,y,h2,h3,h4⟩
    ·refine .inl ⟨h2,fun y hy=>?_⟩
     rcases List.mem_cons.1 hy with rfl|hy
     ·rw[hx];intro e;exact q ⟨(AAG.1 e).1.symm,(AAG.1 e).2.symm⟩
     ·exact h3 y hy
    ·exact .inr ⟨j,y,h2,by simp[h3],h4⟩
theorem Mz(h:PairT P kt f1 f2)(a b:Int)(es:List MapEntry)(hk:∀x∈es,∃a c,x.key=pk a c):
  (∃o,(Instr.findKey kt (pk a b) es).run P w=.ok o w∧((o=none∧∀x∈es,¬x.key=pk a b)∨∃j x,o=some (j,x.val)∧x∈es∧x.key=pk a b)):=by
 obtain⟨o,h1,h2⟩:=Rp (w:=w) h a b es 0 hk
 have e:(Instr.findKey kt (pk a b) es).run P w=(Instr.findAsking kt (pk a b) es).run P w:=run_findKey_eq w (by rw[h.hu]) (pk a b) es
 exact⟨o,e.trans h1,h2⟩
end
section
variable {P:Program} {n:Cx} {F:List (Nat × Value)} {w:World} {p:Post} {ops:Array Oper} {rest:List Oper} {d:Option Tmp} {t:TypeId} {pos:String} {af:Array Edge} {g:Option (Nat × Bool)} {kt et:TypeId} {f1 f2:Field}
theorem _root_.Go.XL.EvOp.lookupP{ty m x z b a c}{f:Int→Int→Option Value}(hm:P.underlying ty=some (.map kt et))(hp:PairT P kt f1 f2)(hz:zeroOf P et=some z)(hx:XL.ev F m=some (.map (some b)))(hk:XL.ev F x=some (pk a c))(h:HasP w b f):
  EvOp P F (.lookup ty m x true) w (.tuple #[(f a c).getD z,.bool (f a c).isSome]):=fun _ _ _ _ _ ρ hρ w' s=>by
 obtain⟨es,cl,h1,h3,h4⟩:=h.sub s
 simp only[execOp,hρ m _ hx,hρ x _ hk]
 refine Fj _ ?_
 have hck:=Ps (P:=P) (w:=w') hp es.isEmpty 9998 a c
 obtain⟨o,g1,g2⟩:=Mz (P:=P) (w:=w') hp a c es.toList h3
 have hf:f a c=o.map (·.2):=by
  rcases g2 with⟨g2,g3⟩|⟨j,y,g2,g3,g4⟩
  ·rw[g2]
   cases hq:f a c with
   |none=>rfl
   |some v=>obtain⟨y,hy,hyk,_⟩:=(h4 a c v).1 hq;exact absurd hyk (g3 y hy)
  ·rw[g2];exact(h4 a c y.val).2 ⟨y,g3,g4,rfl⟩
 rw[hf]
 cases o with
 |none=>simp[Instr.lookup,Go.run_underlying hm,Go.MapKept.run_getObj_map h1,hck,g1,Result.andThen,Ir hz]
 |some q=>simp[Instr.lookup,Go.run_underlying hm,Go.MapKept.run_getObj_map h1,hck,g1,Result.andThen]
theorem AB3{ty}(hg:Ed ops F g=some true)(hd:inB d n=true)
  (h:∀b w',b=w.heap.size→w'.heap.size=b+1→HasP w' b (fun _ _=>none)→Sub w w'→RL P n ops rest (upd F d (.map (some b))) w' p):RL P n ops (⟨d,.makeMap ty none,t,pos,af,g⟩::rest) F w p:=by
 refine Kf hg hd (w':=w.alloc (.map #[] 0)) (fun ρ hρ=>?_) (h _ _ rfl (by simp) ⟨#[],0,heap_alloc_new w _,by simp,fun a c v=>by simp⟩ ⟨rfl,rfl,rfl,by simp,fun k hk=>Ei w _ hk⟩)
 simp only[execOp]
 refine Fj _ ?_
 simp[Instr.makeMap,Result.andThen]
theorem ACv{ty m x y v b a c}{f:Int→Int→Option Value}(hm:P.underlying ty=some (.map kt et))(hp:PairT P kt f1 f2)(hx:XL.ev F m=some (.map (some b)))(hk:XL.ev F x=some (pk a c))(hy:XL.ev F y=some v)(hb:HasP w b f)(hf:f a c=none)(hg:Ed ops F g=some true)
  (h:∀w',w'.heap.size=w.heap.size→HasP w' b (fun i k=>if i=a∧k=c then some v else f i k)→Agr (· = b) w w'→RL P n ops rest F w' p):RL P n ops (⟨none,.insert ty m x y,t,pos,af,g⟩::rest) F w p:=by
 obtain⟨es,cl,h1,h3,h4⟩:=hb
 have hck:=Ps (P:=P) (w:=w) hp false 9998 a c
 have agr:∀o,Agr (· = b) w {w with heap:=w.heap.setIfInBounds b o}:=fun o=>⟨rfl,rfl,rfl,by simp,fun k _ hk=>(Go.MapKept.heap_set h1).2 k hk⟩
 obtain⟨o,g1,g2⟩:=Mz (P:=P) (w:=w) hp a c es.toList h3
 have ho:o=none:=by
  rcases g2 with⟨g2,_⟩|⟨j,y,_,g3,g4⟩
  ·exact g2
  ·have:=(h4 a c y.val).2 ⟨y,g3,g4,rfl⟩;rw[hf] at this;cases this
 subst ho
 have g3:∀x∈es.toList,¬x.key=pk a c:=by
  intro y hy e
  have:=(h4 a c y.val).2 ⟨y,hy,e,rfl⟩;rw[hf] at this;cases this
 refine Kn hg (w':={w with heap:=w.heap.setIfInBounds b (.map (es.push ⟨pk a c,v,cl⟩) (cl+1))}) (fun ρ hρ=>?_) (h _ (by simp) ⟨_,_,(Go.MapKept.heap_set h1).1,?_,?_⟩ (agr _))
 ·simp only[execOp,hρ m _ hx,hρ x _ hk,hρ y _ hy]
  simp[Instr.mapUpdate,Go.run_underlying hm,Go.MapKept.run_getObj_map h1,hck,g1,Go.MapKept.run_setObj_map _ h1,Result.andThen]
 ·intro z hz
  simp only[Array.toList_push,List.mem_append,List.mem_singleton] at hz
  rcases hz with hz|rfl
  ·exact h3 z hz
  ·exact⟨a,c,rfl⟩
 ·intro i k u
  simp only[Array.toList_push,List.mem_append,List.mem_singleton]
  by_cases hi:i=a∧k=c
  ·obtain⟨rfl,rfl⟩:=hi
   simp only[and_self,if_true,Option.some.injEq]
   constructor
   ·rintro rfl;exact⟨_,.inr rfl,rfl,rfl⟩
   ·rintro⟨z,hz|rfl,hz2,hz3⟩
    ·exact absurd hz2 (g3 z hz)
    ·exact hz3
  ·rw[if_neg hi,h4]
   constructor
   ·rintro⟨z,hz,hz2⟩;exact⟨z,.inl hz,hz2⟩
   ·rintro⟨z,hz|rfl,hz2,hz3⟩
    ·exact⟨z,hz,hz2,hz3⟩
    ·exact absurd ⟨(AAG.1 hz2).1.symm,(AAG.1 hz2).2.symm⟩ hi
end
section
variable {P:Program} {n:Cx} {F:List (Nat × Value)} {w:World} {p:Post} {l:List Oper} {N:Nat→Prop} {Wr:List Nat} {B:Nat}
structure LE where
 i:Nat
 a:Int
 c:Int
 v:Value
def Xm(T:List LE)(L:Array Bool)(a c:Int):Option Value:=(T.find? fun e=>decide (e.a=a∧e.c=c)&&L.getD e.i true).map (·.v)
theorem Lz{L:Array Bool}{i j:Nat}(h:L.getD i true=false):(L.setIfInBounds i true).getD j true=if j=i then true else L.getD j true:=by
 have hi:i<L.size:=by
  rcases Nat.lt_or_ge i L.size with g|g
  ·exact g
  ·simp[Array.getD,Nat.not_lt.2 g] at h
 simp only[Array.getD_eq_getD_getElem?,Array.getElem?_setIfInBounds]
 by_cases e:j=i
 ·subst e;simp[hi]
 ·simp[e,Ne.symm e]
theorem ACi{L:Array Bool}{i j:Nat}(h:L.getD j false=true):(L.setIfInBounds i true).getD j false=true:=by
 simp only[Array.getD_eq_getD_getElem?,Array.getElem?_setIfInBounds] at h ⊢
 by_cases e:i=j
 ·subst e
  cases hq:L[i]? with
  |none=>rw[hq] at h;simp at h
  |some v =>
   have hi:i<L.size:=(Array.getElem?_eq_some_iff.1 hq).1
   simp[hi]
 ·simp[e];simpa using h
theorem nodup_inj{α β:Type}{f:α→β}:∀ {l:List α},(l.map f).Nodup→∀ {x y:α},x∈l→y∈l→f x=f y→x=y
 | [],_,_,_,h,_,_=>by cases h
 |z::l,hn,x,y,hx,hy,e=>by
  have hn:=List.nodup_cons.1 (show(f z::l.map f).Nodup from hn)
  rcases List.mem_cons.1 hx with rfl|hx2<;>rcases List.mem_cons.1 hy with rfl|hy2
  ·rfl
  ·exact absurd (e▸List.mem_map_of_mem hy2) hn.1
  ·exact absurd (e.symm▸List.mem_map_of_mem hx2) hn.1
  ·exact nodup_inj hn.2 hx2 hy2 e
theorem Qm{α:Type}{f g:α→Bool}:∀ {l:List α},(∀x∈l,f x=g x)→l.find? f=l.find? g
 | [],_=>rfl
 |z::l,h=>by rw[List.find?_cons,List.find?_cons,h z (by simp),Qm fun x hx=>h x (by simp[hx])]
theorem ABI{T:List LE}(hk:(T.map fun e=>(e.a,e.c)).Nodup){e e':LE}(h:e∈T)(h':e'∈T)(ha:e'.a=e.a)(hc:e'.c=e.c):e'=e:=nodup_inj hk h' h (by simp only[ha,hc])
theorem AGl{T:List LE}(hk:(T.map fun e=>(e.a,e.c)).Nodup)(hi:(T.map (·.i)).Nodup){L:Array Bool}{e:LE}(he:e∈T)(hL:L.getD e.i true=false):
  Xm T L e.a e.c=none∧Xm T (L.setIfInBounds e.i true)=fun a c=>if a=e.a∧c=e.c then some e.v else Xm T L a c:=by
 constructor
 ·unfold Xm
  rw[List.find?_eq_none.2]
  ·rfl
  intro x hx
  by_cases q:x.a=e.a∧x.c=e.c
  ·rw[ABI hk he hx q.1 q.2,hL];simp
  ·rw[decide_eq_false q];simp
 ·funext a c
  unfold Xm
  by_cases q:a=e.a∧c=e.c
  ·rw[if_pos q]
   obtain⟨rfl,rfl⟩:=q
   cases hf:T.find? fun x=>decide (x.a=e.a∧x.c=e.c)&&(L.setIfInBounds e.i true).getD x.i true with
   |none =>
    have:=List.find?_eq_none.1 hf e he
    rw[Lz hL] at this
    simp at this
   |some y =>
    have h1:=List.find?_some hf
    have h2:=List.mem_of_find?_eq_some hf
    rw[Bool.and_eq_true,decide_eq_true_iff] at h1
    rw[ABI hk he h2 h1.1.1 h1.1.2];rfl
  ·rw[if_neg q]
   congr 1
   refine Qm (fun x hx=>?_)
   by_cases q2:x.a=a∧x.c=c
   ·have hne:x.i≠e.i:=fun e2=>q (by rw[←nodup_inj hi hx he e2];exact⟨q2.1.symm,q2.2.symm⟩)
    rw[Lz hL,if_neg hne]
   ·rw[decide_eq_false q2];simp
theorem cnt_set{T:List LE}(hi:(T.map (·.i)).Nodup){L:Array Bool}{e:LE}(he:e∈T)(hL:L.getD e.i true=false):(T.filter fun x => !(L.setIfInBounds e.i true).getD x.i true).length+1=(T.filter fun x => !L.getD x.i true).length:=by
 induction T with
 |nil=>cases he
 |cons x T ih =>
  have hn:=List.nodup_cons.1 (show(x.i::T.map (·.i)).Nodup from hi)
  by_cases q:x.i=e.i
  ·have hno:∀y∈T,y.i≠e.i:=fun y hy e2=>hn.1 (by rw[q,←e2];exact List.mem_map_of_mem hy)
   have h1:(T.filter fun x => !(L.setIfInBounds e.i true).getD x.i true)=T.filter fun x => !L.getD x.i true:=List.filter_congr fun y hy=>by rw[Lz hL,if_neg (hno y hy)]
   rw[List.filter_cons,List.filter_cons,Lz hL,if_pos q,q,hL,h1]
   simp
  ·have hm:e∈T:=(List.mem_cons.1 he).resolve_left (fun h=>q (by rw[h]))
   have:=ih hn.2 hm
   rw[List.filter_cons,List.filter_cons,Lz hL,if_neg q]
   cases L.getD x.i true<;>simp only[Bool.not_true,Bool.not_false,if_true,if_false,Bool.false_eq_true,Al]<;>omega
def AKq(l:List Oper)(L0:Array Bool)(is:List Nat):Bool:=(List.range L0.size).all fun i=>L0.getD i true||is.contains i||match l[i]? with
 |none=>true
 |some o=>(o.after.any fun g=>Region.binds .any g && !(L0.getD g.on false) && !(is.contains g.on))||is.all fun j=>o.after.any fun g=>Region.binds .any g&&g.on==j
theorem AKP{L0:Array Bool}{T:List LE}(h:AKq l L0 (T.map (·.i))=true){L:Array Bool}(hs:L.size=L0.size)(hL:∀j,(∀e∈T,e.i≠j)→L[j]?=L0[j]?)(hu:∃e∈T,L.getD e.i true=false){i:Nat}(hr:i∈Region.ready .any l.toArray L):∃e∈T,e.i=i:=by
 obtain⟨hun,o,ho,hall⟩:=mem_ready.1 hr
 refine Classical.byContradiction fun hno=>?_
 have hno:∀e∈T,e.i≠i:=fun e he e2=>hno ⟨e,he,e2⟩
 have hi:i<L.size:=by
  rcases Nat.lt_or_ge i L.size with g|g
  ·exact g
  ·simp[Array.getD,Nat.not_lt.2 g] at hun
 have h1:=List.all_eq_true.1 h i (by rw[List.mem_range,←hs];exact hi)
 have hc:(T.map (·.i)).contains i=false:=by
  rw[Bool.eq_false_iff];intro e
  obtain⟨e',he',e2⟩:=List.mem_map.1 (List.contains_iff_mem.1 e)
  exact hno e' he' e2
 have hu0:L0.getD i true=false:=by
  rw[Array.getD_eq_getD_getElem?] at hun ⊢
  rw[←hL i hno];exact hun
 rw[hc,hu0,show l[i]?=some o by simpa using ho] at h1
 simp only[Bool.false_or,Bool.or_eq_true] at h1
 rcases h1 with h1|h1
 ·obtain⟨g,hg,hg2⟩:=Array.any_eq_true'.1 h1
  rw[Bool.and_eq_true,Bool.and_eq_true] at hg2
  have h3:=hall g hg hg2.1.1
  have hng:∀e∈T,e.i≠g.on:=by
   intro e he e2
   have:(T.map (·.i)).contains g.on=true:=List.contains_iff_mem.2 (List.mem_map.2 ⟨e,he,e2⟩)
   rw[this] at hg2;simp at hg2
  rw[Array.getD_eq_getD_getElem?,hL g.on hng,←Array.getD_eq_getD_getElem?] at h3
  rw[h3] at hg2;simp at hg2
 ·obtain⟨e,he,heu⟩:=hu
  have h3:=List.all_eq_true.1 h1 e.i (List.mem_map_of_mem he)
  obtain⟨g,hg,hg2⟩:=Array.any_eq_true'.1 h3
  rw[Bool.and_eq_true,beq_iff_eq] at hg2
  have h4:=hall g hg hg2.1
  rw[hg2.2] at h4
  have:L.getD e.i true=true:=by
   rw[Array.getD_eq_getD_getElem?] at h4 ⊢
   cases hq:L[e.i]? with
   |none=>rfl
   |some v=>rw[hq] at h4;exact h4
  rw[this] at heu;cases heu
def AD0(L0:Array Bool)(T:List LE):Array Bool:=(T.map (·.i)).foldl (fun L i=>L.setIfInBounds i true) L0
theorem AEO(L0:Array Bool):∀T:List LE,(AD0 L0 T).size=L0.size:=by
 intro T
 unfold AD0
 generalize T.map (·.i)=is
 induction is generalizing L0 with
 |nil=>rfl
 |cons i is ih=>rw[List.foldl_cons,ih];simp
theorem AGk(L0:Array Bool)(T:List LE)(j:Nat)(hj:j<L0.size):(AD0 L0 T)[j]?=if(∃e∈T,e.i=j) then some true else L0[j]?:=by
 have key:∀(is:List Nat) (L0:Array Bool),j<L0.size→(is.foldl (fun L i=>L.setIfInBounds i true) L0)[j]?=if j∈is then some true else L0[j]?:=by
  intro is
  induction is with
  |nil=>intro L0 _;simp
  |cons i is ih =>
   intro L0 hj
   rw[List.foldl_cons,ih _ (by simpa using hj),Array.getElem?_setIfInBounds]
   by_cases q:j∈is
   ·simp[q]
   ·by_cases q2:i=j
    ·subst q2;simp[hj]
    ·simp[q,q2,Ne.symm q2]
 unfold AD0
 rw[key _ _ hj]
 congr 1
 simp[List.mem_map]
theorem AIa{ty kt et:TypeId}{f1 f2:Field}{b:Nat}(T:List LE)(L0:Array Bool)(m0:Nat)(hR:n.round=none)(hm:P.underlying ty=some (.map kt et))(hp:PairT P kt f1 f2)
  (hl:∀e∈T,∃m x y t pos af,l[e.i]?=some ⟨none,.insert ty m x y,t,pos,af,none⟩∧XL.ev F m=some (.map (some b))∧XL.ev F x=some (pk e.a e.c)∧XL.ev F y=some e.v∧(af.all fun g => !Region.binds .any g||L0.getD g.on false)=true)
  (hk:(T.map fun e=>(e.a,e.c)).Nodup) (hi:(T.map (·.i)).Nodup) (hblk:AKq l L0 (T.map (·.i))=true) (hu2:(T.all fun e => !(L0.getD e.i true))=true) (hne:T≠[]) (hb:HasP w b fun _ _=>none) (hB:B≤b)
  (h:∀w',HasP w' b (fun a c=>(T.find? fun e=>decide (e.a=a∧e.c=c)).map (·.v))→Agr (· = b) w w'→RD P n l N Wr B (AD0 L0 T) m0 F w' p):RD P n l N Wr B L0 (T.length+m0) F w p:=by
 have hu2:∀e∈T,L0.getD e.i true=false:=fun e he=>by have:=List.all_eq_true.1 hu2 e he;simpa using this
 have key:∀(f:Nat) (L:Array Bool) (w':World),L.size=L0.size→(∀j,(∀e∈T,e.i≠j)→L[j]?=L0[j]?)→(∀i,L0.getD i false=true→L.getD i false=true)→(T.filter fun x => !L.getD x.i true).length=f→HasP w' b (Xm T L)→Agr (· = b) w w'→RD P n l N Wr B L (f+m0) F w' p:=by
  intro f
  induction f with
  |zero =>
   intro L w' h0 h1 h2 h3 h4 h5
   have hall:∀e∈T,L.getD e.i true=true:=by
    intro e he
    have:=List.length_eq_zero_iff.1 h3
    rw[List.filter_eq_nil_iff] at this
    simpa using this e he
   have e1:Xm T L=fun a c=>(T.find? fun e=>decide (e.a=a∧e.c=c)).map (·.v):=by
    funext a c
    unfold Xm
    congr 1
    exact Qm fun x hx=>by rw[hall x hx,Bool.and_true]
   have e2:L=AD0 L0 T:=by
    refine Array.ext_getElem? (fun j=>?_)
    rcases Nat.lt_or_ge j L0.size with g|g
    ·rw[AGk L0 T j g]
     by_cases q:∃e∈T,e.i=j
     ·rw[if_pos q]
      obtain⟨e,he,rfl⟩:=q
      have:=hall e he
      rw[Array.getD_eq_getD_getElem?,Array.getElem?_eq_getElem (by rw[h0];exact g)] at this
      rw[Array.getElem?_eq_getElem (by rw[h0];exact g)]
      exact congrArg some this
     ·rw[if_neg q];exact h1 j (fun e he e2=>q ⟨e,he,e2⟩)
    ·rw[Array.getElem?_eq_none (by rw[h0];exact g),Array.getElem?_eq_none (by rw[AEO];exact g)]
   rw[Nat.zero_add,e2]
   exact h w' (e1▸h4) h5
  |succ f ih =>
   intro L w' h0 h1 h2 h3 h4 h5
   obtain⟨e0,he0⟩:∃e,e∈T.filter fun x => !L.getD x.i true:=List.exists_mem_of_length_pos (by omega)
   have he1:=List.mem_filter.1 he0
   have hun0:L.getD e0.i true=false:=by simpa using he1.2
   have hrdy:e0.i∈Region.ready .any l.toArray L:=by
    obtain⟨m,x,y,t,pos,af,g1,_,_,_,g5⟩:=hl e0 he1.1
    refine mem_ready.2 ⟨hun0,_,by simpa using g1,fun g hg hbd=>h2 _ ?_⟩
    have:=Array.all_eq_true'.1 g5 g hg
    rw[hbd] at this;simpa using this
   rw[show f+1+m0=(f+m0)+1 by omega]
   intro a k
   refine⟨fun e=>absurd (e▸hrdy) (by simp),fun i hi2=>?_⟩
   obtain⟨e,he,rfl⟩:=AKP hblk h0 h1 ⟨e0,he1.1,hun0⟩ hi2
   obtain⟨hun,_⟩:=mem_ready.1 hi2
   obtain⟨m,x,y,t,pos,af,g1,g2,g3,g4,g5⟩:=hl e he
   obtain⟨n1,n2⟩:=AGl hk hi he hun
   refine Ca (is:=[]) g1 ?_ Do hR e.i (by simp) a k
   refine ACv hm hp g2 g3 g4 h4 n1 rfl (fun w2 hs hb2 ha=>Ae (fun a k=>⟨ha.mono fun k _ e=>.inr (by rw[e];exact hB),ih (L.setIfInBounds e.i true) w2 (by simpa using h0) ?_ (fun j hj=>ACi (h2 j hj)) (by have:=cnt_set hi he hun;omega) (by rw[n2];exact hb2) (h5.trans ha) a k⟩))
   intro j hj
   rw[Array.getElem?_setIfInBounds,if_neg (hj e he)]
   exact h1 j hj
 refine key T.length L0 w rfl (fun _ _=>rfl) (fun _ h=>h) ?_ ?_ (Agr.refl _ _)
 ·rw[List.filter_eq_self.2 (fun x hx=>by rw[hu2 x hx];rfl)]
 ·have:Xm T L0=fun _ _=>none:=by
   funext a c
   unfold Xm
   rw[List.find?_eq_none.2]
   ·rfl
   intro x hx;rw[hu2 x hx];simp
  rw[this];exact hb
end
def u64(x:BitVec 64):Value:=.int .u64 (x.toNat:Int)
theorem AAS(x:BitVec 64)(k:Nat)(hk:k≤64):Value.int .u64 ((x.toNat:Int).fdiv (2^min ((k:Int).toNat) IntKind.u64.bits))=u64 (x >>> k):=by
 unfold u64
 congr 1
 rw[show min ((k:Int).toNat) IntKind.u64.bits=k by simp[IntKind.bits];omega]
 have h2:((2:Int)^k)=((2^k:Nat):Int):=by rw[Int.natCast_pow];rfl
 rw[BitVec.toNat_ushiftRight,Nat.shiftRight_eq_div_pow,Int.natCast_ediv,h2,Int.fdiv_eq_ediv_of_nonneg _ (Int.natCast_nonneg _)]
theorem Ny(z:BitVec 64):BitVec.ofInt 64 (z.toNat:Int)=z:=by rw[BitVec.ofInt_natCast];simp
theorem AGL(z:BitVec 64):z.toNat<18446744073709551616:=z.isLt
theorem AAR(x y:BitVec 64):Value.int .u64 (IntKind.u64.wrap ((BitVec.ofInt 64 (x.toNat:Int) ^^^ BitVec.ofInt 64 (y.toNat:Int)).toNat:Int))=u64 (x ^^^ y):=by
 unfold u64
 rw[Ny x,Ny y,wrap_u64 ⟨Int.natCast_nonneg _,by have:=AGL (x ^^^ y);omega⟩]
theorem AAC(x:Int):Value.int .u64 (IntKind.u64.wrap x)=u64 (BitVec.ofInt 64 x):=by
 unfold u64
 congr 1
 rw[IntKind.wrap_u64,BitVec.toNat_ofInt]
 omega
theorem AD6(x:BitVec 64):Value.int .u64 (IntKind.u64.wrap ((BitVec.ofInt 64 (x.toNat:Int) &&& BitVec.ofInt 64 1048575).toNat:Int))=.int .u64 ((x.toNat%1048576:Nat):Int):=by
 have h2:(x &&& BitVec.ofInt 64 1048575).toNat=x.toNat%1048576:=by
  show(x &&& 1048575#64).toNat=_
  rw[BitVec.toNat_and]
  exact Nat.and_two_pow_sub_one_eq_mod x.toNat 20
 have h3:x.toNat%1048576<1048576:=Nat.mod_lt _ (by decide)
 rw[Ny x,h2,wrap_u64 ⟨Int.natCast_nonneg _,by omega⟩]
theorem AAT(x:BitVec 64)(c:Nat):Value.int .u64 (IntKind.u64.wrap ((x.toNat:Int)*(c:Int)))=u64 (x*BitVec.ofNat 64 c):=by
 rw[AAC]
 congr 1
 rw[←Int.natCast_mul,BitVec.ofInt_natCast]
 apply BitVec.eq_of_toNat_eq
 simp[BitVec.toNat_mul]
theorem AHh(x:BitVec 64)(c:Nat):Value.int .u64 (IntKind.u64.wrap ((x.toNat:Int)+(c:Int)))=u64 (x+BitVec.ofNat 64 c):=by
 rw[AAC]
 congr 1
 rw[←Int.natCast_add,BitVec.ofInt_natCast]
 apply BitVec.eq_of_toNat_eq
 simp[BitVec.toNat_add]

def AFe(x:BitVec 64):BitVec 64 :=
 let a:=(x ^^^ (x >>> 30))*13787848793156543929#64
 let b:=(a ^^^ (a >>> 27))*10723151780598845931#64
 (b ^^^ (b >>> 31))*1#64

set_option maxRecDepth 4000 in
theorem ADp(x:BitVec 64)(w:World):FC Tryz.prog 276 [u64 x] w (Val (u64 (AFe x)) w):=by
 refine As Tryz.func276 rfl Tryz.ntmps276 rfl ?_
 have S:=Ax w
 refine Ac<|Aa rfl<|Ah rfl<|Ae<|Ab<|Ac<|Ac<|Aa rfl<|Ak (.as (v':=.agg #[.int .i64 30,.int .u64 13787848793156543929]) (.buildS Xv AFR rfl rfl) (by rfl))<|Ak (.as (v':=.agg #[.int .i64 27,.int .u64 10723151780598845931]) (.buildS Xv AFR rfl rfl) (by rfl))<|Ak (.as (v':=.agg #[.int .i64 31,.int .u64 1]) (.buildS Xv AFR rfl rfl) (by rfl))<|Ak (.as (v':=.agg #[.int .i64 30,.int .u64 13787848793156543929,.int .i64 27,.int .u64 10723151780598845931,.int .i64 31,.int .u64 1]) (.buildA AKs ADG rfl rfl) (by rfl))<|Af rfl<|Ae<|Ab<|Bh ?_;refine AE3 5<|Ac<|Aa rfl<|Bc rfl rfl rfl<|Ae<|Ab<|Ac<|Bm rfl<|Ao<|Ab<|Ac<|Bh<|Ac<|Aa rfl<|Ak (.as (v':=.agg #[.int .i64 30,.int .u64 13787848793156543929]) (.indexN ADG Xz rfl rfl (by decide)) (by rfl))<|Ay Xv rfl rfl (fun u t r s c q=>?_);have j:=S.le r;have S:=S.trans q;refine At Xz rfl rfl rfl c (fun w1 z1 c a1=>?_);have S:=S.upd a1 j;refine Ae<|Ab<|Ev rfl mxo (by kernel_rfl)<|Cf rfl<|Cf rfl<|Aw (.field0 AAb rfl)<|Aw (.load1 sh3 rfl (c.cell rfl))<|Aw (.as (v':=_) (.shr rfl rfl (by decide)) (by exact AAS _ 30 (by decide))) ?_;refine Aw (.as (v':=_) (.bin rfl rfl rfl) (by exact AAR _ _)) ?_;refine Aw (.field0 AAa rfl)<|Aw (.load1 AJU rfl (c.cell rfl))<|Aw (.as (v':=_) (.bin rfl rfl rfl) (by exact AAT _ 13787848793156543929)) ?_;refine Aw (.assign rfl)<|Dq (fun w2 s3=>Ab ?_);have S:=S.trans s3;refine Aa rfl<|Bc rfl rfl rfl<|Af rfl<|Ae<|Vx<|Ac<|Aa rfl<|Bc rfl rfl rfl<|Ae<|Ab<|Ac<|Bm rfl<|Ao<|Ab<|Ac<|Bh ?_;refine Ac<|Aa rfl<|Ak (.as (v':=.agg #[.int .i64 27,.int .u64 10723151780598845931]) (.indexN ADG Xz rfl rfl (by decide)) (by rfl))<|Ay Xv rfl rfl (fun p n i l b g=>?_);have e:=S.le i;have S:=S.trans g;refine At Xz rfl rfl rfl b (fun w4 z4 b a4=>?_);have S:=S.upd a4 e;refine Ae<|Ab<|Ev rfl mxo (by kernel_rfl)<|Cf rfl<|Cf rfl<|Aw (.field0 AAb rfl)<|Aw (.load1 sh3 rfl (b.cell rfl))<|Aw (.as (v':=_) (.shr rfl rfl (by decide)) (by exact AAS _ 27 (by decide))) ?_;refine Aw (.as (v':=_) (.bin rfl rfl rfl) (by exact AAR _ _)) ?_;refine Aw (.field0 AAa rfl)<|Aw (.load1 AJU rfl (b.cell rfl))<|Aw (.as (v':=_) (.bin rfl rfl rfl) (by exact AAT _ 10723151780598845931)) ?_;refine Aw (.assign rfl)<|Dq (fun w5 s6=>Ab ?_);have S:=S.trans s6;refine Aa rfl<|Bc rfl rfl rfl<|Af rfl<|Ae<|Vx<|Ac<|Aa rfl<|Bc rfl rfl rfl<|Ae<|Ab<|Ac<|Bm rfl<|Ao<|Ab<|Ac<|Bh ?_;refine Ac<|Aa rfl<|Ak (.as (v':=.agg #[.int .i64 31,.int .u64 1]) (.indexN ADG Xz rfl rfl (by decide)) (by rfl))<|Ay Xv rfl rfl (fun o m h k a f=>?_);have d:=S.le h;have S:=S.trans f;refine At Xz rfl rfl rfl a (fun w7 z7 a a7=>?_);have S:=S.upd a7 d;refine Ae<|Ab<|Ev rfl mxo (by kernel_rfl)<|Cf rfl<|Cf rfl<|Aw (.field0 AAb rfl)<|Aw (.load1 sh3 rfl (a.cell rfl))<|Aw (.as (v':=_) (.shr rfl rfl (by decide)) (by exact AAS _ 31 (by decide))) ?_;refine Aw (.as (v':=_) (.bin rfl rfl rfl) (by exact AAR _ _)) ?_;refine Aw (.field0 AAa rfl)<|Aw (.load1 AJU rfl (a.cell rfl))<|Aw (.as (v':=_) (.bin rfl rfl rfl) (by exact AAT _ 1)) ?_;refine Aw (.assign rfl)<|Dq (fun w8 s9=>Ab ?_);have S:=S.trans s9;refine Aa rfl<|Bc rfl rfl rfl<|Af rfl<|Ae<|Vx<|Ac<|Aa rfl<|Bc rfl rfl rfl<|Ae (Ab ?_)
 refine Ac<|Bw rfl<|Co rfl<|Ab<|Ac<|Aa rfl<|Af rfl<|Ah rfl<|Ae<|Ab<|Bb 2 rfl rfl rfl ?_
 exact⟨rfl,S⟩

def Sb(k:Int):BitVec 64:=AFe (BitVec.ofInt 64 k+7#64)
def Gm(k:Int):Nat:=(Sb k).toNat%1048576
theorem AEa(k:Int):Gm k<1048576:=Nat.mod_lt _ (by decide)
def Hh(a b:Int):Bool:=decide ((Sb a).toNat<(Sb b).toNat∨(Sb a).toNat=(Sb b).toNat∧a<b)

theorem ACQ(k:Int)(w:World):FC Tryz.prog 240 [.int .i64 k] w (Val (u64 (Sb k)) w):=by
 refine As Tryz.func240 rfl Tryz.ntmps240 rfl ?_
 have S:=Ax w
 refine Ac<|Aa rfl<|Ah rfl<|Ae<|Ab<|Ac<|Aa rfl<|Af rfl<|Ak (.as (v':=_) (.conv i2 i30 rfl) (by exact AAC _)) ?_;refine Ak (.as (v':=_) (.bin rfl rfl rfl) (by exact AHh _ 7)) ?_;refine Az rfl AIp (ADp _ w) ?_;rintro _ w1 ⟨rfl,s2⟩;have S:=S.trans s2;refine Ah rfl<|Ae<|Ab<|Bb 2 rfl rfl rfl ?_
 exact⟨rfl,S⟩
theorem AKB(k:Int)(w:World):FC Tryz.prog 183 [.int .i64 k] w (Val (.int .i64 (Gm k)) w):=by
 refine As Tryz.func183 rfl Tryz.ntmps183 rfl ?_
 have S:=Ax w
 have hlt:=AEa k
 refine Ac<|Aa rfl<|Ah rfl<|Ae<|Ab<|Ac<|Aa rfl<|Af rfl<|Az rfl AFW (ACQ _ w) ?_;rintro _ w1 ⟨rfl,s2⟩;have S:=S.trans s2;refine Ak (.as (v':=.int .u64 (Gm k:Int)) (.bin rfl rfl rfl) (by exact AD6 _))<|Ak (.as (.conv i30 i3 rfl) (Cs (y:=(Gm k:Int)) (by rfl) (by omega))) ?_;refine Ah rfl<|Ae<|Ab<|Bb 2 rfl rfl rfl ?_
 exact⟨rfl,S⟩
theorem Rm(a b:Int)(w:World):FC Tryz.prog 195 [.int .i64 a,.int .i64 b] w (Val (.bool (Hh a b)) w):=by
 refine As Tryz.func195 rfl Tryz.ntmps195 rfl ?_
 have S:=Ax w
 refine Ac<|Aa rfl<|Ah rfl<|Ae<|Ab<|Ac<|Aa rfl<|Af rfl<|Az rfl AFW (ACQ _ w) ?_;rintro _ w1 ⟨rfl,s2⟩;have S:=S.trans s2;refine Af rfl<|Az rfl AFW (ACQ _ w1) ?_;rintro _ w3 ⟨rfl,s4⟩;have S:=S.trans s4;refine Ah rfl<|Ah rfl<|Ae<|Ab<|Ac<|Aa rfl<|Af rfl<|Af rfl<|Bc rfl rfl rfl<|Af rfl<|Bn 14 rfl (fun h5=>?_) (fun h5=>?_)
 ·
  refine Bd 8 rfl<|Br rfl rfl<|Ah rfl<|Ae<|Ab<|Bb 4 rfl rfl rfl ?_
  exact⟨by rw[Hh,decide_eq_true (.inl (by omega))];rfl,S⟩
 ·
  refine Af rfl<|Af rfl<|Bc rfl rfl rfl<|Af rfl<|Bn 18 rfl (fun h6=>?_) (fun h6=>?_)
  ·
   refine Af rfl<|Af rfl<|Bc rfl rfl rfl<|Br rfl rfl<|Bq rfl rfl<|Ah rfl<|Ae<|Ab<|Bb 4 rfl rfl rfl ?_
   refine⟨?_,S⟩
   show Value.bool _=_
   congr 1
   rw[Hh,decide_eq_decide]
   constructor
   ·exact fun h=>.inr ⟨by omega,h⟩
   ·exact fun h=>h.elim (fun h=>absurd h (by omega)) (·.2)
  ·
   refine Bd 3 rfl<|Bq rfl rfl<|Bq rfl rfl<|Ah rfl<|Ae<|Ab<|Bb 4 rfl rfl rfl ?_
   refine⟨?_,S⟩
   show Value.bool _=_
   congr 1
   exact(decide_eq_false (by omega)).symm
def AFq(l r:Int):Bool:=decide ((AFe (BitVec.ofInt 64 (l*1048576+r))).toNat%(l+r).toNat<l.toNat)
def Ui(l r:Int):Prop:=1≤l∧l≤1073741824∧1≤r∧r≤1073741824
theorem AGZ(n:Nat)(l m:Int)(hl:1≤l)(hm:1≤m):(n:Int).tmod m<l↔n%m.toNat<l.toNat:=by
 rw[Int.tmod_eq_emod_of_nonneg (Int.natCast_nonneg _)]
 obtain⟨k,rfl⟩:=Int.eq_ofNat_of_zero_le (show 0≤m by omega)
 rw[Int.toNat_natCast,←Int.natCast_emod]
 omega
theorem AJ8(a b:Int)(h:Ui a b)(w:World):FC Tryz.prog 252 [.int .i64 a,.int .i64 b] w (Val (.tuple #[.bool (AFq a b),.int .i64 0]) w):=by
 unfold Ui at h
 refine As Tryz.func252 rfl Tryz.ntmps252 rfl ?_
 have S:=Ax w
 refine Ac<|Aa rfl<|Ah rfl<|Ah rfl<|Ae<|Ab<|Ac<|Ac<|Aa rfl<|Af rfl<|Bc rfl rfl rfl<|Af rfl<|Bn 9 rfl (fun h1=>?_) (fun h1=>?_)
 ·
  exact absurd h (by omega)
 ·
  refine Af rfl<|Bc rfl rfl rfl<|Bq rfl rfl<|Af rfl<|Bn 13 rfl (fun h2=>?_) (fun h2=>?_)
  ·
   exact absurd h (by omega)
  ·
   refine Af rfl<|Bc rfl rfl rfl<|Bq rfl rfl<|Af rfl<|Bn 17 rfl (fun h3=>?_) (fun h3=>?_)
   ·
    exact absurd h (by omega)
   ·
    refine Af rfl<|Bc rfl rfl rfl<|Bq rfl rfl<|Ae<|Ab<|An rfl (fun h4=>?_) (fun h4=>?_)
    ·
     exact absurd h (by omega)
    ·
     refine Ao<|Ab<|Ac<|Aa rfl<|Af rfl<|Ak (.as (.conv i2 i30 rfl) (AAt (y:=a) (by rfl) (by omega))) ?_;refine Ak (.as (.bin rfl rfl rfl) (AAt (y:=a*1048576) (by rfl) (by omega))) ?_;refine Af rfl<|Ak (.as (.conv i2 i30 rfl) (AAt (y:=b) (by rfl) (by omega))) ?_;refine Ak (.as (v':=u64 (BitVec.ofInt 64 (a*1048576+b))) (.bin rfl rfl rfl) (by exact AAC _))<|Az rfl AIp (ADp _ w) ?_;rintro _ w5 ⟨rfl,s6⟩;have S:=S.trans s6;refine Ah rfl<|Ae<|Ab<|Ac<|Aa rfl<|Af rfl<|Af rfl<|Af rfl<|Ak (.as (.bin rfl rfl rfl) (Cs (y:=a+b) (by rfl) (by omega)))<|Ak (.as (.conv i2 i30 rfl) (AAt (y:=a+b) (by rfl) (by omega))) ?_;refine Ak (.rem rfl rfl (by omega))<|Af rfl<|Ak (.as (.conv i2 i30 rfl) (AAt (y:=a) (by rfl) (by omega))) ?_;refine Bc rfl rfl rfl<|Ah rfl<|Ah rfl<|Ae<|Ab<|Bo (rs:=[.tmp 4,.tmp 5]) (vs:=[_,_]) rfl rfl ⟨rfl,rfl,trivial⟩ ?_
     refine⟨?_,S⟩
     show Value.tuple #[.bool _,_]=_
     rw[AFq]
     congr 3
     exact congrArg Value.bool (decide_eq_decide.2 (AGZ _ _ _ h.1 (by omega)))

theorem Xd{a b c:Int}(h1:Hh a b=true)(h2:Hh b c=true):Hh a c=true:=by
 unfold Hh at *
 rw[decide_eq_true_iff] at *
 omega
structure It where
 k:Int
 v:Int
 deriving DecidableEq
def It.cells(x:It):List Value:=[.int .i64 x.k,.int .i64 x.v]
def It.val(x:It):Value:=.agg x.cells.toArray
def It.ok(x:It):Prop:=I64 x.k∧I64 x.v
def it0:It:=⟨0,0⟩
def Srt(l:List It):Prop:=l.Pairwise (fun x y=>x.k<y.k)
theorem Srt.split{L R:List It}{it:It}(h:Srt (L++it::R)):Srt L∧Srt R∧(∀y∈L,y.k<it.k)∧(∀y∈R,it.k<y.k):=by
 unfold Srt at *
 rw[List.pairwise_append,List.pairwise_cons] at h
 exact⟨h.1,h.2.1.2,fun y hy=>h.2.2 y hy it (by simp),h.2.1.1⟩
theorem AHP{L R:List It}{it:It}(h1:Srt L)(h2:Srt R)(h3:∀y∈L,y.k<it.k)(h4:∀y∈R,it.k<y.k):Srt (L++it::R):=by
 unfold Srt at *
 rw[List.pairwise_append,List.pairwise_cons]
 refine⟨h1,⟨h4,h2⟩,fun x hx y hy=>?_⟩
 rcases List.mem_cons.1 hy with e|hy
 ·rw[e];exact h3 x hx
 ·have:=h3 x hx;have:=h4 y hy;omega

def kAt(l:List It)(i:Nat):Int:=(l.getD i it0).k
def AC0(l:List It):Nat→Int
 |0 => -1
 |i+1=>if AC0 l i<0∨Hh (kAt l i) (kAt l (AC0 l i).toNat)=true then i else AC0 l i
def Xj(l:List It):Int:=AC0 l l.length
def Pm(g k v s a b:Int):Node:=⟨1,g,k,v,s,a,b,0,0,0,0,0,0,0,0,0⟩
inductive IsT (A:Ar):Int→List It→Prop
 |nil:IsT A 0 []
 |node {r g a b:Int} {it:It} {L R:List It}:Ch A r=some (Pm g it.k it.v ((L.length:Int)+R.length+1) a b)→IsT A a L→IsT A b R→(∀y∈L++R,Hh it.k y.k=true)→Srt (L++it::R)→IsT A r (L++it::R)
theorem Jp(A:Ar):Ch A 0=none:=Rj (.inl (by decide))
theorem IsT.srt{A:Ar}{r:Int}{l:List It}(h:IsT A r l):Srt l:=by
 cases h with
 |nil=>exact List.Pairwise.nil
 |node _ _ _ _ h=>exact h
theorem IsT.ne{A:Ar}{r:Int}{l:List It}(h:IsT A r l)(hr:¬r=0):∃g a b it L R,l=L++it::R∧Ch A r=some (Pm g it.k it.v ((L.length:Int)+R.length+1) a b)∧IsT A a L∧IsT A b R∧(∀y∈L++R,Hh it.k y.k=true)∧Srt (L++it::R):=by
 cases h with
 |nil=>exact absurd rfl hr
 |node h1 h2 h3 h4 h5=>exact⟨_,_,_,_,_,_,rfl,h1,h2,h3,h4,h5⟩
theorem IsT.size{A:Ar}{r:Int}{l:List It}(h:IsT A r l):(Ch A r=none→l.length=0)∧∀x,Ch A r=some x→x.s=l.length:=by
 cases h with
 |nil=>exact⟨fun _=>rfl,fun x h=>(by rw[Jp] at h;cases h)⟩
 |node h1=>exact⟨fun h=>(by rw[h1] at h;cases h),fun x h=>(by rw[h1] at h;cases h;simp[Pm];omega)⟩

def Ut(A:Ar):Nat→Int→Int→List It
 |0,_,_=>[]
 |k+1,r,most=>match Ch A r with
  |none=>[]
  |some x=>if most≤0 then[] else Ut A k x.k0 (most-1)++⟨x.n,x.v⟩::Ut A k x.k1 (most-((Ut A k x.k0 (most-1)).length+1))
theorem AHn{A:Ar}{k:Nat}{r most:Int}(h:Ch A r=none∨most≤0):Ut A (k+1) r most=[]:=by
 rw[Ut]
 split
 ·rfl
 ·rename_i x hx
  rw[if_pos (h.resolve_left (by rw[hx];intro e;cases e))]
theorem AGV{A:Ar}{k:Nat}{r most:Int}{x:Node}(h:Ch A r=some x)(hm:¬most≤0):Ut A (k+1) r most=Ut A k x.k0 (most-1)++⟨x.n,x.v⟩::Ut A k x.k1 (most-((Ut A k x.k0 (most-1)).length+1)):=by
 rw[Ut,h];exact if_neg hm
theorem AA9{A:Ar}{r:Int}{l:List It}(h:IsT A r l):∀(k:Nat) (most:Int),(l.length:Int)≤most→most<k→Ut A k r most=l:=by
 induction h with
 |nil=>intro k most h1 h2;cases k with
  |zero=>rfl
  |succ k=>exact AHn (.inl (Jp A))
 | @node r g a b it L R h1 h2 h3 h4 h5 ih1 ih2 =>
  intro k most hl hk
  simp only[Ag,Al] at hl
  cases k with
  |zero=>omega
  |succ k =>
   rw[AGV h1 (by omega)]
   have e1:=ih1 k (most-1) (by omega) (by omega)
   simp only[Pm]
   rw[e1,ih2 k (most-((L.length:Int)+1)) (by omega) (by omega)]
theorem IsT.unique{A:Ar}{r:Int}{l m:List It}(h:IsT A r l)(h2:IsT A r m):l=m:=by
 have h1:=AA9 h ((l.length+m.length)+1) ((l.length+m.length:Nat):Int) (by omega) (by omega)
 rw[AA9 h2 ((l.length+m.length)+1) ((l.length+m.length:Nat):Int) (by omega) (by omega)] at h1
 exact h1.symm

structure Bnd where
 low:Int
 high:Int
 hasLow:Bool
 hasHigh:Bool
 above:Int
 hasAbove:Bool
def Bnd.cells(b:Bnd):List Value:=[.int .i64 b.low,.int .i64 b.high,.bool b.hasLow,.bool b.hasHigh,.int .i64 b.above,.bool b.hasAbove]
def AAB:Bnd:=⟨0,0,false,false,0,false⟩
def Bnd.bad(b:Bnd)(n:Int):Prop:=b.hasLow=true∧n≤b.low∨b.hasHigh=true∧b.high≤n∨b.hasAbove=true∧Hh b.above n=false
instance (b:Bnd) (n:Int):Decidable (b.bad n):=inferInstanceAs (Decidable (_∨_))
def Bnd.below(b:Bnd)(n:Int):Bnd:={b with above:=n,hasAbove:=true}
def Bnd.lo(b:Bnd)(n:Int):Bnd:={b with above:=n,hasAbove:=true,high:=n,hasHigh:=true}
def Bnd.hi(b:Bnd)(n:Int):Bnd:={b with above:=n,hasAbove:=true,low:=n,hasLow:=true}
def Nk(x:Node):Node:=Pm x.gen x.n x.v x.s x.k0 x.k1
def Ec(A:Ar):Nat→Int→Bnd→Int→Int
 |0,_,_,_ => -1
 |k+1,r,b,left=>if r=0 then 0 else match Ch A r with
  |none => -1
  |some x=>if left=0∨¬x.kind=1∨b.bad x.n then -1 else
   if Ec A k x.k0 (b.lo x.n) (left-1)<0∨¬Nk x=x then -1 else
   if Ec A k x.k1 (b.hi x.n) (left-1-Ec A k x.k0 (b.lo x.n) (left-1))<0∨¬Ec A k x.k0 (b.lo x.n) (left-1)+Ec A k x.k1 (b.hi x.n) (left-1-Ec A k x.k0 (b.lo x.n) (left-1))+1=x.s then -1 else
   Ec A k x.k0 (b.lo x.n) (left-1)+Ec A k x.k1 (b.hi x.n) (left-1-Ec A k x.k0 (b.lo x.n) (left-1))+1
section
variable {A:Ar} {k:Nat} {r left p q:Int} {b:Bnd} {x:Node}
theorem AAI:Ec A (k+1) 0 b left=0:=by rw[Ec];exact if_pos rfl
theorem Su(hr:¬r=0)(h:Ch A r=none):Ec A (k+1) r b left = -1:=by rw[Ec,if_neg hr,h]
theorem Hb(hr:¬r=0)(h:Ch A r=some x)(hb:left=0∨¬x.kind=1∨b.bad x.n):Ec A (k+1) r b left = -1:=by rw[Ec,if_neg hr,h];exact if_pos hb
theorem Oz(hr:¬r=0)(h:Ch A r=some x)(hb:¬(left=0∨¬x.kind=1∨b.bad x.n))(hp:Ec A k x.k0 (b.lo x.n) (left-1)<0∨¬Nk x=x):Ec A (k+1) r b left = -1:=by
 rw[Ec,if_neg hr,h];simp only[];rw[if_neg hb,if_pos hp]
theorem Mn(hr:¬r=0)(h:Ch A r=some x)(hb:¬(left=0∨¬x.kind=1∨b.bad x.n))(ep:Ec A k x.k0 (b.lo x.n) (left-1)=p)(hp:¬(p<0∨¬Nk x=x))(eq:Ec A k x.k1 (b.hi x.n) (left-1-p)=q)(hq:q<0∨¬p+q+1=x.s):Ec A (k+1) r b left = -1:=by
 rw[Ec,if_neg hr,h];simp only[];rw[if_neg hb,ep,eq,if_neg hp,if_pos hq]
theorem Rg(hr:¬r=0)(h:Ch A r=some x)(hb:¬(left=0∨¬x.kind=1∨b.bad x.n))(ep:Ec A k x.k0 (b.lo x.n) (left-1)=p)(hp:¬(p<0∨¬Nk x=x))(eq:Ec A k x.k1 (b.hi x.n) (left-1-p)=q)(hq:¬(q<0∨¬p+q+1=x.s)):Ec A (k+1) r b left=p+q+1:=by
 rw[Ec,if_neg hr,h];simp only[];rw[if_neg hb,ep,eq,if_neg hp,if_neg hq]
end
theorem Od(A:Ar):∀(k:Nat) (r:Int) (b:Bnd) (left:Int),0≤left→Ec A k r b left≤left ∧ -1≤Ec A k r b left
 |0,_,_,_,h=>by rw[Ec];omega
 |k+1,r,b,left,h=>by
  by_cases hr:r=0
  ·rw[hr,AAI];omega
  cases hg:Ch A r with
  |none=>rw[Su hr hg];omega
  |some x =>
   by_cases hb:left=0∨¬x.kind=1∨b.bad x.n
   ·rw[Hb hr hg hb];omega
   have hl:0≤left-1:=by have:¬left=0:=fun e=>hb (.inl e);omega
   have h1:=Od A k x.k0 (b.lo x.n) (left-1) hl
   by_cases hp:Ec A k x.k0 (b.lo x.n) (left-1)<0∨¬Nk x=x
   ·rw[Oz hr hg hb hp];omega
   have h2:=Od A k x.k1 (b.hi x.n) (left-1-Ec A k x.k0 (b.lo x.n) (left-1)) (by omega)
   by_cases hq:Ec A k x.k1 (b.hi x.n) (left-1-Ec A k x.k0 (b.lo x.n) (left-1))<0∨¬Ec A k x.k0 (b.lo x.n) (left-1)+Ec A k x.k1 (b.hi x.n) (left-1-Ec A k x.k0 (b.lo x.n) (left-1))+1=x.s
   ·rw[Mn hr hg hb rfl hp rfl hq];omega
   ·rw[Rg hr hg hb rfl hp rfl hq]
    have hp0:¬Ec A k x.k0 (b.lo x.n) (left-1)<0:=fun e=>hp (.inl e)
    have hq0:¬Ec A k x.k1 (b.hi x.n) (left-1-Ec A k x.k0 (b.lo x.n) (left-1))<0:=fun e=>hq (.inl e)
    omega
def Bnd.holds(b:Bnd)(n:Int):Prop:=(b.hasLow=true→b.low<n)∧(b.hasHigh=true→n<b.high)∧(b.hasAbove=true→Hh b.above n=true)
theorem Za{b:Bnd}{n:Int}:b.holds n↔¬b.bad n:=by
 unfold Bnd.holds Bnd.bad
 constructor
 ·rintro⟨h1,h2,h3⟩ (⟨e1,e2⟩|⟨e1,e2⟩|⟨e1,e2⟩)
  ·have:=h1 e1;omega
  ·have:=h2 e1;omega
  ·rw[h3 e1] at e2;cases e2
 ·intro h
  refine⟨fun e=>?_,fun e=>?_,fun e=>?_⟩
  ·exact Int.not_le.1 fun h2=>h (.inl ⟨e,h2⟩)
  ·exact Int.not_le.1 fun h2=>h (.inr (.inl ⟨e,h2⟩))
  ·cases h2:Hh b.above n with
   |true=>rfl
   |false=>exact absurd (.inr (.inr ⟨e,h2⟩)) h
theorem Sr(A:Ar):∀(k:Nat) (r:Int) (b:Bnd) (left:Int),0≤left→left<k→0≤Ec A k r b left→∃l,IsT A r l∧(l.length:Int)=Ec A k r b left∧∀y∈l,b.holds y.k
 |0,_,_,_,_,h,_=>absurd h (by omega)
 |k+1,r,b,left,h0,hk,hm=>by
  by_cases hr:r=0
  ·rw[hr,AAI];exact⟨[],.nil,rfl,by simp⟩
  cases hg:Ch A r with
  |none=>rw[Su hr hg] at hm;omega
  |some x =>
   by_cases hb:left=0∨¬x.kind=1∨b.bad x.n
   ·rw[Hb hr hg hb] at hm;omega
   have hl:0≤left-1:=by have:¬left=0:=fun e=>hb (.inl e);omega
   by_cases hp:Ec A k x.k0 (b.lo x.n) (left-1)<0∨¬Nk x=x
   ·rw[Oz hr hg hb hp] at hm;omega
   have h1:=Od A k x.k0 (b.lo x.n) (left-1) hl
   by_cases hq:Ec A k x.k1 (b.hi x.n) (left-1-Ec A k x.k0 (b.lo x.n) (left-1))<0∨¬Ec A k x.k0 (b.lo x.n) (left-1)+Ec A k x.k1 (b.hi x.n) (left-1-Ec A k x.k0 (b.lo x.n) (left-1))+1=x.s
   ·rw[Mn hr hg hb rfl hp rfl hq] at hm;omega
   rw[Rg hr hg hb rfl hp rfl hq]
   have hp0:¬Ec A k x.k0 (b.lo x.n) (left-1)<0:=fun e=>hp (.inl e)
   have hq0:¬Ec A k x.k1 (b.hi x.n) (left-1-Ec A k x.k0 (b.lo x.n) (left-1))<0:=fun e=>hq (.inl e)
   obtain⟨L,hL,eL,bL⟩:=Sr A k x.k0 (b.lo x.n) (left-1) hl (by omega) (by omega)
   obtain⟨R,hR,eR,bR⟩:=Sr A k x.k1 (b.hi x.n) (left-1-Ec A k x.k0 (b.lo x.n) (left-1)) (by omega) (by omega) (by omega)
   have hbx:b.holds x.n:=Za.2 fun e=>hb (.inr (.inr e))
   have hsz:Ec A k x.k0 (b.lo x.n) (left-1)+Ec A k x.k1 (b.hi x.n) (left-1-Ec A k x.k0 (b.lo x.n) (left-1))+1=x.s:=Decidable.not_not.1 fun e=>hq (.inr e)
   have hbare:Nk x=x:=Decidable.not_not.1 fun e=>hp (.inr e)
   refine⟨L++⟨x.n,x.v⟩::R,.node (g:=x.gen) (a:=x.k0) (b:=x.k1) ?_ hL hR (fun y hy=>?_) (AHP hL.srt hR.srt (fun y hy=>?_) (fun y hy=>?_)),?_,fun y hy=>?_⟩
   ·rw[hg,show(L.length:Int)+R.length+1=x.s by omega];exact congrArg some hbare.symm
   ·rcases List.mem_append.1 hy with hy|hy
    ·exact(bL y hy).2.2 rfl
    ·exact(bR y hy).2.2 rfl
   ·exact(bL y hy).2.1 rfl
   ·exact(bR y hy).1 rfl
   ·simp only[Ag,Al];omega
   ·rcases List.mem_append.1 hy with hy|hy
    ·have h3:=bL y hy
     exact⟨h3.1,fun e=>by have:=h3.2.1 rfl;have h4:=hbx.2.1 e;simp only[Bnd.lo] at this;omega,fun e=>Xd (hbx.2.2 e) (h3.2.2 rfl)⟩
    ·rcases List.mem_cons.1 hy with e|hy
     ·rw[e];exact hbx
     ·have h3:=bR y hy
      exact⟨fun e=>by have:=h3.1 rfl;have h4:=hbx.1 e;simp only[Bnd.hi] at this;omega,h3.2.1,fun e=>Xd (hbx.2.2 e) (h3.2.2 rfl)⟩
theorem AAm{A:Ar}{r:Int}{l:List It}(h:IsT A r l):∀(k:Nat) (b:Bnd) (left:Int),(l.length:Int)≤left→left<k→(∀y∈l,b.holds y.k)→Ec A k r b left=l.length:=by
 induction h with
 |nil=>intro k b left h1 h2 _;cases k with
  |zero=>omega
  |succ k=>exact AAI
 | @node r g a b' it L R h1 h2 h3 h4 h5 ih1 ih2 =>
  intro k b left hl hk hb
  simp only[Ag,Al] at hl ⊢
  cases k with
  |zero=>omega
  |succ k =>
   have hr:¬r=0:=fun e=>by rw[e,Jp] at h1;cases h1
   have hsp:=h5.split
   have hit:b.holds it.k:=hb it (by simp)
   have hnb:¬(left=0∨¬(Pm g it.k it.v ((L.length:Int)+R.length+1) a b').kind=1∨b.bad (Pm g it.k it.v ((L.length:Int)+R.length+1) a b').n):=by
    rintro(e|e|e)
    ·omega
    ·exact e rfl
    ·exact Za.1 hit e
   have e1:Ec A k a (b.lo it.k) (left-1)=L.length:=ih1 k _ _ (by omega) (by omega) (fun y hy=>by
    have:=hb y (by simp[hy])
    exact⟨this.1,fun _=>hsp.2.2.1 y hy,fun _=>h4 y (List.mem_append_left _ hy)⟩)
   have e2:Ec A k b' (b.hi it.k) (left-1-L.length)=R.length:=ih2 k _ _ (by omega) (by omega) (fun y hy=>by
    have:=hb y (by simp[hy])
    exact⟨fun _=>hsp.2.2.2 y hy,this.2.1,fun _=>h4 y (List.mem_append_right _ hy)⟩)
   rw[Rg hr h1 hnb e1 (by rintro(e|e);omega;exact e rfl) e2 (by rintro(e|e);omega;exact e rfl)]
   omega
theorem ACt(n:Int):AAB.holds n:=⟨fun h=>(by cases h),fun h=>(by cases h),fun h=>(by cases h)⟩
def isMap(A:Ar)(r:Int):Prop:=AOk A∧∃l,IsT A r l∧l.length≤200
theorem Yy{A:Ar}{r:Int}(hA:AOk A):0≤Ec A 201 r AAB 200↔isMap A r:=by
 constructor
 ·intro h
  obtain⟨l,h1,h2,_⟩:=Sr A 201 r AAB 200 (by decide) (by decide) h
  have:=(Od A 201 r AAB 200 (by decide)).1
  exact⟨hA,l,h1,by omega⟩
 ·rintro⟨_,l,h1,h2⟩
  rw[AAm h1 201 AAB 200 (by omega) (by decide) (fun y _=>ACt _)]
  omega
noncomputable def isMapB (A:Ar) (r:Int):Bool:=@decide (isMap A r) (Classical.propDecidable _)
theorem Ic(A:Ar)(r:Int):isMapB A r=true↔isMap A r:=by unfold isMapB;exact @decide_eq_true_iff _ (Classical.propDecidable _)
theorem Qk{A:Ar}{r:Int}(h:isMap A r):isMapB A r=true:=(Ic A r).2 h
theorem AEX{A:Ar}{r:Int}(h:¬isMap A r):isMapB A r=false:=by rw[Bool.eq_false_iff];exact fun e=>h ((Ic A r).1 e)
def frC(na fa:Option Addr)(nc fc:Nat)(A:Ar)(bad:Int):List Value:=[.slice na A.nodes.length nc,.slice fa A.free.length fc,.int .i64 bad]
def Vd(y:Node)(a b:Int):Node:=⟨y.kind,y.gen,y.n,y.v,y.s,a,b,0,0,0,0,0,0,0,0,0⟩
theorem Zt{y:Node}(h:y.kind=1):Vd y y.k0 y.k1=y↔Nk y=y:=by
 unfold Vd Nk Pm;rw[h]
theorem AHl{w:World}{b:Nat}{xs ys:List Value}{e:TypeId}(h:Has w b (xs++ys) e):Row w ⟨b,0,none⟩ xs:=fun i v hv=>h.row i v (by rw[List.getElem?_append_left (Cc hv)];exact hv)
def frA(na fa:Option Addr)(nc fc:Nat)(A:Ar):List Value:=[.slice na A.nodes.length nc,.slice fa A.free.length fc]
set_option maxHeartbeats 4000000 in
theorem AMD(A:Ar)(na fa:Option Addr)(nc fc:Nat)(bad:Int)(bf:Nat):∀(k:Nat) (r:Int) (b:Bnd) (left:Int) (w:World),U64 r→0≤left→left<k→left≤200→Has w bf (frC na fa nc fc A bad) 130→ArR w na fa A →
  FC Tryz.prog 188 [.pointer (some ⟨bf,0,none⟩),.int .u64 r,.agg b.cells.toArray,.int .i64 left] w (Val (.int .i64 (Ec A k r b left)) w):=by
 intro k
 induction k with
 |zero=>intro r b left w _ h1 h2;omega
 |succ k ih =>
 intro r b left w hr hl0 hlk hl hbf hA
 obtain⟨y,e,hgv,hgs,hgn⟩:=Mq A r
 refine As Tryz.func188 rfl Tryz.ntmps188 rfl ?_
 have S:=Ax w
 refine Ac<|Aa rfl<|Bu rfl rfl rfl (fun ad an ay aw f ao=>?_);have S:=S.trans ao;have hbf:=hbf.sub ao
 have f:Has an ad (b.cells) _:=f
 refine Ah rfl<|Ae<|Ab<|Ac<|Ac<|Aa rfl<|Af rfl<|Bc rfl rfl rfl<|Ae<|Ab<|An rfl (fun h1=>?_) (fun h1=>?_)
 ·
  have hres:Ec A (k+1) r b left=0:=(by rw[h1,AAI])
  refine Ac<|Aa rfl<|Ah rfl<|Ae<|Ab<|Bb 8 rfl rfl rfl ?_
  exact⟨congrArg (Value.int .i64) hres.symm,S⟩
 ·
  have hr0:=h1
  refine Ao<|Ab<|Ac<|Aa rfl<|Af rfl<|Ak (.nilCheck rfl)<|Av AH0 rfl<|Ak (.loadR ([.slice na A.nodes.length nc,.slice fa A.free.length fc]) Cb rfl (AHl (xs:=frA na fa nc fc A) (ys:=[.int .i64 bad]) hbf) rfl)<|Af rfl<|Az rfl Ll (Jc A na fa nc fc r hr an (hA.sub S)) ?_;rintro _ w2 ⟨rfl,s3⟩;have S:=S.trans s3;have hbf:=hbf.sub s3;have f:=f.sub s3;refine Ak (.as (v':=.tuple #[y.val,.int .i64 e]) (.move rfl) (by rw[hgv]))<|Bz rfl rfl<|Bz rfl rfl<|Ay Dx rfl rfl (fun aa ax am av c ak=>?_);have al:=S.le am;have ac:=hbf.ne am;have ab:=f.ne am;have S:=S.trans ak;have hbf:=hbf.sub ak;have f:=f.sub ak;refine At Ct rfl rfl rfl c (fun w4 z4 c a4=>?_);have S:=S.upd a4 al;have hbf:=hbf.upd a4 ac;have f:=f.upd a4 ab
  have c:Has w4 aa (y.cells) _:=c.now (by kernel_rfl)
  refine Ah rfl<|Ae<|Ab<|Hi (α:=Unit) (fun _=>[(0,.pointer (some ⟨bf,0,none⟩)),(3,.int .i64 left),(6,.pointer (some ⟨ad,0,none⟩)),(9,.pointer (some ⟨aa,0,none⟩))]) (fun _ w5=>Ch A r=some y∧(¬(left=0∨¬y.kind=1∨b.bad y.n))∧Has w5 bf (frC na fa nc fc A bad) 130∧Has w5 ad b.cells 272∧Has w5 aa y.cells 140∧Sub w w5) ?_ (fun _ w5 hJ=>?_)
  ·
   refine Ac<|Aa rfl<|Af rfl<|Bc rfl rfl rfl<|Af rfl<|Bn 30 rfl (fun h6=>?_) (fun h6=>?_)
   ·
    have hres:Ec A (k+1) r b left = -1:=(by cases hg:Ch A r with|none=>exact Su hr0 hg|some x=>exact absurd (hgs x hg).2 h6)
    refine Bd 2 rfl<|Br rfl rfl<|Af rfl<|Bd 3 rfl<|Br rfl rfl<|Af rfl<|Bd 9 rfl<|Br rfl rfl<|Af rfl<|Bd 9 rfl<|Br rfl rfl<|Af rfl<|Bd 10 rfl<|Br rfl rfl<|Ae (Ab ?_);refine Bm rfl<|Ac<|Aa rfl<|Ah rfl<|Ae<|Ab<|Bb 8 rfl rfl rfl ?_
    exact⟨congrArg (Value.int .i64) hres.symm,S⟩
   ·
    have hy:Ch A r=some y:=(by cases hg:Ch A r with|none=>have:=(hgn hg).2;omega|some x=>rw[(hgs x hg).1])
    refine Af rfl<|Bc rfl rfl rfl<|Bq rfl rfl<|Af rfl<|Bn 34 rfl (fun h7=>?_) (fun h7=>?_)
    ·
     have hres:=Hb (k:=k) (b:=b) hr0 hy (.inl h7)
     refine Bd 3 rfl<|Br rfl rfl<|Af rfl<|Bd 9 rfl<|Br rfl rfl<|Af rfl<|Bd 9 rfl<|Br rfl rfl<|Af rfl<|Bd 10 rfl<|Br rfl rfl<|Ae<|Ab<|Bm rfl<|Ac<|Aa rfl ?_;refine Ah rfl<|Ae<|Ab<|Bb 8 rfl rfl rfl ?_
     exact⟨congrArg (Value.int .i64) hres.symm,S⟩
    ·
     have p34:=h7
     refine Av Es rfl<|Ba sh3 rfl c rfl<|Bc rfl rfl rfl<|Bq rfl rfl<|Af rfl<|Bn 39 rfl (fun h8=>?_) (fun h8=>?_)
     ·
      have hres:=Hb (k:=k) (b:=b) (left:=left) hr0 hy (.inr (.inl h8))
      refine Bd 9 rfl<|Br rfl rfl<|Af rfl<|Bd 9 rfl<|Br rfl rfl<|Af rfl<|Bd 10 rfl<|Br rfl rfl<|Ae<|Ab<|Bm rfl<|Ac<|Aa rfl<|Ah rfl<|Ae (Ab ?_);refine Bb 8 rfl rfl rfl ?_
      exact⟨congrArg (Value.int .i64) hres.symm,S⟩
     ·
      have p39:=h8
      refine Av ADb rfl<|Ba sh4 rfl f rfl<|Af rfl<|Fo 42 rfl (fun h9=>?_) (fun h9=>?_)
      ·
       have qL:=h9
       refine Av Fl rfl<|Ba sh2 rfl c rfl<|Av ADc rfl<|Ba sh2 rfl f rfl<|Bc rfl rfl rfl<|Br rfl rfl<|Bq rfl rfl<|Af rfl<|Bn 50 rfl (fun h10=>?_) (fun h10=>?_)
       ·
        have hres:=Hb (k:=k) (b:=b) (left:=left) hr0 hy (.inr (.inr (.inl ⟨qL,h10⟩)))
        refine Bd 9 rfl<|Br rfl rfl<|Af rfl<|Bd 10 rfl<|Br rfl rfl<|Ae<|Ab<|Bm rfl<|Ac<|Aa rfl<|Ah rfl<|Ae<|Ab<|Bb 8 rfl rfl rfl ?_
        exact⟨congrArg (Value.int .i64) hres.symm,S⟩
       ·
        have pL:=h10
        refine Av AAc rfl<|Ba sh4 rfl f rfl<|Af rfl<|Fo 53 rfl (fun h11=>?_) (fun h11=>?_)
        ·
         have qH:=h11
         refine Av Fl rfl<|Ba sh2 rfl c rfl<|Av AAd rfl<|Ba sh2 rfl f rfl<|Bc rfl rfl rfl<|Br rfl rfl<|Bq rfl rfl<|Af rfl<|Bn 61 rfl (fun h12=>?_) (fun h12=>?_)
         ·
          have hres:=Hb (k:=k) (b:=b) (left:=left) hr0 hy (.inr (.inr (.inr (.inl ⟨qH,by omega⟩))))
          refine Bd 10 rfl<|Br rfl rfl<|Ae<|Ab<|Bm rfl<|Ac<|Aa rfl<|Ah rfl<|Ae<|Ab<|Bb 8 rfl rfl rfl ?_
          exact⟨congrArg (Value.int .i64) hres.symm,S⟩
         ·
          have pH:=h12
          refine Av Qw rfl<|Ba sh4 rfl f rfl<|Af rfl<|Fo 64 rfl (fun h13=>?_) (fun h13=>?_)
          ·
           have qA:=h13
           refine Av Qx rfl<|Ba sh2 rfl f rfl<|Av Fl rfl<|Ba sh2 rfl c rfl<|Az rfl AC7 (Rm b.above y.n w4) ?_;rintro _ w14 ⟨rfl,s15⟩;have S:=S.trans s15;have hbf:=hbf.sub s15;have f:=f.sub s15;have c:=c.sub s15;refine Ak (.not rfl)<|Br rfl rfl<|Bq rfl rfl<|Ae<|Ab<|Db rfl (fun h16=>?_) (fun h16=>?_)
           ·
            have hres:=Hb (k:=k) (b:=b) (left:=left) hr0 hy (.inr (.inr (.inr (.inr ⟨qA,by simpa using h16⟩))))
            refine Ac<|Aa rfl<|Ah rfl<|Ae<|Ab<|Bb 8 rfl rfl rfl ?_
            exact⟨congrArg (Value.int .i64) hres.symm,S⟩
           ·
            have pA:=h16
            exact Ao (fun a ka=>⟨(),⟨hy,by rintro(q|q|(q|q|q));exact p34 q;exact p39 q;(first|exact pL q.2|(rw[q.1] at qL;cases qL));(first|exact pH (by have:=q.2;omega)|(rw[q.1] at qH;cases qH));(first|(rw[q.1] at qA;cases qA;done)|(rw[q.2] at pA;cases pA;done)),hbf,f,c,S⟩,ka.keep (Bf (by repeat (first|exact trivial|refine And.intro rfl ?_)))⟩)
          ·
           have qA:=h13
           refine Bd 6 rfl<|Bq rfl rfl<|Bq rfl rfl<|Ae<|Ab<|Bw rfl ?_
           exact Ao (fun a ka=>⟨(),⟨hy,by rintro(q|q|(q|q|q));exact p34 q;exact p39 q;(first|exact pL q.2|(rw[q.1] at qL;cases qL));(first|exact pH (by have:=q.2;omega)|(rw[q.1] at qH;cases qH));(first|(rw[q.1] at qA;cases qA;done)|(rw[q.2] at pA;cases pA;done)),hbf,f,c,S⟩,ka.keep (Bf (by repeat (first|exact trivial|refine And.intro rfl ?_)))⟩)
        ·
         have qH:=h11
         refine Bd 5 rfl<|Bq rfl rfl<|Bq rfl rfl<|Af rfl<|Av Qw rfl<|Ba sh4 rfl f rfl<|Af rfl<|Fo 64 rfl (fun h17=>?_) (fun h17=>?_)
         ·
          have qA:=h17
          refine Av Qx rfl<|Ba sh2 rfl f rfl<|Av Fl rfl<|Ba sh2 rfl c rfl<|Az rfl AC7 (Rm b.above y.n w4) ?_;rintro _ w18 ⟨rfl,s19⟩;have S:=S.trans s19;have hbf:=hbf.sub s19;have f:=f.sub s19;have c:=c.sub s19;refine Ak (.not rfl)<|Br rfl rfl<|Bq rfl rfl<|Ae<|Ab<|Db rfl (fun h20=>?_) (fun h20=>?_)
          ·
           have hres:=Hb (k:=k) (b:=b) (left:=left) hr0 hy (.inr (.inr (.inr (.inr ⟨qA,by simpa using h20⟩))))
           refine Ac<|Aa rfl<|Ah rfl<|Ae<|Ab<|Bb 8 rfl rfl rfl ?_
           exact⟨congrArg (Value.int .i64) hres.symm,S⟩
          ·
           have pA:=h20
           exact Ao (fun a ka=>⟨(),⟨hy,by rintro(q|q|(q|q|q));exact p34 q;exact p39 q;(first|exact pL q.2|(rw[q.1] at qL;cases qL));(first|exact pH (by have:=q.2;omega)|(rw[q.1] at qH;cases qH));(first|(rw[q.1] at qA;cases qA;done)|(rw[q.2] at pA;cases pA;done)),hbf,f,c,S⟩,ka.keep (Bf (by repeat (first|exact trivial|refine And.intro rfl ?_)))⟩)
         ·
          have qA:=h17
          refine Bd 6 rfl<|Bq rfl rfl<|Bq rfl rfl<|Ae<|Ab<|Bw rfl ?_
          exact Ao (fun a ka=>⟨(),⟨hy,by rintro(q|q|(q|q|q));exact p34 q;exact p39 q;(first|exact pL q.2|(rw[q.1] at qL;cases qL));(first|exact pH (by have:=q.2;omega)|(rw[q.1] at qH;cases qH));(first|(rw[q.1] at qA;cases qA;done)|(rw[q.2] at pA;cases pA;done)),hbf,f,c,S⟩,ka.keep (Bf (by repeat (first|exact trivial|refine And.intro rfl ?_)))⟩)
      ·
       have qL:=h9
       refine Bd 5 rfl<|Bq rfl rfl<|Bq rfl rfl<|Af rfl<|Av AAc rfl<|Ba sh4 rfl f rfl<|Af rfl<|Fo 53 rfl (fun h21=>?_) (fun h21=>?_)
       ·
        have qH:=h21
        refine Av Fl rfl<|Ba sh2 rfl c rfl<|Av AAd rfl<|Ba sh2 rfl f rfl<|Bc rfl rfl rfl<|Br rfl rfl<|Bq rfl rfl<|Af rfl<|Bn 61 rfl (fun h22=>?_) (fun h22=>?_)
        ·
         have hres:=Hb (k:=k) (b:=b) (left:=left) hr0 hy (.inr (.inr (.inr (.inl ⟨qH,by omega⟩))))
         refine Bd 10 rfl<|Br rfl rfl<|Ae<|Ab<|Bm rfl<|Ac<|Aa rfl<|Ah rfl<|Ae<|Ab<|Bb 8 rfl rfl rfl ?_
         exact⟨congrArg (Value.int .i64) hres.symm,S⟩
        ·
         have pH:=h22
         refine Av Qw rfl<|Ba sh4 rfl f rfl<|Af rfl<|Fo 64 rfl (fun h23=>?_) (fun h23=>?_)
         ·
          have qA:=h23
          refine Av Qx rfl<|Ba sh2 rfl f rfl<|Av Fl rfl<|Ba sh2 rfl c rfl<|Az rfl AC7 (Rm b.above y.n w4) ?_;rintro _ w24 ⟨rfl,s25⟩;have S:=S.trans s25;have hbf:=hbf.sub s25;have f:=f.sub s25;have c:=c.sub s25;refine Ak (.not rfl)<|Br rfl rfl<|Bq rfl rfl<|Ae<|Ab<|Db rfl (fun h26=>?_) (fun h26=>?_)
          ·
           have hres:=Hb (k:=k) (b:=b) (left:=left) hr0 hy (.inr (.inr (.inr (.inr ⟨qA,by simpa using h26⟩))))
           refine Ac<|Aa rfl<|Ah rfl<|Ae<|Ab<|Bb 8 rfl rfl rfl ?_
           exact⟨congrArg (Value.int .i64) hres.symm,S⟩
          ·
           have pA:=h26
           exact Ao (fun a ka=>⟨(),⟨hy,by rintro(q|q|(q|q|q));exact p34 q;exact p39 q;(first|exact pL q.2|(rw[q.1] at qL;cases qL));(first|exact pH (by have:=q.2;omega)|(rw[q.1] at qH;cases qH));(first|(rw[q.1] at qA;cases qA;done)|(rw[q.2] at pA;cases pA;done)),hbf,f,c,S⟩,ka.keep (Bf (by repeat (first|exact trivial|refine And.intro rfl ?_)))⟩)
         ·
          have qA:=h23
          refine Bd 6 rfl<|Bq rfl rfl<|Bq rfl rfl<|Ae<|Ab<|Bw rfl ?_
          exact Ao (fun a ka=>⟨(),⟨hy,by rintro(q|q|(q|q|q));exact p34 q;exact p39 q;(first|exact pL q.2|(rw[q.1] at qL;cases qL));(first|exact pH (by have:=q.2;omega)|(rw[q.1] at qH;cases qH));(first|(rw[q.1] at qA;cases qA;done)|(rw[q.2] at pA;cases pA;done)),hbf,f,c,S⟩,ka.keep (Bf (by repeat (first|exact trivial|refine And.intro rfl ?_)))⟩)
       ·
        have qH:=h21
        refine Bd 5 rfl<|Bq rfl rfl<|Bq rfl rfl<|Af rfl<|Av Qw rfl<|Ba sh4 rfl f rfl<|Af rfl<|Fo 64 rfl (fun h27=>?_) (fun h27=>?_)
        ·
         have qA:=h27
         refine Av Qx rfl<|Ba sh2 rfl f rfl<|Av Fl rfl<|Ba sh2 rfl c rfl<|Az rfl AC7 (Rm b.above y.n w4) ?_;rintro _ w28 ⟨rfl,s29⟩;have S:=S.trans s29;have hbf:=hbf.sub s29;have f:=f.sub s29;have c:=c.sub s29;refine Ak (.not rfl)<|Br rfl rfl<|Bq rfl rfl<|Ae<|Ab<|Db rfl (fun h30=>?_) (fun h30=>?_)
         ·
          have hres:=Hb (k:=k) (b:=b) (left:=left) hr0 hy (.inr (.inr (.inr (.inr ⟨qA,by simpa using h30⟩))))
          refine Ac<|Aa rfl<|Ah rfl<|Ae<|Ab<|Bb 8 rfl rfl rfl ?_
          exact⟨congrArg (Value.int .i64) hres.symm,S⟩
         ·
          have pA:=h30
          exact Ao (fun a ka=>⟨(),⟨hy,by rintro(q|q|(q|q|q));exact p34 q;exact p39 q;(first|exact pL q.2|(rw[q.1] at qL;cases qL));(first|exact pH (by have:=q.2;omega)|(rw[q.1] at qH;cases qH));(first|(rw[q.1] at qA;cases qA;done)|(rw[q.2] at pA;cases pA;done)),hbf,f,c,S⟩,ka.keep (Bf (by repeat (first|exact trivial|refine And.intro rfl ?_)))⟩)
        ·
         have qA:=h27
         refine Bd 6 rfl<|Bq rfl rfl<|Bq rfl rfl<|Ae<|Ab<|Bw rfl ?_
         exact Ao (fun a ka=>⟨(),⟨hy,by rintro(q|q|(q|q|q));exact p34 q;exact p39 q;(first|exact pL q.2|(rw[q.1] at qL;cases qL));(first|exact pH (by have:=q.2;omega)|(rw[q.1] at qH;cases qH));(first|(rw[q.1] at qA;cases qA;done)|(rw[q.2] at pA;cases pA;done)),hbf,f,c,S⟩,ka.keep (Bf (by repeat (first|exact trivial|refine And.intro rfl ?_)))⟩)
  obtain⟨hy,hnb,hbf,f,c,S⟩:=hJ
  have hk1:y.kind=1:=Decidable.not_not.1 (fun e=>hnb (.inr (.inl e)))
  have hleft:¬left=0:=(fun e=>hnb (.inl e))
  refine Ac<|Aa rfl<|Av Es rfl<|Ba sh3 rfl c rfl<|Av Gv rfl<|Ba sh3 rfl c rfl<|Av Fl rfl<|Ba sh2 rfl c rfl<|Av Hv rfl<|Ba sh2 rfl c rfl<|Av Hg rfl<|Ba sh2 rfl c rfl<|Ak (.buildS Dx Mv rfl rfl)<|Ay Dx rfl rfl (fun O au Z aq d X=>?_);have U:=S.le Z;have R:=hbf.ne Z;have J:=f.ne Z;have z:=c.ne Z;have S:=S.trans X;have hbf:=hbf.sub X;have f:=f.sub X;have c:=c.sub X;refine At Ct rfl rfl rfl d (fun w31 z31 d a31=>?_);have S:=S.upd a31 U;have hbf:=hbf.upd a31 R;have f:=f.upd a31 J;have c:=c.upd a31 z
  have d:Has w31 O ((Vd y 0 0).cells) _:=d.now (by kernel_rfl)
  refine Ae<|Ab<|Hi (α:=Unit) (fun _=>[(0,.pointer (some ⟨bf,0,none⟩)),(3,.int .i64 left),(6,.pointer (some ⟨ad,0,none⟩)),(9,.pointer (some ⟨aa,0,none⟩)),(11,.pointer (some ⟨O,0,none⟩))]) (fun _ w32=>Has w32 bf (frC na fa nc fc A bad) 130∧Has w32 ad b.cells 272∧Has w32 aa y.cells 140∧Has w32 O (Vd y y.k0 y.k1).cells 140∧Sub w w32) ?_ (fun _ w32 hJ=>?_)
  ·
   refine Bs (fun k=>k=O) [8,11] w31.heap.size 12 rfl rfl mxo (fun w33 s34=>?_)
   have hNN:∀k,((k=O)∨w31.heap.size≤k)→w.heap.size≤k:=fun k e=>e.elim (fun e=>e▸U) (fun e=>Ad S.size e)
   have hN0:∀k,w31.heap.size≤k→w.heap.size≤k:=fun k e=>Ad S.size e
   have T:=c.lt;have szD:=Nat.le_refl w31.heap.size;have S:=S.trans s34;have hbf:=hbf.sub s34;have f:=f.sub s34;have c:=c.sub s34;have d:=d.sub s34;have szD:=Ad szD s34.size;refine Bl 0 rfl Da rfl<|Bg 1 rfl (fun _ _=>.indexArr Eb rfl rfl (by omega))<|Ck 2 rfl Dm rfl c (nE z T) rfl<|Bl 3 rfl Da rfl<|Bg 4 rfl (fun _ _=>.indexArr Eb rfl rfl (by omega))<|Ck 5 rfl Dm rfl c (nE z T) rfl<|Bl 6 rfl Da rfl<|Bg 7 rfl (fun _ _=>.indexArr Eb rfl rfl (by omega))<|Bl 9 rfl Da rfl<|Aq 8 rfl<|At Dm rfl rfl rfl d (fun w35 z35 d a35=>?_);have S:=S.upd a35 U;have hbf:=hbf.upd a35 R;have f:=f.upd a35 J;have c:=c.upd a35 z;have szD:=Ad szD a35.size;refine Cq rfl a35 (rfl)<|Bg 10 rfl (fun _ _=>.indexArr Eb rfl rfl (by omega))<|Aq 11 rfl<|At Dm rfl rfl rfl d (fun w36 z36 d a36=>?_);have S:=S.upd a36 U;have hbf:=hbf.upd a36 R;have f:=f.upd a36 J;have c:=c.upd a36 z;have szD:=Ad szD a36.size;refine Cq rfl a36 (rfl) ?_
   exact Fb (by kernel_rfl) (fun a ka=>⟨(),⟨hbf,f,c,d,S⟩,ka.keep (Bf (by repeat (first|exact trivial|refine And.intro rfl ?_)))⟩)
  obtain⟨hbf,f,c,d,S⟩:=hJ
  refine Ac<|Aa rfl<|Ak (.loadR (b.cells) Pn rfl f.row rfl)<|Ay Xw rfl rfl (fun ae ar Y ap s W=>?_);have V:=S.le Y;have Q:=hbf.ne Y;have I:=c.ne Y;have H:=d.ne Y;have S:=S.trans W;have hbf:=hbf.sub W;have c:=c.sub W;have d:=d.sub W;refine At Pn rfl rfl rfl s (fun w37 z37 s a37=>?_);have S:=S.upd a37 V;have hbf:=hbf.upd a37 Q;have c:=c.upd a37 I;have d:=d.upd a37 H
  have s:Has w37 ae (b.cells) _:=s.now (by kernel_rfl)
  refine Ae<|Ab<|Ac<|Aa rfl<|Av Fl rfl<|Ba sh2 rfl c rfl<|Av Qx rfl<|At sh2 rfl rfl rfl s (fun w38 z38 s a38=>?_);have S:=S.upd a38 V;have hbf:=hbf.upd a38 Q;have c:=c.upd a38 I;have d:=d.upd a38 H;refine Av Qw rfl<|At sh4 rfl rfl rfl s (fun w39 z39 s a39=>?_);have S:=S.upd a39 V;have hbf:=hbf.upd a39 Q;have c:=c.upd a39 I;have d:=d.upd a39 H
  have s:Has w39 ae ((b.below y.n).cells) _:=s
  refine Ae<|Ab<|Hi (α:=Nat × Nat) (fun m_=>[(0,.pointer (some ⟨bf,0,none⟩)),(3,.int .i64 left),(9,.pointer (some ⟨aa,0,none⟩)),(11,.pointer (some ⟨O,0,none⟩)),(13,.pointer (some ⟨m_.1,0,none⟩)),(14,.pointer (some ⟨m_.2,0,none⟩))]) (fun m_ w40=>(bf≠m_.1∧bf≠m_.2∧aa≠m_.1∧aa≠m_.2∧O≠m_.1∧O≠m_.2∧m_.1≠m_.2∧w.heap.size≤m_.1∧w.heap.size≤m_.2)∧Has w40 bf (frC na fa nc fc A bad) 130∧Has w40 aa y.cells 140∧Has w40 O (Vd y y.k0 y.k1).cells 140∧Has w40 m_.1 (b.below y.n).cells 272∧Has w40 m_.2 (b.below y.n).cells 272∧Sub w w40) ?_ (fun m_ w40 hJ=>?_)
  ·
   refine Bs (fun k=>False) [4,5] w39.heap.size 6 rfl rfl mxo (fun w41 s42=>?_)
   have hNN:∀k,((False)∨w39.heap.size≤k)→w.heap.size≤k:=fun k e=>e.elim (fun e=>e.elim) (fun e=>Ad S.size e)
   have hN0:∀k,w39.heap.size≤k→w.heap.size≤k:=fun k e=>Ad S.size e
   have P:=s.lt;have szD:=Nat.le_refl w39.heap.size;have S:=S.trans s42;have hbf:=hbf.sub s42;have c:=c.sub s42;have d:=d.sub s42;have s:=s.sub s42;have szD:=Ad szD s42.size;refine Bg 0 rfl (fun w' s'=>.loadR ((b.below y.n).cells) Pn rfl (s.step s' (nE id P)).row rfl)<|Bg 1 rfl (fun w' s'=>.loadR ((b.below y.n).cells) Pn rfl (s.step s' (nE id P)).row rfl)<|Ej [2,3] (by kernel_rfl) rfl (Ca rfl ?_ (Ca rfl ?_ (Do)))
   ·
    refine Ay Xw rfl rfl (fun N aj G ah h E=>?_)
    have L:w39.heap.size≤N:=by rw[G];exact szD
    have D:=S.le G;have u:=hbf.ne G;have o:=c.ne G;have l:=d.ne G;have S:=S.trans E;have hbf:=hbf.sub E;have c:=c.sub E;have d:=d.sub E;have szD:=Ad szD E.size;refine Be E.agr<|Aq 3 rfl<|Ay Xw rfl rfl (fun M ai F ag g v=>?_)
    have K:w39.heap.size≤M:=by rw[F];exact szD
    have C:=S.le F;have t:=hbf.ne F;have m:=c.ne F;have j:=d.ne F;have i:=h.ne F;have S:=S.trans v;have hbf:=hbf.sub v;have c:=c.sub v;have d:=d.sub v;have szD:=Ad szD v.size;have h:=h.sub v;refine Be v.agr<|Aq 4 rfl<|At Pn rfl rfl rfl h (fun w43 z43 h a43=>?_);have S:=S.upd a43 D;have hbf:=hbf.upd a43 u;have c:=c.upd a43 o;have d:=d.upd a43 l;have szD:=Ad szD a43.size;have g:=g.upd a43 i.symm
    have h:Has w43 N ((b.below y.n).cells) _:=h.now (by kernel_rfl)
    refine Cv rfl (a43.mono fun k _ e=>e▸(.inr L))<|Aq 5 rfl<|At Pn rfl rfl rfl g (fun w44 z44 g a44=>?_);have S:=S.upd a44 C;have hbf:=hbf.upd a44 t;have c:=c.upd a44 m;have d:=d.upd a44 j;have szD:=Ad szD a44.size;have h:=h.upd a44 i
    have g:Has w44 M ((b.below y.n).cells) _:=g.now (by kernel_rfl)
    refine Cv rfl (a44.mono fun k _ e=>e▸(.inr K)) ?_
    exact Fb (by kernel_rfl) (fun a ka=>⟨(N,M),⟨⟨u,t,o,m,l,j,(by first|exact i|exact B.symm),D,C⟩,hbf,c,d,h,g,S⟩,ka.keep (Bf (by repeat (first|exact trivial|refine And.intro rfl ?_)))⟩)
   ·
    refine Ay Xw rfl rfl (fun M ai F ag g v=>?_)
    have K:w39.heap.size≤M:=by rw[F];exact szD
    have C:=S.le F;have t:=hbf.ne F;have m:=c.ne F;have j:=d.ne F;have S:=S.trans v;have hbf:=hbf.sub v;have c:=c.sub v;have d:=d.sub v;have szD:=Ad szD v.size;refine Be v.agr<|Aq 2 rfl<|Ay Xw rfl rfl (fun N aj G ah h E=>?_)
    have L:w39.heap.size≤N:=by rw[G];exact szD
    have D:=S.le G;have u:=hbf.ne G;have o:=c.ne G;have l:=d.ne G;have B:=g.ne G;have S:=S.trans E;have hbf:=hbf.sub E;have c:=c.sub E;have d:=d.sub E;have g:=g.sub E;refine Be E.agr<|Aq 4 rfl<|At Pn rfl rfl rfl h (fun w45 z45 h a45=>?_);have S:=S.upd a45 D;have hbf:=hbf.upd a45 u;have c:=c.upd a45 o;have d:=d.upd a45 l;have g:=g.upd a45 B
    have h:Has w45 N ((b.below y.n).cells) _:=h.now (by kernel_rfl)
    refine Cv rfl (a45.mono fun k _ e=>e▸(.inr L))<|Aq 5 rfl<|At Pn rfl rfl rfl g (fun w46 z46 g a46=>?_);have S:=S.upd a46 C;have hbf:=hbf.upd a46 t;have c:=c.upd a46 m;have d:=d.upd a46 j;have h:=h.upd a46 B.symm
    have g:Has w46 M ((b.below y.n).cells) _:=g.now (by kernel_rfl)
    refine Cv rfl (a46.mono fun k _ e=>e▸(.inr K)) ?_
    exact Fb (by kernel_rfl) (fun a ka=>⟨(N,M),⟨⟨u,t,o,m,l,j,(by first|exact i|exact B.symm),D,C⟩,hbf,c,d,h,g,S⟩,ka.keep (Bf (by repeat (first|exact trivial|refine And.intro rfl ?_)))⟩)
  obtain⟨N,M⟩:=m_
  obtain⟨⟨u,t,o,m,l,j,i,D,C⟩,hbf,c,d,h,g,S⟩:=hJ
  simp only[] at u t o m l j i D C h g
  refine Ac<|Aa rfl<|Av Fl rfl<|Ba sh2 rfl c rfl<|Av AAd rfl<|At sh2 rfl rfl rfl h (fun w47 z47 h a47=>?_);have S:=S.upd a47 D;have hbf:=hbf.upd a47 u;have c:=c.upd a47 o;have d:=d.upd a47 l;have g:=g.upd a47 i.symm;refine Av AAc rfl<|At sh4 rfl rfl rfl h (fun w48 z48 h a48=>?_);have S:=S.upd a48 D;have hbf:=hbf.upd a48 u;have c:=c.upd a48 o;have d:=d.upd a48 l;have g:=g.upd a48 i.symm
  have h:Has w48 N ((b.lo y.n).cells) _:=h
  refine Ae<|Ab<|Ac<|Aa rfl<|Av Fl rfl<|Ba sh2 rfl c rfl<|Av ADc rfl<|At sh2 rfl rfl rfl g (fun w49 z49 g a49=>?_);have S:=S.upd a49 C;have hbf:=hbf.upd a49 t;have c:=c.upd a49 m;have d:=d.upd a49 j;have h:=h.upd a49 i;refine Av ADb rfl<|At sh4 rfl rfl rfl g (fun w50 z50 g a50=>?_);have S:=S.upd a50 C;have hbf:=hbf.upd a50 t;have c:=c.upd a50 m;have d:=d.upd a50 j;have h:=h.upd a50 i
  have g:Has w50 M ((b.hi y.n).cells) _:=g
  refine Ae<|Ab<|Ac<|Aa rfl<|Af rfl<|Av Da rfl<|Ak (.indexArr Eb rfl rfl (by omega))<|Ba Dm rfl c rfl<|Ak (.loadR ((b.lo y.n).cells) Pn rfl h.row rfl)<|Af rfl<|Ak (.as (.bin rfl rfl rfl) (Cs (y:=left-1) (by rfl) (by omega)))<|Az rfl AFa (ih y.k0 (b.lo y.n) (left-1) w50 ((hA.nok y (Ek hy)).kids _ (by simp[Node.kids])) (by omega) (by omega) (by omega) hbf (hA.sub S)) ?_;rintro _ w51 ⟨rfl,s52⟩;have S:=S.trans s52;have hbf:=hbf.sub s52;have c:=c.sub s52;have d:=d.sub s52;have g:=g.sub s52
  obtain⟨p,hp⟩:∃p,Ec A k y.k0 (b.lo y.n) (left-1)=p:=⟨_,rfl⟩
  have hple:=Od A k y.k0 (b.lo y.n) (left-1) (by omega)
  rw[hp] at hple
  refine Ak (.as (v':=.int .i64 p) (.assign rfl) (by rw[hp]))<|Ae<|Ab<|Ac<|Ac<|Aa rfl<|Af rfl<|Bc rfl rfl rfl<|Af rfl<|Bn 119 rfl (fun h53=>?_) (fun h53=>?_)
  ·
   have hres:=Oz (k:=k) hr0 hy hnb (.inl (by rw[hp];exact h53))
   refine Bd 3 rfl<|Br rfl rfl<|Ae<|Ab<|Bm rfl<|Ac<|Aa rfl<|Ah rfl<|Ae<|Ab<|Bb 8 rfl rfl rfl ?_
   exact⟨congrArg (Value.int .i64) hres.symm,S⟩
  ·
   have hp0:=h53
   refine Ak (.loadR ((Vd y y.k0 y.k1).cells) Ct rfl d.row rfl)<|Ak (.loadR (y.cells) Ct rfl c.row rfl)<|Ak (.neS (xs:=(Vd y y.k0 y.k1).cells) (ys:=y.cells) Vb Vc Ct rfl rfl rfl rfl rfl)<|Bq rfl rfl<|Ae<|Ab<|Db rfl (fun h54=>?_) (fun h54=>?_)
   ·
    have hres:=Oz (k:=k) hr0 hy hnb (.inr (fun e=>by have h2:=h54;rw[Gl,decide_eq_true ((Zt hk1).2 e)] at h2;cases h2))
    refine Ac<|Aa rfl<|Ah rfl<|Ae<|Ab<|Bb 8 rfl rfl rfl ?_
    exact⟨congrArg (Value.int .i64) hres.symm,S⟩
   ·
    have hbr:Nk y=y:=(Zt hk1).1 (by have h2:=h54;rw[Gl] at h2;simpa using h2)
    refine Ao<|Ab<|Ac<|Aa rfl<|Af rfl<|Av Da rfl<|Ak (.indexArr Eb rfl rfl (by omega))<|Ba Dm rfl c rfl<|Ak (.loadR ((b.hi y.n).cells) Pn rfl g.row rfl)<|Af rfl<|Ak (.as (.bin rfl rfl rfl) (Cs (y:=left-1) (by rfl) (by omega)))<|Af rfl<|Ak (.as (.bin rfl rfl rfl) (Cs (y:=left-1-p) (by rfl) (by omega)))<|Az rfl AFa (ih y.k1 (b.hi y.n) (left-1-p) w51 ((hA.nok y (Ek hy)).kids _ (by simp[Node.kids])) (by omega) (by omega) (by omega) hbf (hA.sub S)) ?_;rintro _ w55 ⟨rfl,s56⟩;have S:=S.trans s56;have c:=c.sub s56
    obtain⟨q,hq⟩:∃q,Ec A k y.k1 (b.hi y.n) (left-1-p)=q:=⟨_,rfl⟩
    have hqle:=Od A k y.k1 (b.hi y.n) (left-1-p) (by omega)
    rw[hq] at hqle
    have hpn:¬(p<0∨¬Nk y=y):=(fun e=>e.elim hp0 (fun e=>e hbr))
    refine Ak (.as (v':=.int .i64 q) (.assign rfl) (by rw[hq]))<|Ae<|Ab<|Ac<|Ac<|Aa rfl<|Af rfl<|Bc rfl rfl rfl<|Af rfl<|Bn 136 rfl (fun h57=>?_) (fun h57=>?_)
    ·
     have hres:=Mn (k:=k) hr0 hy hnb hp hpn hq (.inl h57)
     refine Bd 7 rfl<|Br rfl rfl<|Ae<|Ab<|Bm rfl<|Ac<|Aa rfl<|Ah rfl<|Ae<|Ab<|Bb 8 rfl rfl rfl ?_
     exact⟨congrArg (Value.int .i64) hres.symm,S⟩
    ·
     have hq0:=h57
     refine Af rfl<|Af rfl<|Ak (.as (.bin rfl rfl rfl) (Cs (y:=p+q) (by rfl) (by omega)))<|Ak (.as (.bin rfl rfl rfl) (Cs (y:=p+q+1) (by rfl) (by omega)))<|Av Hg rfl<|Ba sh2 rfl c rfl<|Bc rfl rfl rfl<|Bq rfl rfl<|Ae<|Ab<|An rfl (fun h58=>?_) (fun h58=>?_)
     ·
      have hres:=Mn (k:=k) hr0 hy hnb hp hpn hq (.inr h58)
      refine Ac<|Aa rfl<|Ah rfl<|Ae<|Ab<|Bb 8 rfl rfl rfl ?_
      exact⟨congrArg (Value.int .i64) hres.symm,S⟩
     ·
      have hres:=Rg (k:=k) hr0 hy hnb hp hpn hq (fun e=>e.elim hq0 (fun e=>h58 e))
      refine Ao<|Ab<|Ac<|Aa rfl<|Af rfl<|Af rfl<|Ak (.as (.bin rfl rfl rfl) (Cs (y:=p+q) (by rfl) (by omega)))<|Ak (.as (.bin rfl rfl rfl) (Cs (y:=p+q+1) (by rfl) (by omega)))<|Ah rfl<|Ae<|Ab<|Bb 8 rfl rfl rfl ?_
      exact⟨congrArg (Value.int .i64) hres.symm,S⟩
noncomputable def allMaps (A:Ar) (l:List Int):Bool:=aokB A&&l.all (isMapB A)
theorem AHy{A:Ar}{r:Int}(hA:AOk A)(h:Ec A 201 r AAB 200<0):isMapB A r=false:=AEX (fun e=>by have:=(Yy hA).2 e;omega)
theorem AHx{A:Ar}{r:Int}(hA:AOk A)(h:¬Ec A 201 r AAB 200<0):isMapB A r=true:=Qk ((Yy hA).1 (by omega))
theorem AHN{α:Type}{p:α→Bool}{l:List α}{i:Nat}{x:α}(h:l[i]?=some x)(hp:(l.take i).all p=true)(hx:p x=true):(l.take (i+1)).all p=true:=by
 rw[List.take_add_one,h,List.all_append,hp];simp[hx]
theorem AKR{α:Type}{p:α→Bool}{l:List α}{i:Nat}{x:α}(h:l[i]?=some x)(hx:p x=false):l.all p=false:=by
 rw[List.all_eq_false];exact⟨x,Au h,by rw[hx];simp⟩
theorem AG1(A:Ar)(na fa:Option Addr)(nc fc:Nat)(l:List Int)(m:Nat)(hm:m=l.length)(pa:Option Addr)(pc:Nat)(hl:l.length≤10000)(hli:∀x∈l,U64 x)(w:World)(hA:ArR w na fa A)(hP:Sl w pa 1 (l.map fun x=>[u6 x])):
  FC Tryz.prog 114 [arV na fa nc fc A,.slice pa m pc] w (Val (.bool (allMaps A l)) w):=by
 subst hm
 have hN:=hA.nodes
 have hFr:=hA.free
 refine As Tryz.func114 rfl Tryz.ntmps114 rfl ?_
 have S:=Ax w
 refine Ac<|Aa rfl<|Bu rfl rfl rfl (fun n h p o c j=>?_);have S:=S.trans j
 have c:Has h n ([.slice na A.nodes.length nc,.slice fa A.free.length fc]) _:=c
 refine Ah rfl<|Ae<|Ab<|Ac<|Aa rfl<|Ak (.loadR ([.slice na A.nodes.length nc,.slice fa A.free.length fc]) Cb rfl c.row rfl)<|Ak (.buildS AK0 ALA rfl rfl)<|Bu rfl rfl rfl (fun d e k g b f=>?_);have S:=S.trans f;have c:=c.sub f
 have b:Has e d (frC na fa nc fc A 0) 130:=b
 refine Ah rfl<|Ae<|Ab<|Ac<|Ac<|Aa rfl<|Ak (.loadR ([.slice na A.nodes.length nc,.slice fa A.free.length fc]) Cb rfl c.row rfl)<|Az rfl Uy (Kh A na fa nc fc e (hA.sub S)) ?_;rintro _ w1 ⟨rfl,s2⟩;have S:=S.trans s2;have b:=b.sub s2;refine Ak (.not rfl)<|Ae<|Ab<|Db rfl (fun h3=>?_) (fun h3=>?_)
 ·
  have hno:aokB A=false:=(by simpa using h3)
  refine Ac<|Aa rfl<|Ah rfl<|Ae<|Ab<|Bb 4 rfl rfl rfl ?_
  rw[allMaps,hno]
  exact⟨rfl,S⟩
 ·
  have hokb:aokB A=true:=(by simpa using h3)
  have hok:AOk A:=(Hd A).1 hokb
  refine Ao<|Ab<|Ac<|Ac<|Aa rfl<|Af rfl<|Cm Kw rfl<|Af rfl<|Ae<|Ab<|Bh<|Cw (α:=Nat) (fun i=>[(5,.pointer (some ⟨d,0,none⟩)),(14,.slice pa l.length pc),(15,.int .i64 (l.length:Int)),(16,.int .i64 (i:Int))]) (fun i w4=>i≤l.length∧(l.take i).all (isMapB A)=true∧Has w4 d (frC na fa nc fc A 0) 130∧Sub w w4) (fun i=>l.length-i) 0 (Bf (by repeat (first|exact trivial|refine And.intro rfl ?_))) (⟨Nat.zero_le _,rfl,b,S⟩) (fun i w4 hJ=>?_)
  obtain⟨hi,hp,b,S⟩:=hJ
  refine Ac<|Aa rfl<|Bc rfl rfl rfl<|Ae<|Ab<|Ac<|An rfl (fun h5=>?_) (fun h5=>?_)
  ·
   obtain⟨y,hy⟩:=Ce (l:=l) (i:=i) (by omega)
   refine Ao<|Ab<|Ac<|Bh<|Ac<|Aa rfl<|Ak (.indexS Kw rfl rfl (by omega) (hP.is (i:=0) (by simp only[Aj,Al,Am];omega)))<|Ak (.load1 Dm rfl ((hP.sub S).one (enc:=u6) (i:=i) hy))<|Ah rfl<|Ae<|Ab<|Ac<|Aa rfl<|Af rfl<|Af rfl<|Ak (.as (v':=.agg AAB.cells.toArray) (.buildS Xw AK6 rfl rfl) (by rfl)) ?_;refine Az rfl AFa (AMD A na fa nc fc 0 d 201 y AAB 200 w4 (hli y (Au hy)) (by decide) (by decide) (by decide) b (hA.sub S)) ?_;rintro _ w6 ⟨rfl,s7⟩;have S:=S.trans s7;have b:=b.sub s7;refine Bc rfl rfl rfl<|Ae<|Ab<|An rfl (fun h8=>?_) (fun h8=>?_)
   ·
    have hbad:=AHy hok h8
    refine Ac<|Aa rfl<|Ah rfl<|Ae<|Ab<|Bb 4 rfl rfl rfl ?_
    rw[allMaps,AKR hy hbad,Bool.and_false]
    exact⟨rfl,S⟩
   ·
    have hgood:=AHx hok h8
    refine Ao<|Ab<|Aa rfl<|Ak (.as (.bin rfl rfl rfl) (Cs (y:=((i+1:Nat):Int)) (by omega) (by omega)))<|Af rfl ?_
    exact Ae (fun a ka=>⟨i+1,⟨by omega,AHN hy hp hgood,b,S⟩,by omega,ka.keep (Bf (by repeat (first|exact trivial|refine And.intro rfl ?_)))⟩)
  ·
   obtain rfl:i=l.length:=(by omega)
   rw[List.take_length] at hp
   refine Co rfl<|Ab<|Ac<|Aa rfl<|Ah rfl<|Ae<|Ab<|Bb 4 rfl rfl rfl ?_
   rw[allMaps,hp,hokb]
   exact⟨rfl,S⟩
theorem AEW(A:Ar)(r:Int):(aokB A&&isMapB A r)=isMapB A r:=by
 cases h:isMapB A r with
 |false=>exact Bool.and_false _
 |true=>rw[Lt ((Ic A r).1 h).1];rfl
theorem ABV(A:Ar)(na fa:Option Addr)(nc fc:Nat)(r:Int)(hr:U64 r)(w:World)(hA:ArR w na fa A):
  FC Tryz.prog 54 [arV na fa nc fc A,.int .u64 r] w (Val (.bool (isMapB A r)) w):=by
 have hN:=hA.nodes
 have hFr:=hA.free
 refine As Tryz.func54 rfl Tryz.ntmps54 rfl ?_
 have S:=Ax w
 refine Ac<|Aa rfl<|Bu rfl rfl rfl (fun h d m j a f=>?_);have S:=S.trans f
 have a:Has d h ([.slice na A.nodes.length nc,.slice fa A.free.length fc]) _:=a
 refine Ah rfl<|Ae<|Ab<|Ac<|Aa rfl<|Ak (.loadR ([.slice na A.nodes.length nc,.slice fa A.free.length fc]) Cb rfl a.row rfl)<|Af rfl<|Bi Kw _ Zw rfl rfl rfl rfl rfl rfl rfl (fun g c k i b e=>?_);have S:=S.trans e;refine Az rfl AL0 (AG1 A na fa nc fc [r] 1 rfl (some ⟨g,0,none⟩) 1 (Nat.le_of_ble_eq_true rfl) (fun x hx=>by rw[List.mem_singleton] at hx;rw[hx];exact hr) c (hA.sub S) (Ik (enc:=u6) (l:=[r]) b)) ?_;rintro _ w1 ⟨rfl,s2⟩;have S:=S.trans s2;refine Ah rfl<|Ae<|Ab<|Bb 4 rfl rfl rfl ?_
 refine⟨congrArg Value.bool ?_,S⟩
 rw[allMaps,List.all_cons,List.all_nil,Bool.and_true,AEW]

theorem Of{l:List It}:∀r∈l.map It.cells,r.length=2:=fun r hr=>by obtain⟨x,_,rfl⟩:=List.mem_map.1 hr;rfl
def fieldAt(P:Program)(t:TypeId)(i:Nat):Field:=match P.underlying t with
 |some (.struct fs)=>fs[i]!
 |_=>default
theorem ADP:PairT Tryz.prog 155 (fieldAt Tryz.prog 155 0) (fieldAt Tryz.prog 155 1) :=
 ⟨by kernel_rfl,by kernel_rfl,by kernel_rfl,by kernel_rfl,by kernel_rfl,by kernel_rfl,by kernel_rfl,by kernel_rfl,by kernel_rfl⟩
def opT:List LE:=[⟨2,1,1,.int .i64 1⟩,⟨4,1,2,.int .i64 2⟩,⟨6,1,3,.int .i64 1⟩,⟨8,1,4,.int .i64 1⟩,⟨10,1,5,.int .i64 1⟩,⟨12,1,6,.int .i64 0⟩,⟨14,2,1,.int .i64 1⟩,⟨16,2,2,.int .i64 2⟩,⟨18,2,3,.int .i64 1⟩,⟨20,2,6,.int .i64 0⟩,⟨22,3,1,.int .i64 1⟩,⟨24,3,2,.int .i64 1⟩,⟨26,3,3,.int .i64 0⟩,⟨28,3,4,.int .i64 1⟩,⟨30,3,5,.int .i64 0⟩,⟨32,3,6,.int .i64 0⟩,⟨34,4,1,.int .i64 0⟩,⟨36,4,2,.int .i64 2⟩,⟨38,4,3,.int .i64 0⟩,⟨40,4,6,.int .i64 0⟩]
def opN(box kind:Int):Option Value:=(opT.find? fun e=>decide (e.a=box∧e.c=kind)).map (·.v)
theorem AEn(w:World):FC Tryz.prog 72 [] w (fun v w'=>Sub w w'∧∃b,v=.map (some b)∧HasP w' b opN):=by
 refine As Tryz.func72 rfl Tryz.ntmps72 rfl ?_
 have S:=Ax w
 refine Ac<|Aa rfl<|Ah rfl<|Ae<|Ab<|Ac<|Bs (fun k=>False) [] w.heap.size 43 rfl rfl mxo (fun w1 s2=>?_)
 have hNN:∀k,((False)∨w.heap.size≤k)→w.heap.size≤k:=fun k e=>e.elim (fun e=>e.elim) (fun e=>Ad S.size e)
 have hN0:∀k,w.heap.size≤k→w.heap.size≤k:=fun k e=>Ad S.size e
 have szD:=Nat.le_refl w.heap.size;have S:=S.trans s2;have szD:=Ad szD s2.size;refine Bg 1 rfl (fun _ _=>.buildS Hs Ht rfl rfl)<|Bg 3 rfl (fun _ _=>.buildS Hs Ht rfl rfl)<|Bg 5 rfl (fun _ _=>.buildS Hs Ht rfl rfl)<|Bg 7 rfl (fun _ _=>.buildS Hs Ht rfl rfl)<|Bg 9 rfl (fun _ _=>.buildS Hs Ht rfl rfl)<|Bg 11 rfl (fun _ _=>.buildS Hs Ht rfl rfl)<|Bg 13 rfl (fun _ _=>.buildS Hs Ht rfl rfl)<|Bg 15 rfl (fun _ _=>.buildS Hs Ht rfl rfl)<|Bg 17 rfl (fun _ _=>.buildS Hs Ht rfl rfl)<|Bg 19 rfl (fun _ _=>.buildS Hs Ht rfl rfl)<|Bg 21 rfl (fun _ _=>.buildS Hs Ht rfl rfl)<|Bg 23 rfl (fun _ _=>.buildS Hs Ht rfl rfl)<|Bg 25 rfl (fun _ _=>.buildS Hs Ht rfl rfl)<|Bg 27 rfl (fun _ _=>.buildS Hs Ht rfl rfl)<|Bg 29 rfl (fun _ _=>.buildS Hs Ht rfl rfl)<|Bg 31 rfl (fun _ _=>.buildS Hs Ht rfl rfl) ?_;refine Bg 33 rfl (fun _ _=>.buildS Hs Ht rfl rfl)<|Bg 35 rfl (fun _ _=>.buildS Hs Ht rfl rfl)<|Bg 37 rfl (fun _ _=>.buildS Hs Ht rfl rfl)<|Bg 39 rfl (fun _ _=>.buildS Hs Ht rfl rfl)<|Aq 0 rfl<|AB3 rfl rfl (fun h j g i a f=>?_)
 have c:w.heap.size≤h:=by rw[g];exact szD
 have d:=S.le g;have S:=S.trans f;refine Be f.agr<|AIa opT _ 2 rfl Tryz.underlying152 ADP (by intro e he;simp only[opT,List.mem_cons,List.not_mem_nil,or_false] at he;rcases he with rfl|rfl|rfl|rfl|rfl|rfl|rfl|rfl|rfl|rfl|rfl|rfl|rfl|rfl|rfl|rfl|rfl|rfl|rfl|rfl<;>exact⟨_,_,_,_,_,_,rfl,rfl,rfl,rfl,by kernel_rfl⟩) (by decide) (by decide) (by kernel_rfl) (by kernel_rfl) (by simp[opT]) a c (fun w3 a a3=>?_);have S:=S.upd a3 d;refine Bp 41 rfl rfl<|Cu 42 rfl rfl<|Cp<|Ab<|Bb 0 rfl rfl rfl ?_
 exact⟨S,_,rfl,a⟩
structure OpT where
 box:Int
 kind:Int
 a:Int
 b:Int
 deriving DecidableEq
def OpT.cells(o:OpT):List Value:=[.int .i64 o.box,.int .i64 o.kind,.int .i64 o.a,.int .i64 o.b]
def OpT.ok(o:OpT):Prop:=I64 o.box∧I64 o.kind∧I64 o.a∧I64 o.b
def Cd(box kind:Int):Prop:=(kind=1∧¬box=4)∨(¬kind=1∧(kind=3∨kind=5)∧((kind=3∧box<3)∨box=1))∨(¬kind=1∧¬(kind=3∨kind=5)∧(kind=2∨kind=4))
def Cn(box kind:Int):Prop:=kind=2∧¬box=3
def Cl(box kind:Int):Prop:=1≤box∧box≤4∧1≤kind∧kind≤6∧¬((box=2∨box=4)∧(kind=4∨kind=5))
def okP(o:OpT):Prop:=Cl o.box o.kind ∧ -1073741824≤o.a∧o.a≤1073741824 ∧ -1073741824≤o.b∧o.b≤1073741824∧(Cd o.box o.kind∨o.a=0)∧(Cn o.box o.kind∨o.b=0)
def AFp(o:OpT):Prop:=okP o∧(o.kind=1∨o.kind=6∨(o.box=1∧(o.kind=4∨o.kind=5)))
instance (b k:Int):Decidable (Cd b k):=by unfold Cd;infer_instance
instance (b k:Int):Decidable (Cn b k):=by unfold Cn;infer_instance
instance (b k:Int):Decidable (Cl b k):=by unfold Cl;infer_instance
instance (o:OpT):Decidable (okP o):=by unfold okP;infer_instance
instance (o:OpT):Decidable (AFp o):=by unfold AFp;infer_instance
theorem AKC(box kind:Int)(w:World):FC Tryz.prog 33 [.int .i64 box,.int .i64 kind] w (Val (.bool (decide (Cd box kind))) w):=by
 refine As Tryz.func33 rfl Tryz.ntmps33 rfl ?_
 have S:=Ax w
 refine Ac<|Aa rfl<|Ah rfl<|Ae<|Ab<|Ac<|Ac<|Aa rfl<|Af rfl<|Bc rfl rfl rfl<|Ae<|Ab<|An rfl (fun h1=>?_) (fun h1=>?_)
 ·
  have h6:kind=1:=h1
  refine Ac<|Aa rfl<|Af rfl<|Bc rfl rfl rfl<|Ah rfl<|Ae<|Ab<|Bb 4 rfl rfl rfl ?_
  exact⟨congrArg Value.bool (by(first|exact(decide_eq_true (by(try simp only[Cd] at *);omega)).symm|exact(decide_eq_false (by(try simp only[Cd] at *);omega)).symm|exact decide_eq_decide.2 (by(try simp only[Cd] at *);omega))),S⟩
 ·
  have h6:¬kind=1:=h1
  refine Ao<|Ab<|Ac<|Ac<|Aa rfl<|Af rfl<|Bc rfl rfl rfl<|Af rfl<|Bn 11 rfl (fun h2=>?_) (fun h2=>?_)
  ·
   have h11:kind=3:=h2
   refine Bd 2 rfl<|Br rfl rfl<|Ae<|Ab<|Bm rfl<|Ac<|Aa rfl<|Af rfl<|Bc rfl rfl rfl<|Af rfl<|Bn 17 rfl (fun h3=>?_) (fun h3=>?_)
   ·
    have h17:kind=3:=h3
    refine Af rfl<|Bc rfl rfl rfl<|Br rfl rfl<|Af rfl<|Bn 21 rfl (fun h4=>?_) (fun h4=>?_)
    ·
     have h21:=h4
     refine Bd 2 rfl<|Br rfl rfl<|Ah rfl<|Ae<|Ab<|Bb 4 rfl rfl rfl ?_
     exact⟨congrArg Value.bool (by(first|exact(decide_eq_true (by(try simp only[Cd] at *);omega)).symm|exact(decide_eq_false (by(try simp only[Cd] at *);omega)).symm|exact decide_eq_decide.2 (by(try simp only[Cd] at *);omega))),S⟩
    ·
     have h21:=h4
     refine Af rfl<|Bc rfl rfl rfl<|Bq rfl rfl<|Ah rfl<|Ae<|Ab<|Bb 4 rfl rfl rfl ?_
     exact⟨congrArg Value.bool (by(first|exact(decide_eq_true (by(try simp only[Cd] at *);omega)).symm|exact(decide_eq_false (by(try simp only[Cd] at *);omega)).symm|exact decide_eq_decide.2 (by(try simp only[Cd] at *);omega))),S⟩
   ·
    have h17:¬kind=3:=h3
    refine Bd 2 rfl<|Bq rfl rfl<|Af rfl<|Af rfl<|Bc rfl rfl rfl<|Bq rfl rfl<|Ah rfl<|Ae<|Ab<|Bb 4 rfl rfl rfl ?_
    exact⟨congrArg Value.bool (by(first|exact(decide_eq_true (by(try simp only[Cd] at *);omega)).symm|exact(decide_eq_false (by(try simp only[Cd] at *);omega)).symm|exact decide_eq_decide.2 (by(try simp only[Cd] at *);omega))),S⟩
  ·
   have h11:¬kind=3:=h2
   refine Af rfl<|Bc rfl rfl rfl<|Bq rfl rfl<|Ae<|Ab<|An rfl (fun h5=>?_) (fun h5=>?_)
   ·
    have h14:kind=5:=h5
    refine Ac<|Aa rfl<|Af rfl<|Bc rfl rfl rfl<|Af rfl<|Bn 17 rfl (fun h6=>?_) (fun h6=>?_)
    ·
     have h17:kind=3:=h6
     refine Af rfl<|Bc rfl rfl rfl<|Br rfl rfl<|Af rfl<|Bn 21 rfl (fun h7=>?_) (fun h7=>?_)
     ·
      have h21:=h7
      refine Bd 2 rfl<|Br rfl rfl<|Ah rfl<|Ae<|Ab<|Bb 4 rfl rfl rfl ?_
      exact⟨congrArg Value.bool (by(first|exact(decide_eq_true (by(try simp only[Cd] at *);omega)).symm|exact(decide_eq_false (by(try simp only[Cd] at *);omega)).symm|exact decide_eq_decide.2 (by(try simp only[Cd] at *);omega))),S⟩
     ·
      have h21:=h7
      refine Af rfl<|Bc rfl rfl rfl<|Bq rfl rfl<|Ah rfl<|Ae<|Ab<|Bb 4 rfl rfl rfl ?_
      exact⟨congrArg Value.bool (by(first|exact(decide_eq_true (by(try simp only[Cd] at *);omega)).symm|exact(decide_eq_false (by(try simp only[Cd] at *);omega)).symm|exact decide_eq_decide.2 (by(try simp only[Cd] at *);omega))),S⟩
    ·
     have h17:¬kind=3:=h6
     refine Bd 2 rfl<|Bq rfl rfl<|Af rfl<|Af rfl<|Bc rfl rfl rfl<|Bq rfl rfl<|Ah rfl<|Ae<|Ab<|Bb 4 rfl rfl rfl ?_
     exact⟨congrArg Value.bool (by(first|exact(decide_eq_true (by(try simp only[Cd] at *);omega)).symm|exact(decide_eq_false (by(try simp only[Cd] at *);omega)).symm|exact decide_eq_decide.2 (by(try simp only[Cd] at *);omega))),S⟩
   ·
    have h14:¬kind=5:=h5
    refine Ao<|Ab<|Ac<|Aa rfl<|Af rfl<|Bc rfl rfl rfl<|Af rfl<|Bn 27 rfl (fun h8=>?_) (fun h8=>?_)
    ·
     have h27:kind=2:=h8
     refine Bd 2 rfl<|Br rfl rfl<|Ah rfl<|Ae<|Ab<|Bb 4 rfl rfl rfl ?_
     exact⟨congrArg Value.bool (by(first|exact(decide_eq_true (by(try simp only[Cd] at *);omega)).symm|exact(decide_eq_false (by(try simp only[Cd] at *);omega)).symm|exact decide_eq_decide.2 (by(try simp only[Cd] at *);omega))),S⟩
    ·
     have h27:¬kind=2:=h8
     refine Af rfl<|Bc rfl rfl rfl<|Bq rfl rfl<|Ah rfl<|Ae<|Ab<|Bb 4 rfl rfl rfl ?_
     exact⟨congrArg Value.bool (by(first|exact(decide_eq_true (by(try simp only[Cd] at *);omega)).symm|exact(decide_eq_false (by(try simp only[Cd] at *);omega)).symm|exact decide_eq_decide.2 (by(try simp only[Cd] at *);omega))),S⟩
theorem AGE(box kind:Int)(w:World):FC Tryz.prog 34 [.int .i64 box,.int .i64 kind] w (Val (.bool (decide (Cn box kind))) w):=by
 refine As Tryz.func34 rfl Tryz.ntmps34 rfl ?_
 have S:=Ax w
 refine Ac<|Aa rfl<|Ah rfl<|Ae<|Ab<|Ac<|Aa rfl<|Af rfl<|Bc rfl rfl rfl<|Af rfl<|Bn 7 rfl (fun h1=>?_) (fun h1=>?_)
 ·
  have h7:kind=2:=h1
  refine Af rfl<|Bc rfl rfl rfl<|Br rfl rfl<|Ah rfl<|Ae<|Ab<|Bb 4 rfl rfl rfl ?_
  exact⟨congrArg Value.bool (by(first|exact(decide_eq_true (by(try simp only[Cn] at *);omega)).symm|exact(decide_eq_false (by(try simp only[Cn] at *);omega)).symm|exact decide_eq_decide.2 (by(try simp only[Cn] at *);omega))),S⟩
 ·
  have h7:¬kind=2:=h1
  refine Bd 2 rfl<|Bq rfl rfl<|Ah rfl<|Ae<|Ab<|Bb 4 rfl rfl rfl ?_
  exact⟨congrArg Value.bool (by(first|exact(decide_eq_true (by(try simp only[Cn] at *);omega)).symm|exact(decide_eq_false (by(try simp only[Cn] at *);omega)).symm|exact decide_eq_decide.2 (by(try simp only[Cn] at *);omega))),S⟩
theorem ABU(a:Int)(w:World):FC Tryz.prog 73 [.int .i64 a] w (Val (.bool (decide (-1073741824≤a∧a≤1073741824))) w):=by
 refine As Tryz.func73 rfl Tryz.ntmps73 rfl ?_
 have S:=Ax w
 refine Ac<|Aa rfl<|Ah rfl<|Ae<|Ab<|Ac<|Aa rfl<|Af rfl<|Bc rfl rfl rfl<|Af rfl<|Bn 5 rfl (fun h1=>?_) (fun h1=>?_)
 ·
  have h5:=h1
  refine Af rfl<|Bc rfl rfl rfl<|Br rfl rfl<|Ah rfl<|Ae<|Ab<|Bb 2 rfl rfl rfl ?_
  exact⟨congrArg Value.bool (by(first|exact(decide_eq_true (by(try simp only[Cn] at *);omega)).symm|exact(decide_eq_false (by(try simp only[Cn] at *);omega)).symm|exact decide_eq_decide.2 (by(try simp only[Cn] at *);omega))),S⟩
 ·
  have h5:=h1
  refine Bd 2 rfl<|Bq rfl rfl<|Ah rfl<|Ae<|Ab<|Bb 2 rfl rfl rfl ?_
  exact⟨congrArg Value.bool (by(first|exact(decide_eq_true (by(try simp only[Cn] at *);omega)).symm|exact(decide_eq_false (by(try simp only[Cn] at *);omega)).symm|exact decide_eq_decide.2 (by(try simp only[Cn] at *);omega))),S⟩
theorem AAr(o:OpT)(w:World):FC Tryz.prog 11 [.agg o.cells.toArray] w (Val (.bool (decide (okP o))) w):=by
 refine As Tryz.func11 rfl Tryz.ntmps11 rfl ?_
 have S:=Ax w
 refine Ac<|Aa rfl<|Bu rfl rfl rfl (fun d e h g c f=>?_);have S:=S.trans f
 have c:Has e d ([.int .i64 o.box,.int .i64 o.kind,.int .i64 o.a,.int .i64 o.b]) _:=c
 refine Ah rfl<|Ae<|Ab<|Hi (α:=Unit) (fun _=>[(1,.pointer (some ⟨d,0,none⟩))]) (fun _ w1=>Cl o.box o.kind∧Has w1 d [.int .i64 o.box,.int .i64 o.kind,.int .i64 o.a,.int .i64 o.b] 35∧Sub w w1) ?_ (fun _ w1 hJ=>?_)
 ·
  refine Ac<|Aa rfl<|Av Me rfl<|Ba sh3 rfl c rfl<|Bc rfl rfl rfl<|Af rfl<|Bn 6 rfl (fun h2=>?_) (fun h2=>?_)
  ·
   refine Bd 3 rfl<|Br rfl rfl<|Af rfl<|Bd 3 rfl<|Br rfl rfl<|Af rfl<|Bd 3 rfl<|Br rfl rfl<|Af rfl<|Bd 18 rfl<|Br rfl rfl<|Ae<|Ab<|Bm rfl<|Ac<|Aa rfl ?_;refine Ah rfl<|Ae<|Ab<|Bb 2 rfl rfl rfl ?_
   exact⟨congrArg Value.bool (by(first|exact(decide_eq_true (by(try simp only[okP,Cl,Cd,Cn] at *);omega)).symm|exact(decide_eq_false (by(try simp only[okP,Cl,Cd,Cn] at *);omega)).symm|exact decide_eq_decide.2 (by(try simp only[okP,Cl,Cd,Cn] at *);omega))),S⟩
  ·
   refine Av Me rfl<|Ba sh3 rfl c rfl<|Bc rfl rfl rfl<|Bq rfl rfl<|Af rfl<|Bn 11 rfl (fun h3=>?_) (fun h3=>?_)
   ·
    refine Bd 3 rfl<|Br rfl rfl<|Af rfl<|Bd 3 rfl<|Br rfl rfl<|Af rfl<|Bd 18 rfl<|Br rfl rfl<|Ae<|Ab<|Bm rfl<|Ac<|Aa rfl<|Ah rfl<|Ae (Ab ?_);refine Bb 2 rfl rfl rfl ?_
    exact⟨congrArg Value.bool (by(first|exact(decide_eq_true (by(try simp only[okP,Cl,Cd,Cn] at *);omega)).symm|exact(decide_eq_false (by(try simp only[okP,Cl,Cd,Cn] at *);omega)).symm|exact decide_eq_decide.2 (by(try simp only[okP,Cl,Cd,Cn] at *);omega))),S⟩
   ·
    refine Av Hz rfl<|Ba sh3 rfl c rfl<|Bc rfl rfl rfl<|Bq rfl rfl<|Af rfl<|Bn 16 rfl (fun h4=>?_) (fun h4=>?_)
    ·
     refine Bd 3 rfl<|Br rfl rfl<|Af rfl<|Bd 18 rfl<|Br rfl rfl<|Ae<|Ab<|Bm rfl<|Ac<|Aa rfl<|Ah rfl<|Ae<|Ab<|Bb 2 rfl rfl rfl ?_
     exact⟨congrArg Value.bool (by(first|exact(decide_eq_true (by(try simp only[okP,Cl,Cd,Cn] at *);omega)).symm|exact(decide_eq_false (by(try simp only[okP,Cl,Cd,Cn] at *);omega)).symm|exact decide_eq_decide.2 (by(try simp only[okP,Cl,Cd,Cn] at *);omega))),S⟩
    ·
     refine Av Hz rfl<|Ba sh3 rfl c rfl<|Bc rfl rfl rfl<|Bq rfl rfl<|Af rfl<|Bn 21 rfl (fun h5=>?_) (fun h5=>?_)
     ·
      refine Bd 18 rfl<|Br rfl rfl<|Ae<|Ab<|Bm rfl<|Ac<|Aa rfl<|Ah rfl<|Ae<|Ab<|Bb 2 rfl rfl rfl ?_
      exact⟨congrArg Value.bool (by(first|exact(decide_eq_true (by(try simp only[okP,Cl,Cd,Cn] at *);omega)).symm|exact(decide_eq_false (by(try simp only[okP,Cl,Cd,Cn] at *);omega)).symm|exact decide_eq_decide.2 (by(try simp only[okP,Cl,Cd,Cn] at *);omega))),S⟩
     ·
      refine Av Me rfl<|Ba sh3 rfl c rfl<|Bc rfl rfl rfl<|Af rfl<|Bn 25 rfl (fun h6=>?_) (fun h6=>?_)
      ·
       refine Bd 3 rfl<|Br rfl rfl<|Af rfl<|Av Hz rfl<|Ba sh3 rfl c rfl<|Bc rfl rfl rfl<|Af rfl<|Bn 34 rfl (fun h7=>?_) (fun h7=>?_)
       ·
        refine Bd 3 rfl<|Br rfl rfl<|Br rfl rfl<|Bq rfl rfl<|Ae<|Ab<|Bm rfl<|Ac<|Aa rfl<|Ah rfl<|Ae<|Ab<|Bb 2 rfl rfl rfl ?_
        exact⟨congrArg Value.bool (by(first|exact(decide_eq_true (by(try simp only[okP,Cl,Cd,Cn] at *);omega)).symm|exact(decide_eq_false (by(try simp only[okP,Cl,Cd,Cn] at *);omega)).symm|exact decide_eq_decide.2 (by(try simp only[okP,Cl,Cd,Cn] at *);omega))),S⟩
       ·
        refine Av Hz rfl<|Ba sh3 rfl c rfl<|Bc rfl rfl rfl<|Bq rfl rfl<|Br rfl rfl<|Bq rfl rfl<|Ae<|Ab<|An rfl (fun h8=>?_) (fun h8=>?_)
        ·
         refine Ac<|Aa rfl<|Ah rfl<|Ae<|Ab<|Bb 2 rfl rfl rfl ?_
         exact⟨congrArg Value.bool (by(first|exact(decide_eq_true (by(try simp only[okP,Cl,Cd,Cn] at *);omega)).symm|exact(decide_eq_false (by(try simp only[okP,Cl,Cd,Cn] at *);omega)).symm|exact decide_eq_decide.2 (by(try simp only[okP,Cl,Cd,Cn] at *);omega))),S⟩
        ·
         exact Ao (fun a ka=>⟨(),⟨by unfold Cl;omega,c,S⟩,ka.keep (Bf (by repeat (first|exact trivial|refine And.intro rfl ?_)))⟩)
      ·
       refine Av Me rfl<|Ba sh3 rfl c rfl<|Bc rfl rfl rfl<|Bq rfl rfl<|Af rfl<|Bn 30 rfl (fun h9=>?_) (fun h9=>?_)
       ·
        refine Av Hz rfl<|Ba sh3 rfl c rfl<|Bc rfl rfl rfl<|Af rfl<|Bn 34 rfl (fun h10=>?_) (fun h10=>?_)
        ·
         refine Bd 3 rfl<|Br rfl rfl<|Br rfl rfl<|Bq rfl rfl<|Ae<|Ab<|Bm rfl<|Ac<|Aa rfl<|Ah rfl<|Ae<|Ab<|Bb 2 rfl rfl rfl ?_
         exact⟨congrArg Value.bool (by(first|exact(decide_eq_true (by(try simp only[okP,Cl,Cd,Cn] at *);omega)).symm|exact(decide_eq_false (by(try simp only[okP,Cl,Cd,Cn] at *);omega)).symm|exact decide_eq_decide.2 (by(try simp only[okP,Cl,Cd,Cn] at *);omega))),S⟩
        ·
         refine Av Hz rfl<|Ba sh3 rfl c rfl<|Bc rfl rfl rfl<|Bq rfl rfl<|Br rfl rfl<|Bq rfl rfl<|Ae<|Ab<|An rfl (fun h11=>?_) (fun h11=>?_)
         ·
          refine Ac<|Aa rfl<|Ah rfl<|Ae<|Ab<|Bb 2 rfl rfl rfl ?_
          exact⟨congrArg Value.bool (by(first|exact(decide_eq_true (by(try simp only[okP,Cl,Cd,Cn] at *);omega)).symm|exact(decide_eq_false (by(try simp only[okP,Cl,Cd,Cn] at *);omega)).symm|exact decide_eq_decide.2 (by(try simp only[okP,Cl,Cd,Cn] at *);omega))),S⟩
         ·
          exact Ao (fun a ka=>⟨(),⟨by unfold Cl;omega,c,S⟩,ka.keep (Bf (by repeat (first|exact trivial|refine And.intro rfl ?_)))⟩)
       ·
        refine Bd 8 rfl<|Bq rfl rfl<|Bq rfl rfl<|Ae<|Ab<|Bw rfl ?_
        exact Ao (fun a ka=>⟨(),⟨by unfold Cl;omega,c,S⟩,ka.keep (Bf (by repeat (first|exact trivial|refine And.intro rfl ?_)))⟩)
 obtain⟨hkp,c,S⟩:=hJ
 unfold Cl at hkp
 refine Hi (α:=Unit) (fun _=>[(1,.pointer (some ⟨d,0,none⟩))]) (fun _ w12=>Cl o.box o.kind∧(-1073741824≤o.a∧o.a≤1073741824 ∧ -1073741824≤o.b∧o.b≤1073741824)∧Has w12 d [.int .i64 o.box,.int .i64 o.kind,.int .i64 o.a,.int .i64 o.b] 35∧Sub w w12) ?_ (fun _ w12 hJ=>?_)
 ·
  refine Ac<|Aa rfl<|Av Qe rfl<|Ba sh2 rfl c rfl<|Bc rfl rfl rfl<|Af rfl<|Bn 44 rfl (fun h13=>?_) (fun h13=>?_)
  ·
   refine Bd 3 rfl<|Br rfl rfl<|Af rfl<|Bd 3 rfl<|Br rfl rfl<|Af rfl<|Bd 3 rfl<|Br rfl rfl<|Ae<|Ab<|Bm rfl<|Ac<|Aa rfl<|Ah rfl<|Ae (Ab ?_);refine Bb 2 rfl rfl rfl ?_
   exact⟨congrArg Value.bool (by(first|exact(decide_eq_true (by(try simp only[okP,Cl,Cd,Cn] at *);omega)).symm|exact(decide_eq_false (by(try simp only[okP,Cl,Cd,Cn] at *);omega)).symm|exact decide_eq_decide.2 (by(try simp only[okP,Cl,Cd,Cn] at *);omega))),S⟩
  ·
   refine Av Qe rfl<|Ba sh2 rfl c rfl<|Bc rfl rfl rfl<|Bq rfl rfl<|Af rfl<|Bn 49 rfl (fun h14=>?_) (fun h14=>?_)
   ·
    refine Bd 3 rfl<|Br rfl rfl<|Af rfl<|Bd 3 rfl<|Br rfl rfl<|Ae<|Ab<|Bm rfl<|Ac<|Aa rfl<|Ah rfl<|Ae<|Ab<|Bb 2 rfl rfl rfl ?_
    exact⟨congrArg Value.bool (by(first|exact(decide_eq_true (by(try simp only[okP,Cl,Cd,Cn] at *);omega)).symm|exact(decide_eq_false (by(try simp only[okP,Cl,Cd,Cn] at *);omega)).symm|exact decide_eq_decide.2 (by(try simp only[okP,Cl,Cd,Cn] at *);omega))),S⟩
   ·
    refine Av Qd rfl<|Ba sh2 rfl c rfl<|Bc rfl rfl rfl<|Bq rfl rfl<|Af rfl<|Bn 54 rfl (fun h15=>?_) (fun h15=>?_)
    ·
     refine Bd 3 rfl<|Br rfl rfl<|Ae<|Ab<|Bm rfl<|Ac<|Aa rfl<|Ah rfl<|Ae<|Ab<|Bb 2 rfl rfl rfl ?_
     exact⟨congrArg Value.bool (by(first|exact(decide_eq_true (by(try simp only[okP,Cl,Cd,Cn] at *);omega)).symm|exact(decide_eq_false (by(try simp only[okP,Cl,Cd,Cn] at *);omega)).symm|exact decide_eq_decide.2 (by(try simp only[okP,Cl,Cd,Cn] at *);omega))),S⟩
    ·
     refine Av Qd rfl<|Ba sh2 rfl c rfl<|Bc rfl rfl rfl<|Bq rfl rfl<|Ae<|Ab<|An rfl (fun h16=>?_) (fun h16=>?_)
     ·
      refine Ac<|Aa rfl<|Ah rfl<|Ae<|Ab<|Bb 2 rfl rfl rfl ?_
      exact⟨congrArg Value.bool (by(first|exact(decide_eq_true (by(try simp only[okP,Cl,Cd,Cn] at *);omega)).symm|exact(decide_eq_false (by(try simp only[okP,Cl,Cd,Cn] at *);omega)).symm|exact decide_eq_decide.2 (by(try simp only[okP,Cl,Cd,Cn] at *);omega))),S⟩
     ·
      exact Ao (fun a ka=>⟨(),⟨by unfold Cl;omega,⟨by omega,by omega,by omega,by omega⟩,c,S⟩,ka.keep (Bf (by repeat (first|exact trivial|refine And.intro rfl ?_)))⟩)
 obtain⟨hkp,hbd,c,S⟩:=hJ
 unfold Cl at hkp
 refine Ac<|Aa rfl<|Av Me rfl<|Ba sh3 rfl c rfl<|Av Hz rfl<|Ba sh3 rfl c rfl<|Az rfl AMh (AKC o.box o.kind w12) ?_;rintro _ w17 ⟨rfl,s18⟩;have S:=S.trans s18;have c:=c.sub s18;refine Af rfl<|Bn 64 rfl (fun h19=>?_) (fun h19=>?_)
 ·
  refine Bd 3 rfl<|Br rfl rfl<|Af rfl<|Av Me rfl<|Ba sh3 rfl c rfl<|Av Hz rfl<|Ba sh3 rfl c rfl<|Az rfl AKi (AGE o.box o.kind w17) ?_;rintro _ w20 ⟨rfl,s21⟩;have S:=S.trans s21;have c:=c.sub s21;refine Af rfl<|Bn 75 rfl (fun h22=>?_) (fun h22=>?_)
  ·
   refine Bd 3 rfl<|Br rfl rfl<|Br rfl rfl<|Ah rfl<|Ae<|Ab<|Bb 2 rfl rfl rfl ?_
   exact⟨congrArg Value.bool (by(first|exact(decide_eq_true (by(try simp only[okP,Cl,Cd,Cn] at *);omega)).symm|exact(decide_eq_false (by(try simp only[okP,Cl,Cd,Cn] at *);omega)).symm|exact decide_eq_decide.2 (by(try simp only[okP,Cl,Cd,Cn] at *);omega))),S⟩
  ·
   refine Av Qd rfl<|Ba sh2 rfl c rfl<|Bc rfl rfl rfl<|Bq rfl rfl<|Br rfl rfl<|Ah rfl<|Ae<|Ab<|Bb 2 rfl rfl rfl ?_
   exact⟨congrArg Value.bool (by(first|exact(decide_eq_true (by(try simp only[okP,Cl,Cd,Cn] at *);omega)).symm|exact(decide_eq_false (by(try simp only[okP,Cl,Cd,Cn] at *);omega)).symm|exact decide_eq_decide.2 (by(try simp only[okP,Cl,Cd,Cn] at *);omega))),S⟩
 ·
  refine Av Qe rfl<|Ba sh2 rfl c rfl<|Bc rfl rfl rfl<|Bq rfl rfl<|Af rfl<|Bn 69 rfl (fun h23=>?_) (fun h23=>?_)
  ·
   refine Av Me rfl<|Ba sh3 rfl c rfl<|Av Hz rfl<|Ba sh3 rfl c rfl<|Az rfl AKi (AGE o.box o.kind w17) ?_;rintro _ w24 ⟨rfl,s25⟩;have S:=S.trans s25;have c:=c.sub s25;refine Af rfl<|Bn 75 rfl (fun h26=>?_) (fun h26=>?_)
   ·
    refine Bd 3 rfl<|Br rfl rfl<|Br rfl rfl<|Ah rfl<|Ae<|Ab<|Bb 2 rfl rfl rfl ?_
    exact⟨congrArg Value.bool (by(first|exact(decide_eq_true (by(try simp only[okP,Cl,Cd,Cn] at *);omega)).symm|exact(decide_eq_false (by(try simp only[okP,Cl,Cd,Cn] at *);omega)).symm|exact decide_eq_decide.2 (by(try simp only[okP,Cl,Cd,Cn] at *);omega))),S⟩
   ·
    refine Av Qd rfl<|Ba sh2 rfl c rfl<|Bc rfl rfl rfl<|Bq rfl rfl<|Br rfl rfl<|Ah rfl<|Ae<|Ab<|Bb 2 rfl rfl rfl ?_
    exact⟨congrArg Value.bool (by(first|exact(decide_eq_true (by(try simp only[okP,Cl,Cd,Cn] at *);omega)).symm|exact(decide_eq_false (by(try simp only[okP,Cl,Cd,Cn] at *);omega)).symm|exact decide_eq_decide.2 (by(try simp only[okP,Cl,Cd,Cn] at *);omega))),S⟩
  ·
   refine Bd 10 rfl<|Bq rfl rfl<|Ah rfl<|Ae<|Ab<|Bb 2 rfl rfl rfl ?_
   exact⟨congrArg Value.bool (by(first|exact(decide_eq_true (by(try simp only[okP,Cl,Cd,Cn] at *);omega)).symm|exact(decide_eq_false (by(try simp only[okP,Cl,Cd,Cn] at *);omega)).symm|exact decide_eq_decide.2 (by(try simp only[okP,Cl,Cd,Cn] at *);omega))),S⟩
theorem AGf(b k:Int):(Cl b k∧∃n,opN b k=some (.int .i64 n)∧(1≤n↔Cd b k)∧(n=2↔Cn b k))∨(¬Cl b k∧opN b k=none):=by
 by_cases h:Cl b k
 ·refine .inl ⟨h,?_⟩
  have h':=h
  unfold Cl at h'
  have hb:b=1∨b=2∨b=3∨b=4:=by omega
  have hk:k=1∨k=2∨k=3∨k=4∨k=5∨k=6:=by omega
  rcases hb with rfl|rfl|rfl|rfl<;>rcases hk with rfl|rfl|rfl|rfl|rfl|rfl<;>first|exact absurd h (by decide)|exact⟨_,rfl,by decide,by decide⟩
 ·refine .inr ⟨h,?_⟩
  unfold opN
  rw[List.find?_eq_none.2]
  ·rfl
  intro e he
  simp only[opT,List.mem_cons,List.not_mem_nil,or_false] at he
  rw[decide_eq_true_iff]
  rintro⟨rfl,rfl⟩
  rcases he with rfl|rfl|rfl|rfl|rfl|rfl|rfl|rfl|rfl|rfl|rfl|rfl|rfl|rfl|rfl|rfl|rfl|rfl|rfl|rfl<;>exact h (by decide)
theorem AHs(b k:Int):∃n,(opN b k).getD (.int .i64 0)=.int .i64 n∧(opN b k).isSome=decide (Cl b k)∧(Cl b k→(1≤n↔Cd b k)∧(n=2↔Cn b k)):=by
 rcases AGf b k with⟨h1,n,h2,h3,h4⟩|⟨h1,h2⟩
 ·exact⟨n,by rw[h2];rfl,by rw[h2,decide_eq_true h1];rfl,fun _=>⟨h3,h4⟩⟩
 ·exact⟨0,by rw[h2];rfl,by rw[h2,decide_eq_false h1];rfl,fun h=>absurd h h1⟩
theorem Td(o:OpT)(w:World):FC Tryz.prog 36 [.agg o.cells.toArray] w (Val (.bool (decide (okP o))) w):=by
 obtain⟨m,hm1,hm2,hm3⟩:=AHs o.box o.kind
 refine As Tryz.func36 rfl Tryz.ntmps36 rfl ?_
 have S:=Ax w
 refine Ac<|Aa rfl<|Bu rfl rfl rfl (fun i g l j d h=>?_);have S:=S.trans h
 have d:Has g i ([.int .i64 o.box,.int .i64 o.kind,.int .i64 o.a,.int .i64 o.b]) _:=d
 refine Ah rfl<|Ae<|Ab<|Ac<|Bs (fun k=>False) [] g.heap.size 12 rfl rfl mxo (fun w1 s2=>?_)
 have hNN:∀k,((False)∨g.heap.size≤k)→w.heap.size≤k:=fun k e=>e.elim (fun e=>e.elim) (fun e=>Ad S.size e)
 have hN0:∀k,g.heap.size≤k→w.heap.size≤k:=fun k e=>Ad S.size e
 have f:=d.lt;have S:=S.trans s2;have d:=d.sub s2;refine Bl 1 rfl Me rfl<|Ck 2 rfl sh3 rfl d (nE id f) rfl<|Bl 3 rfl Hz rfl<|Ck 4 rfl sh3 rfl d (nE id f) rfl<|Bg 5 rfl (fun _ _=>.buildS Hs Ht rfl rfl)<|Aq 0 rfl<|Az rfl AMU (AEn w1) ?_;rintro _ w3 ⟨s4,b6,rfl,hb6⟩;have S:=S.trans s4;have d:=d.sub s4;refine Be s4.agr<|Aq 6 rfl<|Ak (.lookupP (a:=o.box) (c:=o.kind) Tryz.underlying152 ADP ze3 rfl rfl hb6)<|Be (Agr.refl _ _)<|Bp 7 rfl rfl<|Bg 8 rfl (fun _ _=>.as (v':=.int .i64 m) (.extract rfl rfl) (by exact hm1))<|Bg 9 rfl (fun _ _=>.as (v':=.bool (decide (Cl o.box o.kind))) (.extract rfl rfl) (by exact congrArg Value.bool hm2))<|Cu 10 rfl rfl<|Cu 11 rfl rfl<|Cp<|Ab<|Ac<|Aa rfl<|Af rfl<|Af rfl<|Bn 16 rfl (fun h5=>?_) (fun h5=>?_)
 ·
  have h16:Cl o.box o.kind:=h5
  have hm3:=hm3 h16
  refine Av Qe rfl<|Ba sh2 rfl d rfl<|Az rfl AKc (ABU o.a w3) ?_;rintro _ w6 ⟨rfl,s7⟩;have S:=S.trans s7;have d:=d.sub s7;refine Br rfl rfl<|Af rfl<|Bn 21 rfl (fun h8=>?_) (fun h8=>?_)
  ·
   refine Av Qd rfl<|Ba sh2 rfl d rfl<|Az rfl AKc (ABU o.b w6) ?_;rintro _ w9 ⟨rfl,s10⟩;have S:=S.trans s10;have d:=d.sub s10;refine Br rfl rfl<|Af rfl<|Bn 26 rfl (fun h11=>?_) (fun h11=>?_)
   ·
    refine Af rfl<|Bc rfl rfl rfl<|Af rfl<|Bn 29 rfl (fun h12=>?_) (fun h12=>?_)
    ·
     refine Bd 3 rfl<|Br rfl rfl<|Br rfl rfl<|Af rfl<|Af rfl<|Bc rfl rfl rfl<|Af rfl<|Bn 38 rfl (fun h13=>?_) (fun h13=>?_)
     ·
      refine Bd 3 rfl<|Br rfl rfl<|Br rfl rfl<|Ah rfl<|Ae<|Ab<|Bb 2 rfl rfl rfl ?_
      exact⟨congrArg Value.bool (by(first|exact(decide_eq_true (by(try simp only[okP,Cl,Cd,Cn] at *);omega)).symm|exact(decide_eq_false (by(try simp only[okP,Cl,Cd,Cn] at *);omega)).symm|exact decide_eq_decide.2 (by(try simp only[okP,Cl,Cd,Cn] at *);omega))),S⟩
     ·
      refine Av Qd rfl<|Ba sh2 rfl d rfl<|Bc rfl rfl rfl<|Bq rfl rfl<|Br rfl rfl<|Ah rfl<|Ae<|Ab<|Bb 2 rfl rfl rfl ?_
      exact⟨congrArg Value.bool (by(first|exact(decide_eq_true (by(try simp only[okP,Cl,Cd,Cn] at *);omega)).symm|exact(decide_eq_false (by(try simp only[okP,Cl,Cd,Cn] at *);omega)).symm|exact decide_eq_decide.2 (by(try simp only[okP,Cl,Cd,Cn] at *);omega))),S⟩
    ·
     refine Av Qe rfl<|Ba sh2 rfl d rfl<|Bc rfl rfl rfl<|Bq rfl rfl<|Br rfl rfl<|Af rfl<|Bn 35 rfl (fun h14=>?_) (fun h14=>?_)
     ·
      refine Af rfl<|Bc rfl rfl rfl<|Af rfl<|Bn 38 rfl (fun h15=>?_) (fun h15=>?_)
      ·
       refine Bd 3 rfl<|Br rfl rfl<|Br rfl rfl<|Ah rfl<|Ae<|Ab<|Bb 2 rfl rfl rfl ?_
       exact⟨congrArg Value.bool (by(first|exact(decide_eq_true (by(try simp only[okP,Cl,Cd,Cn] at *);omega)).symm|exact(decide_eq_false (by(try simp only[okP,Cl,Cd,Cn] at *);omega)).symm|exact decide_eq_decide.2 (by(try simp only[okP,Cl,Cd,Cn] at *);omega))),S⟩
      ·
       refine Av Qd rfl<|Ba sh2 rfl d rfl<|Bc rfl rfl rfl<|Bq rfl rfl<|Br rfl rfl<|Ah rfl<|Ae<|Ab<|Bb 2 rfl rfl rfl ?_
       exact⟨congrArg Value.bool (by(first|exact(decide_eq_true (by(try simp only[okP,Cl,Cd,Cn] at *);omega)).symm|exact(decide_eq_false (by(try simp only[okP,Cl,Cd,Cn] at *);omega)).symm|exact decide_eq_decide.2 (by(try simp only[okP,Cl,Cd,Cn] at *);omega))),S⟩
     ·
      refine Bd 7 rfl<|Bq rfl rfl<|Ah rfl<|Ae<|Ab<|Bb 2 rfl rfl rfl ?_
      exact⟨congrArg Value.bool (by(first|exact(decide_eq_true (by(try simp only[okP,Cl,Cd,Cn] at *);omega)).symm|exact(decide_eq_false (by(try simp only[okP,Cl,Cd,Cn] at *);omega)).symm|exact decide_eq_decide.2 (by(try simp only[okP,Cl,Cd,Cn] at *);omega))),S⟩
   ·
    refine Bd 7 rfl<|Bq rfl rfl<|Af rfl<|Bd 7 rfl<|Bq rfl rfl<|Ah rfl<|Ae<|Ab<|Bb 2 rfl rfl rfl ?_
    exact⟨congrArg Value.bool (by(first|exact(decide_eq_true (by(try simp only[okP,Cl,Cd,Cn] at *);omega)).symm|exact(decide_eq_false (by(try simp only[okP,Cl,Cd,Cn] at *);omega)).symm|exact decide_eq_decide.2 (by(try simp only[okP,Cl,Cd,Cn] at *);omega))),S⟩
  ·
   refine Bd 3 rfl<|Bq rfl rfl<|Af rfl<|Bd 7 rfl<|Bq rfl rfl<|Af rfl<|Bd 7 rfl<|Bq rfl rfl<|Ah rfl<|Ae<|Ab<|Bb 2 rfl rfl rfl ?_
   exact⟨congrArg Value.bool (by(first|exact(decide_eq_true (by(try simp only[okP,Cl,Cd,Cn] at *);omega)).symm|exact(decide_eq_false (by(try simp only[okP,Cl,Cd,Cn] at *);omega)).symm|exact decide_eq_decide.2 (by(try simp only[okP,Cl,Cd,Cn] at *);omega))),S⟩
 ·
  have h16:¬Cl o.box o.kind:=h5
  refine Bd 3 rfl<|Bq rfl rfl<|Af rfl<|Bd 3 rfl<|Bq rfl rfl<|Af rfl<|Bd 7 rfl<|Bq rfl rfl<|Af rfl<|Bd 7 rfl<|Bq rfl rfl<|Ah rfl<|Ae<|Ab<|Bb 2 rfl rfl rfl ?_
  exact⟨congrArg Value.bool (by(first|exact(decide_eq_true (by(try simp only[okP,Cl,Cd,Cn] at *);omega)).symm|exact(decide_eq_false (by(try simp only[okP,Cl,Cd,Cn] at *);omega)).symm|exact decide_eq_decide.2 (by(try simp only[okP,Cl,Cd,Cn] at *);omega))),S⟩
def Pi(a b:Int):Int:=if a<b then -1 else if b<a then 1 else 0
def Yg(x y:It):Int:=if Pi x.k y.k=0 then Pi x.v y.v else Pi x.k y.k
def Fu(x y:It):Prop:=x.k<y.k∨x.k=y.k∧x.v<y.v
instance (x y:It):Decidable (Fu x y):=by unfold Fu;infer_instance
theorem ADl{a b:Int}(h:a<b):Pi a b = -1:=if_pos h
theorem ADm{a b:Int}(h:b<a):Pi a b=1:=by rw[Pi,if_neg (by omega),if_pos h]
theorem ADn{a b:Int}(h:a=b):Pi a b=0:=by rw[Pi,if_neg (by omega),if_neg (by omega)]
theorem Wx(a b:Int):(a<b∧Pi a b = -1)∨(b<a∧Pi a b=1)∨(a=b∧Pi a b=0):=by
 rcases Int.lt_trichotomy a b with h|h|h
 ·exact .inl ⟨h,ADl h⟩
 ·exact .inr (.inr ⟨h,ADn h⟩)
 ·exact .inr (.inl ⟨h,ADm h⟩)
theorem ABw(x y:It):(Fu x y∧Yg x y = -1)∨(Fu y x∧Yg x y=1)∨(x=y∧Yg x y=0):=by
 unfold Fu Yg
 rcases Wx x.k y.k with⟨h,e⟩|⟨h,e⟩|⟨h,e⟩<;>rw[e]
 ·exact .inl ⟨.inl h,rfl⟩
 ·exact .inr (.inl ⟨.inl h,rfl⟩)
 ·rw[if_pos rfl]
  rcases Wx x.v y.v with⟨h2,e2⟩|⟨h2,e2⟩|⟨h2,e2⟩<;>rw[e2]
  ·exact .inl ⟨.inr ⟨h,h2⟩,rfl⟩
  ·exact .inr (.inl ⟨.inr ⟨h.symm,h2⟩,rfl⟩)
  ·refine .inr (.inr ⟨?_,rfl⟩);cases x;cases y;simp_all
theorem ADq(a:Int)(w:World):FC Tryz.prog 107 [.int .i64 a] w (Val (.bool false) w):=by
 refine As Tryz.func107 rfl Tryz.ntmps107 rfl ?_
 have S:=Ax w
 refine Ac<|Aa rfl<|Ah rfl<|Ae<|Ab<|Ac<|Aa rfl<|Af rfl<|Af rfl<|Ak (.as (v':=.bool false) (.bin rfl rfl rfl) (Bt (fun h=>h rfl)))<|Ah rfl<|Ae<|Ab<|Bb 2 rfl rfl rfl ?_
 exact⟨rfl,S⟩
theorem Zl(a b:Int)(w:World):FC Tryz.prog 49 [.int .i64 a,.int .i64 b] w (Val (.int .i64 (Pi a b)) w):=by
 refine As Tryz.func49 rfl Tryz.ntmps49 rfl ?_
 have S:=Ax w
 refine Ac<|Aa rfl<|Ah rfl<|Ae<|Ab<|Ac<|Aa rfl<|Af rfl<|Az rfl AJE (ADq a w) ?_;rintro _ w1 ⟨rfl,s2⟩;have S:=S.trans s2;refine Ah rfl<|Ae<|Ab<|Ac<|Aa rfl<|Af rfl<|Az rfl AJE (ADq b w1) ?_;rintro _ w3 ⟨rfl,s4⟩;have S:=S.trans s4;refine Ah rfl<|Ae<|Ab<|Ac<|Ac<|Aa rfl<|Af rfl<|Ae<|Ab<|Bw rfl<|Ao<|Ab<|Ac<|Ac<|Aa rfl<|Af rfl ?_;refine Ae<|Ab<|Bw rfl<|Ao<|Ab<|Ac<|Ac<|Aa rfl<|Af rfl<|Af rfl<|Bc rfl rfl rfl<|Ae<|Ab<|An rfl (fun h5=>?_) (fun h5=>?_)
 ·
  have h16:a<b:=h5
  refine Ac<|Aa rfl<|Ah rfl<|Ae<|Ab<|Bb 4 rfl rfl rfl ?_
  rw[ADl h16]
  exact⟨rfl,S⟩
 ·
  have h16:¬a<b:=h5
  refine Ao<|Ab<|Ac<|Ac<|Aa rfl<|Af rfl<|Af rfl<|Bc rfl rfl rfl<|Ae<|Ab<|An rfl (fun h6=>?_) (fun h6=>?_)
  ·
   have h19:b<a:=h6
   refine Ac<|Aa rfl<|Ah rfl<|Ae<|Ab<|Bb 4 rfl rfl rfl ?_
   rw[ADm h19]
   exact⟨rfl,S⟩
  ·
   have h19:¬b<a:=h6
   refine Ao<|Ab<|Ac<|Aa rfl<|Ah rfl<|Ae<|Ab<|Bb 4 rfl rfl rfl ?_
   rw[ADn (by omega)]
   exact⟨rfl,S⟩
theorem AMx(x y:Int)(a:Option Addr)(c m:Nat)(hm:m=2)(w:World)(hl:Sl w a 1 ([x,y].map fun x=>[i6 x])):FC Tryz.prog 171 [.slice a m c] w (Val (.int .i64 (if x=0 then y else x)) w):=by
 subst hm
 refine As Tryz.func171 rfl Tryz.ntmps171 rfl ?_
 have S:=Ax w
 refine Ac<|Aa rfl<|Ah rfl<|Ae<|Ab<|Ac<|Aa rfl<|Ah rfl<|Ae<|Ab<|Ac<|Ac<|Aa rfl<|Af rfl<|Cm Dd rfl<|Af rfl ?_;refine Ae<|Ab<|Bh<|Cw (α:=Nat) (fun i=>[(3,.int .i64 0),(6,.slice a 2 c),(7,.int .i64 2),(8,.int .i64 (i:Int))]) (fun i w1=>(i≤2∧(1≤i→x=0)∧(2≤i→y=0))∧Sub w w1) (fun i=>2-i) 0 (Bf (by repeat (first|exact trivial|refine And.intro rfl ?_))) (⟨⟨by omega,fun(h:1≤0)=>absurd h (by decide),fun(h:2≤0)=>absurd h (by decide)⟩,S⟩) (fun i w1 hJ=>?_)
 obtain⟨⟨hi,hp1,hp2⟩,S⟩:=hJ
 refine Ac<|Aa rfl<|Bc rfl rfl rfl<|Ae<|Ab<|Ac<|An rfl (fun h2=>?_) (fun h2=>?_)
 ·
  obtain⟨z,hz⟩:=Ce (l:=[x,y]) (i:=i) (by show i<2;omega)
  have hzz:(i=0∧z=x)∨(i=1∧z=y):=(by have hi2:i=0∨i=1:=(by omega);rcases hi2 with rfl|rfl;exact .inl ⟨rfl,by simpa using hz.symm⟩;exact .inr ⟨rfl,by simpa using hz.symm⟩)
  refine Ao<|Ab<|Ac<|Bh<|Ac<|Aa rfl<|Ak (.indexS Dd rfl rfl (by omega) (hl.is (i:=0) (by simp only[Aj,Al,Am];omega)))<|Ak (.load1 sh3 rfl ((hl.sub S).one (enc:=i6) (i:=i) hz))<|Ah rfl<|Ae<|Ab<|Ac<|Aa rfl<|Af rfl<|Af rfl<|Bc rfl rfl rfl ?_;refine Ae<|Ab<|An rfl (fun h3=>?_) (fun h3=>?_)
  ·
   have h14:¬z=0:=h3
   refine Ac<|Aa rfl<|Af rfl<|Ah rfl<|Ae<|Ab<|Bb 2 rfl rfl rfl ?_
   rcases hzz with⟨e,rfl⟩|⟨e,rfl⟩
   rw[if_neg h14]
   exact⟨rfl,S⟩
   rw[if_pos (hp1 (by omega))]
   exact⟨rfl,S⟩
  ·
   have h14:z=0:=Decidable.not_not.1 h3
   refine Ao<|Ab<|Aa rfl<|Ak (.as (.bin rfl rfl rfl) (Cs (y:=((i+1:Nat):Int)) (by omega) (by omega)))<|Af rfl ?_
   exact Ae (fun a ka=>⟨i+1,⟨⟨by omega,fun _=>by rcases hzz with⟨e,e2⟩|⟨e,e2⟩;rw[←e2];exact h14;exact hp1 (by omega),fun _=>by rcases hzz with⟨e,e2⟩|⟨e,e2⟩;omega;rw[←e2];exact h14⟩,S⟩,by omega,ka.keep (Bf (by repeat (first|exact trivial|refine And.intro rfl ?_)))⟩)
 ·
  have hx0:=hp1 (by omega)
  have hy0:=hp2 (by omega)
  refine Co rfl<|Ab<|Ac<|Aa rfl<|Af rfl<|Ah rfl<|Ae<|Ab<|Bb 2 rfl rfl rfl ?_
  rw[if_pos hx0,hy0]
  exact⟨rfl,S⟩
def AJw(l:List It)(key:Int):Nat:=(l.filter fun x=>decide (Gm x.k=Gm key)).length
theorem AFv(x y:It):eqL x.cells y.cells=decide (x=y):=by
 cases x;cases y
 rw[Bool.eq_iff_iff,decide_eq_true_iff]
 simp[It.cells,eqL,eq1]
theorem AAg(l m:List It)(a b:Option Addr)(c d n k:Nat)(hn:n=l.length)(hk:k=m.length)(w:World)(hl:Sl w a 2 (l.map It.cells))(hm:Sl w b 2 (m.map It.cells))(hb:l.length≤1000000):
  FC Tryz.prog 94 [.slice a n c,.slice b k d] w (Val (.bool (decide (l=m))) w):=by
 subst hn hk
 refine As Tryz.func94 rfl Tryz.ntmps94 rfl ?_
 have S:=Ax w
 refine Ac<|Aa rfl<|Ah rfl<|Ae<|Ab<|Ac<|Ac<|Aa rfl<|Af rfl<|Cm Kx rfl<|Af rfl<|Cm Kx rfl<|Bc rfl rfl rfl<|Ae<|Ab<|An rfl (fun h1=>?_) (fun h1=>?_)
 ·
  have hno:¬l=m:=(fun e=>h1 (by rw[e]))
  refine Ac<|Aa rfl<|Ah rfl<|Ae<|Ab<|Bb 4 rfl rfl rfl ?_
  rw[decide_eq_false hno]
  exact⟨rfl,S⟩
 ·
  have h10:l.length=m.length:=(by omega)
  refine Ao<|Ab<|Ac<|Ac<|Aa rfl<|Af rfl<|Cm Kx rfl<|Af rfl<|Ae<|Ab<|Bh<|Cw (α:=Nat) (fun i=>[(0,.slice a l.length c),(1,.slice b m.length d),(12,.int .i64 (l.length:Int)),(13,.int .i64 (i:Int))]) (fun i w2=>(i≤l.length∧l.take i=m.take i)∧Sub w w2) (fun i=>l.length-i) 0 (Bf (by repeat (first|exact trivial|refine And.intro rfl ?_))) (⟨⟨Nat.zero_le _,rfl⟩,S⟩) (fun i w2 hJ=>?_)
  obtain⟨⟨hi,hp⟩,S⟩:=hJ
  refine Ac<|Aa rfl<|Bc rfl rfl rfl<|Ae<|Ab<|Ac<|An rfl (fun h3=>?_) (fun h3=>?_)
  ·
   obtain⟨x,hx⟩:=Ce (l:=l) (i:=i) (by omega)
   obtain⟨y,hy⟩:=Ce (l:=m) (i:=i) (by omega)
   refine Ao<|Ab<|Ac<|Bh<|Ac<|Aa rfl<|Af rfl<|Ah rfl<|Ae<|Ab<|Ac<|Ev rfl mxo (by kernel_rfl)<|Cf rfl<|Cf rfl<|Aw (.indexS Kx rfl rfl (by omega) (hl.is (i:=0) (by simp only[Aj,Al,Am];omega)))<|Aw (.loadR (x.cells) Ub rfl ((hl.sub S).rowAt (enc:=It.cells) (i:=i) hx) rfl) ?_;refine Cf rfl<|Cf rfl<|Aw (.indexS Kx rfl rfl (by omega) (hm.is (i:=0) (by simp only[Aj,Al,Am];omega)))<|Aw (.loadR (y.cells) Ub rfl ((hm.sub S).rowAt (enc:=It.cells) (i:=i) hy) rfl)<|Aw (.neS (xs:=x.cells) (ys:=y.cells) AMq AMt Ub rfl rfl rfl rfl rfl)<|Dq (fun w4 s5=>Ab ?_);have S:=S.trans s5;refine Db rfl (fun h6=>?_) (fun h6=>?_)
   ·
    have hne:¬l=m:=(fun e=>by rw[←e,hx] at hy;cases hy;have q:=h6;rw[AFv] at q;simp at q)
    refine Ac<|Aa rfl<|Ah rfl<|Ae<|Ab<|Bb 4 rfl rfl rfl ?_
    rw[decide_eq_false hne]
    exact⟨rfl,S⟩
   ·
    have hxy:x=y:=(by have q:=h6;rw[AFv] at q;simpa using q)
    refine Ao<|Ab<|Aa rfl<|Ak (.as (.bin rfl rfl rfl) (Cs (y:=((i+1:Nat):Int)) (by omega) (by omega)))<|Af rfl ?_
    exact Ae (fun a ka=>⟨i+1,⟨⟨by omega,by rw[List.take_add_one,List.take_add_one,hp,hx,hy,hxy]⟩,S⟩,by omega,ka.keep (Bf (by repeat (first|exact trivial|refine And.intro rfl ?_)))⟩)
  ·
   have hyes:l=m:=(by rw[show i=l.length by omega,List.take_length] at hp;rw[hp,h10,List.take_length])
   refine Co rfl<|Ab<|Ac<|Aa rfl<|Ah rfl<|Ae<|Ab<|Bb 4 rfl rfl rfl ?_
   rw[decide_eq_true hyes]
   exact⟨rfl,S⟩
theorem AEr(l m:List Int)(a b:Option Addr)(c d n k:Nat)(hn:n=l.length)(hk:k=m.length)(w:World)(hl:Sl w a 1 (l.map fun x=>[i6 x]))(hm:Sl w b 1 (m.map fun x=>[i6 x]))(hb:l.length≤1000000):
  FC Tryz.prog 95 [.slice a n c,.slice b k d] w (Val (.bool (decide (l=m))) w):=by
 subst hn hk
 refine As Tryz.func95 rfl Tryz.ntmps95 rfl ?_
 have S:=Ax w
 refine Ac<|Aa rfl<|Ah rfl<|Ae<|Ab<|Ac<|Ac<|Aa rfl<|Af rfl<|Cm Ni rfl<|Af rfl<|Cm Ni rfl<|Bc rfl rfl rfl<|Ae<|Ab<|An rfl (fun h1=>?_) (fun h1=>?_)
 ·
  have hno:¬l=m:=(fun e=>h1 (by rw[e]))
  refine Ac<|Aa rfl<|Ah rfl<|Ae<|Ab<|Bb 4 rfl rfl rfl ?_
  rw[decide_eq_false hno]
  exact⟨rfl,S⟩
 ·
  have h10:l.length=m.length:=(by omega)
  refine Ao<|Ab<|Ac<|Ac<|Aa rfl<|Af rfl<|Cm Ni rfl<|Af rfl<|Ae<|Ab<|Bh<|Cw (α:=Nat) (fun i=>[(0,.slice a l.length c),(1,.slice b m.length d),(12,.int .i64 (l.length:Int)),(13,.int .i64 (i:Int))]) (fun i w2=>(i≤l.length∧l.take i=m.take i)∧Sub w w2) (fun i=>l.length-i) 0 (Bf (by repeat (first|exact trivial|refine And.intro rfl ?_))) (⟨⟨Nat.zero_le _,rfl⟩,S⟩) (fun i w2 hJ=>?_)
  obtain⟨⟨hi,hp⟩,S⟩:=hJ
  refine Ac<|Aa rfl<|Bc rfl rfl rfl<|Ae<|Ab<|Ac<|An rfl (fun h3=>?_) (fun h3=>?_)
  ·
   obtain⟨x,hx⟩:=Ce (l:=l) (i:=i) (by omega)
   obtain⟨y,hy⟩:=Ce (l:=m) (i:=i) (by omega)
   refine Ao<|Ab<|Ac<|Bh<|Ac<|Aa rfl<|Af rfl<|Ah rfl<|Ae<|Ab<|Ac<|Ev rfl mxo (by kernel_rfl)<|Cf rfl<|Cf rfl<|Aw (.indexS Ni rfl rfl (by omega) (hl.is (i:=0) (by simp only[Aj,Al,Am];omega)))<|Aw (.load1 sh2 rfl ((hl.sub S).one (enc:=i6) (i:=i) hx)) ?_;refine Cf rfl<|Cf rfl<|Aw (.indexS Ni rfl rfl (by omega) (hm.is (i:=0) (by simp only[Aj,Al,Am];omega)))<|Aw (.load1 sh2 rfl ((hm.sub S).one (enc:=i6) (i:=i) hy))<|Aw (.bin rfl rfl rfl)<|Dq (fun w4 s5=>Ab ?_);have S:=S.trans s5;refine An rfl (fun h6=>?_) (fun h6=>?_)
   ·
    have hne:¬l=m:=(fun e=>by rw[←e,hx] at hy;cases hy;exact h6 rfl)
    refine Ac<|Aa rfl<|Ah rfl<|Ae<|Ab<|Bb 4 rfl rfl rfl ?_
    rw[decide_eq_false hne]
    exact⟨rfl,S⟩
   ·
    have hxy:x=y:=Decidable.not_not.1 h6
    refine Ao<|Ab<|Aa rfl<|Ak (.as (.bin rfl rfl rfl) (Cs (y:=((i+1:Nat):Int)) (by omega) (by omega)))<|Af rfl ?_
    exact Ae (fun a ka=>⟨i+1,⟨⟨by omega,by rw[List.take_add_one,List.take_add_one,hp,hx,hy,hxy]⟩,S⟩,by omega,ka.keep (Bf (by repeat (first|exact trivial|refine And.intro rfl ?_)))⟩)
  ·
   have hyes:l=m:=(by rw[show i=l.length by omega,List.take_length] at hp;rw[hp,h10,List.take_length])
   refine Co rfl<|Ab<|Ac<|Aa rfl<|Ah rfl<|Ae<|Ab<|Bb 4 rfl rfl rfl ?_
   rw[decide_eq_true hyes]
   exact⟨rfl,S⟩
structure Mo where
 map:List It
 tab:List It
 row:List Int
 heap:List It
structure Ph where
 a1:Option Addr
 c1:Nat
 a2:Option Addr
 c2:Nat
 a3:Option Addr
 c3:Nat
 a4:Option Addr
 c4:Nat
def moC(p:Ph)(m:Mo):List Value:=[.slice p.a1 m.map.length p.c1,.slice p.a2 m.tab.length p.c2,.slice p.a3 m.row.length p.c3,.slice p.a4 m.heap.length p.c4]
def moV(p:Ph)(m:Mo):Value:=.agg (moC p m).toArray
structure MoR (w:World) (p:Ph) (m:Mo):Prop where
 h1:Sl w p.a1 2 (m.map.map It.cells)
 h2:Sl w p.a2 2 (m.tab.map It.cells)
 h3:Sl w p.a3 1 (m.row.map fun x=>[i6 x])
 h4:Sl w p.a4 2 (m.heap.map It.cells)
structure MoS (p:Ph) (m:Mo):Prop where
 k1:m.map.length≤p.c1
 k2:m.tab.length≤p.c2
 k3:m.row.length≤p.c3
 k4:m.heap.length≤p.c4
 l1:m.map.length≤1000
 l2:m.tab.length≤1000
 l3:m.row.length≤1000
 l4:m.heap.length≤1000
theorem MoR.sub{w w':World}{p:Ph}{m:Mo}(h:MoR w p m)(s:Sub w w'):MoR w' p m:=⟨h.h1.sub s,h.h2.sub s,h.h3.sub s,h.h4.sub s⟩
def upB(x y:It):Bool:=decide (x.k<y.k)
def AD1:Nat→List Node→Nat→List It→List Node × Int
 |0,ns,_,_=>(ns,0)
 |k+1,ns,at_,l=>if Xj l<0 then(ns,0) else
  ((AD1 k (AD1 k ns (at_+1) (l.take (Xj l).toNat)).1 (at_+1+(Xj l).toNat) (l.drop ((Xj l).toNat+1))).1.set at_
   (Pm 0 (l.getD (Xj l).toNat it0).k (l.getD (Xj l).toNat it0).v l.length (AD1 k ns (at_+1) (l.take (Xj l).toNat)).2 (AD1 k (AD1 k ns (at_+1) (l.take (Xj l).toNat)).1 (at_+1+(Xj l).toNat) (l.drop ((Xj l).toNat+1))).2),(at_:Int)+1)
def buildA(size:Nat)(l:List It):Ar:=⟨(AD1 (l.length+1) (List.replicate size (Eg 0)) 0 l).1,AL8 size (size-l.length)⟩
theorem AEC{A:Ar}{r:Int}{l:List It}(h:IsT A r l):Ey A r=l.length:=by
 unfold Ey
 cases hg:Ch A r with
 |none=>rw[h.size.1 hg];rfl
 |some y=>exact h.size.2 y hg
def Iz{σ:Type}(A:Ar)(step:σ→Node→Int→σ × Int):Nat→Int→σ→σ
 |0,_,s=>s
 |k+1,r,s=>match Ch A r with
  |none=>s
  |some x=>if(step s x (Ey A x.k0)).2=0 then Iz A step k x.k0 (step s x (Ey A x.k0)).1 else if(step s x (Ey A x.k0)).2=1 then Iz A step k x.k1 (step s x (Ey A x.k0)).1 else(step s x (Ey A x.k0)).1
section
variable {σ:Type} {A:Ar} {step:σ→Node→Int→σ × Int} {k:Nat} {r:Int} {s:σ} {x:Node}
theorem Ww(h:Ch A r=none):Iz A step k r s=s:=by
 cases k with
 |zero=>rfl
 |succ k=>rw[Iz,h]
theorem AH4(h:Ch A r=some x)(hq:(step s x (Ey A x.k0)).2=0):Iz A step (k+1) r s=Iz A step k x.k0 (step s x (Ey A x.k0)).1:=by rw[Iz,h];exact if_pos hq
theorem AH3(h:Ch A r=some x)(hq:(step s x (Ey A x.k0)).2=1):Iz A step (k+1) r s=Iz A step k x.k1 (step s x (Ey A x.k0)).1:=by
 rw[Iz,h];simp only[];rw[if_neg (by omega),if_pos hq]
theorem Wu(h:Ch A r=some x)(hq:¬(step s x (Ey A x.k0)).2=0∧¬(step s x (Ey A x.k0)).2=1):Iz A step (k+1) r s=(step s x (Ey A x.k0)).1:=by
 rw[Iz,h];simp only[];rw[if_neg hq.1,if_neg hq.2]
end
def Ve(s:Int)(n:Node)(left:Int):Int × Int:=(n.s, -1)
theorem AEh{A:Ar}{r:Int}{l:List It}(h:IsT A r l){k:Nat}(hk:l.length<k):Iz A Ve k r 0=l.length:=by
 cases h with
 |nil=>rw[Ww (Jp A)];rfl
 |node h1 h2 h3 h4 h5 =>
  cases k with
  |zero=>omega
  |succ k =>
   rw[Wu h1 ⟨by simp[Ve],by simp[Ve]⟩]
   simp[Ve,Pm]
   try omega
theorem Ft.has{w:World}{b:Nat}{cs:List Value}{e:TypeId}(h:Has w b cs e):Ft (· = b) (fun u=>Has u b cs e) w:=⟨fun k e=>e▸h.lt,fun u a=>h.step a (fun hn=>hn rfl)⟩
def AJO{σ:Type}(f:FuncId)(cs:List Value)(C:Nat→Prop)(I:σ→World→Prop)(step:σ→Node→Int→σ × Int):Prop :=
 ∀(s:σ) (x:Node) (left:Int) (w:World),x.ok→0≤left→left≤1000→Ft C (I s) w→FC Tryz.prog f ([x.val,.int .i64 left]++cs) w (fun v w'=>v=.int .i64 (step s x left).2∧Ft C (I (step s x left).1) w'∧Agr C w w')
theorem AEB{A:Ar}{r:Int}{l:List It}(h:IsT A r l)(hl:l.length≤1000):0≤Ey A r∧Ey A r≤1000:=by rw[AEC h];omega
theorem AJq(A:Ar)(r:Int):∃(y:Node) (e:Int),Zz A r=.tuple #[y.val,.int .i64 e]∧y.s=Ey A r∧(∀x,Ch A r=some x→y=x):=by
 unfold Ey
 cases h:Ch A r with
 |none=>exact⟨Eg 0,4,Kt h,rfl,fun x h=>(by cases h)⟩
 |some x=>exact⟨x,0,Io h,rfl,fun y h=>(by cases h;rfl)⟩
set_option maxHeartbeats 2000000 in
theorem AKJ{σ:Type}(f:FuncId)(hf:calleeOK Tryz.prog f=true)(cs:List Value)(C:Nat→Prop)(I:σ→World→Prop)(step:σ→Node→Int→σ × Int)(hT:AJO f cs C I step)
  (A:Ar) (na fa:Option Addr) (nc fc:Nat) (r:Int) (hr:U64 r) (s0:σ) (M:Nat→Prop) (w:World) (hA:Ft M (fun u=>ArR u na fa A) w) (hMC:∀k,M k→¬C k) (hS:Ft C (I s0) w) :
  FC Tryz.prog 68 [arV na fa nc fc A,.int .u64 r,.func (.func f) #[] cs.toArray] w (fun v w'=>Agr C w w'∧(¬isMap A r∧v=.int .i64 1∧Ft C (I s0) w'∨isMap A r∧v=.int .i64 0∧Ft C (I (Iz A step 201 r s0)) w')):=by
 have hCw:∀k,C k→k<w.heap.size:=hS.lt
 have hnok:=hA.now.nok
 refine As Tryz.func68 rfl Tryz.ntmps68 rfl ?_
 have G:Agr C w w:=Agr.refl _ _
 refine Ac<|Aa rfl<|Bu rfl rfl rfl (fun H K N T c J=>?_)
 have geG_3:=Gi G N
 have G:=G.trans J.agr;have hA:=hA.sub J;have hS:=hS.sub J
 have c:Has K H ([.slice na A.nodes.length nc,.slice fa A.free.length fc]) _:=c
 refine Ah rfl<|Ae<|Ab<|Ac<|Ac<|Aa rfl<|Ak (.loadR ([.slice na A.nodes.length nc,.slice fa A.free.length fc]) Cb rfl c.row rfl)<|Af rfl<|Az rfl AKd (ABV A na fa nc fc r hr K hA.now) ?_;rintro _ w1 ⟨rfl,s2⟩;have G:=G.trans s2.agr;have hA:=hA.sub s2;have hS:=hS.sub s2;have c:=c.sub s2;refine Ak (.not rfl)<|Ae<|Ab<|Db rfl (fun h3=>?_) (fun h3=>?_)
 ·
  have hno:¬isMap A r:=(fun h=>by have h2:=h3;rw[Qk h] at h2;cases h2)
  refine Ac<|Aa rfl<|Ah rfl<|Ae<|Ab<|Bb 6 rfl rfl rfl ?_
  exact⟨G,.inl ⟨hno,rfl,hS⟩⟩
 ·
  have hmb:isMapB A r=true:=(by simpa using h3)
  have hmap:isMap A r:=(Ic A r).1 (by simpa using h3)
  obtain⟨_,l0,hl0,hll0⟩:=hmap
  have geb:=geG_3
  have hC3:¬C H:=fun e=>by have:=hCw _ e;omega
  refine Ao<|Ab<|Ac<|Bh<|Cw (α:=Nat × Int × σ) (fun x=>[(1,.int .u64 x.2.1),(2,.func (.func f) #[] cs.toArray),(3,.pointer (some ⟨H,0,none⟩))]) (fun x w4=>(U64 x.2.1∧(∃l,IsT A x.2.1 l∧l.length<x.1∧l.length≤200)∧Iz A step 201 r s0=Iz A step x.1 x.2.1 x.2.2)∧Has w4 H [.slice na A.nodes.length nc,.slice fa A.free.length fc] 26∧Ft M (fun u=>ArR u na fa A) w4∧Ft C (I x.2.2) w4∧Agr C w w4) (fun x=>x.1) (201,r,s0) (Bf (by repeat (first|exact trivial|refine And.intro rfl ?_))) (⟨⟨hr,⟨l0,hl0,Nat.lt_succ_of_le hll0,hll0⟩,rfl⟩,c,hA,hS,G⟩) (fun x w4 hJ=>?_)
  obtain⟨k,q,s⟩:=x;obtain⟨⟨hq,⟨l,hl,hlk,hl2⟩,hd⟩,c,hA,hS,G⟩:=hJ;simp only[] at hq hl hlk hd hS
  refine Ac<|Ac<|Aa rfl<|Af rfl<|Bc rfl rfl rfl<|Ae<|Ab<|An rfl (fun h5=>?_) (fun h5=>?_)
  ·
   obtain⟨g,a,b,it,L,R,el,e1,e2,e3,_,_⟩:=hl.ne h5
   have hll:l.length=L.length+(R.length+1):=(by rw[el];simp)
   obtain⟨x,hgx,hxa,hxb⟩:∃x,Ch A q=some x∧IsT A x.k0 L∧IsT A x.k1 R:=⟨_,e1,e2,e3⟩
   clear e1 e2 e3 el
   have hxo:=hnok x (Ek hgx)
   have hsr:=AEB hxa (by omega)
   obtain⟨y2,f2,hgv2,hys,hyg⟩:=AJq A x.k0
   obtain⟨k,rfl⟩:∃m,k=m+1:=⟨k-1,by omega⟩
   refine Ao<|Ab<|Bh<|Ac<|Aa rfl<|Ak (.loadR ([.slice na A.nodes.length nc,.slice fa A.free.length fc]) Cb rfl c.row rfl)<|Af rfl<|Az rfl Ll (Jc A na fa nc fc q hq w4 hA.now) ?_;rintro _ w6 ⟨rfl,s7⟩;have G:=G.trans s7.agr;have c:=c.sub s7;have hA:=hA.sub s7;have hS:=hS.sub s7;refine Ak (.as (v':=.tuple #[x.val,.int .i64 0]) (.move rfl) (by rw[Io hgx]))<|Bz rfl rfl<|Bz rfl rfl<|Ay Dx rfl rfl (fun P V F S d E=>?_);have z:=c.ne F;have p:=hA.neNew F;have n:=hS.neNew F
   have geG_7:=Gi G F
   have G:=G.trans E.agr;have c:=c.sub E;have hA:=hA.sub E;have hS:=hS.sub E;refine At Ct rfl rfl rfl d (fun w8 z8 d a8=>?_)
   have G:=Dv G a8 geG_7
   have c:=c.upd a8 z;have hA:=hA.updD a8 p;have hS:=hS.updD a8 n
   have d:Has w8 P (x.cells) _:=d.now (by kernel_rfl)
   refine Ah rfl<|Ae<|Ab<|Ac<|Aa rfl<|Ak (.loadR ([.slice na A.nodes.length nc,.slice fa A.free.length fc]) Cb rfl c.row rfl)<|Av Da rfl<|Ak (.indexArr Eb rfl rfl (by omega))<|Ba Dm rfl d rfl<|Az rfl Ll (Jc A na fa nc fc x.k0 (hxo.kids _ (by simp[Node.kids])) w8 hA.now) ?_;rintro _ w9 ⟨rfl,s10⟩;have G:=G.trans s10.agr;have c:=c.sub s10;have hA:=hA.sub s10;have hS:=hS.sub s10;have d:=d.sub s10;refine Ak (.as (v':=.tuple #[y2.val,.int .i64 f2]) (.move rfl) (by rw[hgv2]))<|Bz rfl rfl<|Bz rfl rfl<|Ay Dx rfl rfl (fun O U D Q i B=>?_);have y:=c.ne D;have t:=d.ne D;have o:=hA.neNew D;have j:=hS.neNew D
   have geG_9:=Gi G D
   have G:=G.trans B.agr;have c:=c.sub B;have hA:=hA.sub B;have hS:=hS.sub B;have d:=d.sub B;refine At Ct rfl rfl rfl i (fun w11 z11 i a11=>?_)
   have G:=Dv G a11 geG_9
   have c:=c.upd a11 y;have hA:=hA.updD a11 o;have hS:=hS.updD a11 j;have d:=d.upd a11 t
   have i:Has w11 O (y2.cells) _:=i.now (by kernel_rfl)
   refine Ah rfl<|Ae<|Ab<|Ac<|Aa rfl<|Af rfl<|Ak (.loadR (x.cells) Ct rfl d.row rfl)<|Av Hg rfl<|Ak (.as (v':=.int .i64 (Ey A x.k0)) (.load1 sh2 rfl (i.cell rfl)) (by rw[hys]))<|Dl rfl rfl (us:=[]) (cs:=cs) hf (hT s x (Ey A x.k0) w11 hxo hsr.1 hsr.2 hS) rfl rfl ?_;rintro _ w12 ⟨rfl,hS2,ag⟩
   have hG7:=geG_7
   have hG9:=geG_9
   have G:=G.trans ag;have hA:=hA.step ag hMC;have c:=c.step ag hC3;have d:=d.step ag (fun e=>by have:=hCw _ e;omega)
   have hS:=hS2
   refine Ah rfl<|Ae<|Ab<|Ac<|Ac<|Aa rfl<|Af rfl<|Bc rfl rfl rfl<|Af rfl<|Bn 39 rfl (fun h14=>?_) (fun h14=>?_)
   ·
    have hn0:=h14
    refine Af rfl<|Bc rfl rfl rfl<|Br rfl rfl<|Ae<|Ab<|An rfl (fun h15=>?_) (fun h15=>?_)
    ·
     have hn1:=h15
     refine Co rfl<|Ab<|Ac<|Aa rfl<|Ah rfl<|Ae<|Ab<|Bb 6 rfl rfl rfl ?_
     rw[hd,Wu hgx ⟨hn0,hn1⟩]
     exact⟨G,.inr ⟨(Ic A r).1 hmb,rfl,hS⟩⟩
    ·
     have hs1:(step s x (Ey A x.k0)).2=1:=Decidable.not_not.1 h15
     refine Ao<|Ab<|Aa rfl<|Ak (.as (v':=.int .i64 1) (.move rfl) (by rw[hs1]))<|Av Da rfl<|Ak (.indexArr Eb rfl rfl (by omega))<|Ba Dm rfl d rfl<|Ah rfl ?_
     exact Ae (fun a ka=>⟨(k,x.k1,(step s x (Ey A x.k0)).1),⟨⟨hxo.kids _ (by simp[Node.kids]),⟨R,hxb,by omega,by omega⟩,by rw[hd,AH3 hgx hs1]⟩,c,hA,hS,G⟩,by omega,ka.keep (Bf (by repeat (first|exact trivial|refine And.intro rfl ?_)))⟩)
   ·
    have hs0:(step s x (Ey A x.k0)).2=0:=Decidable.not_not.1 h14
    refine Bd 2 rfl<|Bq rfl rfl<|Ae<|Ab<|Bw rfl<|Ao<|Ab<|Aa rfl<|Ak (.as (v':=.int .i64 0) (.move rfl) (by rw[hs0]))<|Av Da rfl<|Ak (.indexArr Eb rfl rfl (by omega))<|Ba Dm rfl d rfl<|Ah rfl ?_
    exact Ae (fun a ka=>⟨(k,x.k0,(step s x (Ey A x.k0)).1),⟨⟨hxo.kids _ (by simp[Node.kids]),⟨L,hxa,by omega,by omega⟩,by rw[hd,AH4 hgx hs0]⟩,c,hA,hS,G⟩,by omega,ka.keep (Bf (by repeat (first|exact trivial|refine And.intro rfl ?_)))⟩)
  ·
   obtain rfl:q=0:=Decidable.not_not.1 h5
   rw[Ww (Jp A)] at hd
   refine Co rfl<|Ab<|Ac<|Aa rfl<|Ah rfl<|Ae<|Ab<|Bb 6 rfl rfl rfl ?_
   rw[hd]
   exact⟨G,.inr ⟨(Ic A r).1 hmb,rfl,hS⟩⟩
theorem AEV{A:Ar}{r:Int}{l:List It}(h:isMap A r)(hl:IsT A r l):l.length≤200:=by
 obtain⟨_,m,h1,h2⟩:=h
 rw[hl.unique h1];exact h2
theorem AEi{σ:Type}{C:Nat→Prop}{I:σ→World→Prop}{step:σ→Node→Int→σ × Int}{A:Ar}{r:Int}{s0:σ}{v:Value}{w':World}(h:¬isMap A r∧v=.int .i64 1∧Ft C (I s0) w'∨isMap A r∧v=.int .i64 0∧Ft C (I (Iz A step 201 r s0)) w'):
  ∃s e,v=.int .i64 e∧Ft C (I s) w'∧(¬isMap A r∧e=1∧s=s0∨isMap A r∧e=0∧s=Iz A step 201 r s0):=by
 rcases h with⟨h1,h2,h3⟩|⟨h1,h2,h3⟩
 ·exact⟨s0,1,h2,h3,.inl ⟨h1,rfl,rfl⟩⟩
 ·exact⟨_,0,h2,h3,.inr ⟨h1,rfl,rfl⟩⟩
def AMI(b2:Nat)(s:Int)(u:World):Prop:=Has u b2 [.int .i64 s] 3
theorem AJl(b2:Nat):AJO 104 [.pointer (some ⟨b2,0,none⟩)] (· = b2) (AMI b2) Ve:=by
 intro s x left w hx h0 h1 hS
 have hb2:Has w b2 [.int .i64 s] 3:=hS.now
 refine As Tryz.func104 rfl Tryz.ntmps104 rfl ?_
 have G:Agr (· = b2) w w:=Agr.refl _ _
 refine Ac<|Aa rfl<|Bu rfl rfl rfl (fun e c d f a b=>?_)
 have n2__3:=hb2.ne d
 have G:=G.trans b.agr;have hb2:=hb2.sub b
 have a:Has c e (x.cells) _:=a
 refine Ah rfl<|Ae<|Ab<|Ac<|Aa rfl<|Av Hg rfl<|Ba sh2 rfl a rfl<|At sh3 rfl rfl rfl hb2 (fun w1 z1 hb2 a1=>?_);have G:=G.trans a1;refine Ae<|Ab<|Ac<|Aa rfl<|Ah rfl<|Ae<|Ab<|Bb 5 rfl rfl rfl ?_
 exact⟨rfl,Ft.has hb2,G⟩
theorem AIG(A:Ar)(na fa:Option Addr)(nc fc:Nat)(r:Int)(hr:U64 r)(w:World)(hA:ArR w na fa A):
  FC Tryz.prog 46 [arV na fa nc fc A,.int .u64 r] w (fun v w'=>Sub w w'∧∃n e,v=.tuple #[.int .i64 n,.int .i64 e]∧(¬isMap A r→n=0∧e=1)∧∀l,isMap A r→IsT A r l→n=l.length∧e=0):=by
 refine As Tryz.func46 rfl Tryz.ntmps46 rfl ?_
 have S:=Ax w
 refine Ac<|Aa rfl<|Bu rfl rfl rfl (fun o j x q a m=>?_);have S:=S.trans m
 have a:Has j o ([.slice na A.nodes.length nc,.slice fa A.free.length fc]) _:=a
 refine Ah rfl<|Ah rfl<|Ae<|Ab<|Ac<|Aa rfl<|Ay ze3 rfl rfl (fun i t g p b f=>?_);have d:=S.le g;have c:=a.ne g;have S:=S.trans f;have a:=a.sub f;refine At sh3 rfl rfl rfl b (fun w1 z1 b a1=>?_);have S:=S.upd a1 d;have a:=a.upd a1 c;refine Ae<|Ab<|Ac<|Aa rfl<|Ak (.loadR ([.slice na A.nodes.length nc,.slice fa A.free.length fc]) Cb rfl a.row rfl)<|Af rfl<|Ak (.func (xs:=[]) (ys:=[_]) rfl rfl)<|Az rfl AMV (AKJ 104 AL4 _ _ _ _ (AJl i) A na fa nc fc r hr (0:Int) (· < w.heap.size) w1 ((Hm fun u s=>hA.sub s).sub S) (fun k hk e=>by omega) (Ft.has b)) ?_;rintro _ w2 ⟨ag,hr2⟩
 obtain⟨s,e,rfl,hS,hse⟩:=AEi hr2
 have S:=S.agrN ag (fun k e=>e▸d)
 have b:Has w2 i [.int .i64 s] 3:=hS.now
 refine Ah rfl<|Ae<|Ab<|Ac<|Aa rfl<|Ba sh3 rfl b rfl<|Af rfl<|Ah rfl<|Ah rfl<|Ae<|Ab<|Bo (rs:=[.tmp 4,.tmp 5]) (vs:=[_,_]) rfl rfl ⟨rfl,rfl,trivial⟩ ?_
 refine⟨S,s,e,rfl,fun h=>?_,fun l hm hl=>?_⟩
 ·rcases hse with⟨_,h2,h3⟩|⟨h2,_⟩
  ·exact⟨h3,h2⟩
  ·exact absurd h2 h
 ·rcases hse with⟨h2,_⟩|⟨_,h2,h3⟩
  ·exact absurd hm h2
  ·have h4:=AEV hm hl
   exact⟨by rw[h3,AEh hl (by omega)],h2⟩
def AMo(l:List It)(key:Int):Bool:=l.any fun x=>decide (x.k=key)
theorem Ext.isT{A A':Ar}(h:Ext A A'){r:Int}{L:List It}(hr:IsT A r L):IsT A' r L:=by
 induction hr with
 |nil=>exact .nil
 |node h1 _ _ h4 h5 ih1 ih2=>exact .node (h.get h1) ih1 ih2 h4 h5
def ltL(key:Int)(L:List It):List It:=L.filter fun x=>decide (x.k<key)
def gtL(key:Int)(L:List It):List It:=L.filter fun x=>decide (key<x.k)
def AMO(L:List It)(key v:Int):List It:=ltL key L++⟨key,v⟩::gtL key L
def AMw(L:List It)(key:Int):List It:=L.filter fun x=>decide (¬x.k=key)
structure ResT where
 e:Int
 a:Int
 b:Int
 deriving DecidableEq
def Xy(l:List It)(n:Nat):It:=l.getD n it0
def AAH(l:List It)(o:OpT):List It × ResT :=
 let n:=(ltL o.a l).length
 let is:=AMo l o.a
 if o.kind=6 then(l,⟨0,l.length,0⟩)
 else if o.kind=2 then
  if is=false∧(200≤l.length∨o.box=2∧9≤AJw l o.a) then(l,⟨5,0,0⟩)
  else(AMO l o.a o.b,if is then⟨0,1,(Xy l n).v⟩ else⟨0,0,0⟩)
 else if o.kind=4 then
  if(if is then n+1 else n)=0 then(l,⟨3,0,0⟩)
  else(l,⟨0,(Xy l ((if is then n+1 else n)-1)).k,(Xy l ((if is then n+1 else n)-1)).v⟩)
 else if o.kind=5 then(l,⟨0,n,0⟩)
 else if is=false then(l,⟨3,0,0⟩)
 else(if o.kind=3 then AMw l o.a else l,⟨0,(Xy l n).v,0⟩)
def Lp(l:Nat)(r:Loop)(w:World):Prop:=w.heap[l]?=some (.loop r)
theorem Lp.lt{l r w}(h:Lp l r w):l<w.heap.size:=by
 unfold Lp at h
 rcases Nat.lt_or_ge l w.heap.size with q|q
 ·exact q
 ·rw[Array.getElem?_eq_none q] at h;cases h
theorem Lp.step{N:Nat→Prop}{l r w w'}(h:Lp l r w)(k:Agr N w w')(hn:¬N l):Lp l r w':=(k.block l h.lt hn).trans h
theorem Lp.sub{l r w w'}(h:Lp l r w)(s:Sub w w'):Lp l r w':=(s.block l h.lt).trans h
theorem Lp.upd{l r w w' b}(h:Lp l r w)(a:Agr (· = b) w w')(hn:l≠b):Lp l r w':=h.step a hn
theorem Lp.ne{l r w b}(h:Lp l r w)(hb:b=w.heap.size):l≠b:=fun e=>by have:=h.lt;omega
theorem Lp.put{l r r' w}(h:Lp l r w):Lp l r' (w.putObj l (.loop r')):=World.putObj_heap_same h.lt
theorem Uq{l:Nat}{o:Obj}{w:World}:Agr (· = l) w (w.putObj l o):=⟨rfl,rfl,rfl,by simp,fun k _ hn=>World.putObj_heap_other hn⟩

section
variable {P:Program} {n:Cx} {F:(List (Nat × Value))} {w:World} {p:Post} {ops:Array Oper} {rest:List Oper} {d:Option Tmp} {t:TypeId} {pos:String} {af:Array Edge} {g:Option (Nat × Bool)}
def FY(P:Program)(l:Nat)(args:List Value)(w:World)(R:Value→World→Prop):Prop :=
 ∃r:Loop,Lp l r w∧args.length=r.params.size∧RoundIn Fence.wide 0 P l r.fn ((r.params.zip args.toArray).foldl (fun tmps (t,a)=>tmps.setIfInBounds t a) r.tmps) r.assign r.body w (fun e w'=>∃v,e=.returned v∧R v w')
theorem ABk{l:Nat}{y:Operand}{xs:List Operand}{vs:List Value}{ts:Array TypeId}(hy:XL.ev F y=some (.func (.yield l) #[] #[]))(hx:evs F xs=some vs){R:Value→World→Prop}(hc:FY P l vs w R)(hg:Ed ops F g=some true)(hd:inB d n=true)
  (h:∀v w',R v w'→RL P n ops rest (upd F d v) w' p) (hq:n.round=some none:=by rfl):RL P n ops (⟨d,.call ⟨.value y,xs.toArray,ts⟩,t,pos,af,g⟩::rest) F w p:=by
 intro a k
 obtain⟨r,h1,h2,h3⟩:=hc
 have he:(execOp a.eval ⟨d,.call ⟨.value y,xs.toArray,ts⟩,t,pos,af,g⟩).run P w=.ok (.round l r.fn ((r.params.zip vs.toArray).foldl (fun tmps (t,a)=>tmps.setIfInBounds t a) r.tmps) r.assign r.body) w:=by
  have hρ:=k.agrees
  simp only[execOp,resolve,hρ y _ hy,Deferred.ofValue,Qy hρ hx,bind,Sem.bind,pure,invoke,Array.append_empty,Array.empty_append]
  exact run_yield h1 (by simpa using h2)
 rw[Il hq]
 simp only[wpListIn]
 rw[Eo k hg,if_pos rfl]
 refine⟨fun _ _=>trivial,?_⟩
 rw[Oper.semAt_eq _ _ _ (Ow he (fun _ e=>by cases e)),he]
 refine⟨fun e=>(by cases e),?_⟩
 refine RoundIn.mono h3 ?_
 rintro e w' ⟨v,rfl,hR⟩
 have:=h v w' hR _ (k.upd d v hd)
 rwa [Il hq] at this

theorem Mc{f:FuncId}{fn:Func}{c:Code}{args:List Value}{R:Value→World→Prop}{m:Nat}(hf:P.funcs[f]?=some fn)(hb:fn.body=some c)(hn:fn.ntmps=m)(ha:Nat.ble args.length m=true)
  (h:RC P ⟨m,some none,[]⟩ c (ACB 0 args) w (Post.fn P fn R)):FC P f args w R:=by
 have ha':args.length≤m:=by simpa using ha
 have key:=h {tmps:=args.toArray++Array.replicate (fn.ntmps-args.toArray.size) undef,defers:=[]} ⟨by simp[hn];omega,rfl,?_⟩
 ·rw[Hc rfl] at key
  refine callsIn_wide.1 (callsIn_of_wp (F:=Fence.wide) (n:=0) hf hb trivial (wpIn_mono key ?_))
  intro e a w' hq
  cases e<;>simp only[Post.q,Post.fn,Nm] at hq<;>first|exact hq.elim|skip
  ·obtain⟨h1,v,h2,h3⟩:=hq;exact⟨h1,v,h2,v,rfl,h3⟩
  ·obtain⟨h1,v,h2,h3⟩:=hq;exact⟨h1,v,h2,v,rfl,h3⟩
 ·intro t v ht
  obtain⟨_,h2⟩:=Sv args 0 t v ht
  simp only[Nat.sub_zero] at h2
  have hlt:t<args.length:=by
   rcases Nat.lt_or_ge t args.length with g|g
   ·exact g
   ·rw[List.getElem?_eq_none g] at h2;cases h2
  simp only[]
  rw[Array.getElem?_append_left (by simpa using hlt)]
  simpa using h2
def Qt(D:Nat):Deferred:={target:=.collected D,args:=#[]}
def Nx(P:Program)(fn:Func)(R:Value→World→Prop):Post :=
 let r:Act→World→Prop:=fun a w=>(a.defers=[]∨∃D,a.defers=[Qt D]∧w.heap[D]?=some (.deferred (some [])))∧∀w',(w'=w∧a.defers=[]∨∃D,a.defers=[Qt D]∧w'=w.putObj D (.deferred none))→∃v,(results fn a.tmps).run P w'=.ok v w'∧R v w'
 ⟨r,[],r⟩
theorem Zv{f:FuncId}{fn:Func}{c:Code}{args:List Value}{R:Value→World→Prop}{m:Nat}(hf:P.funcs[f]?=some fn)(hb:fn.body=some c)(hn:fn.ntmps=m)(ha:Nat.ble args.length m=true)
  (h:RC P ⟨m,some none,[]⟩ c (ACB 0 args) w (Nx P fn R)):FC P f args w R:=by
 have ha':args.length≤m:=by simpa using ha
 have key:=h {tmps:=args.toArray++Array.replicate (fn.ntmps-args.toArray.size) undef,defers:=[]} ⟨by simp[hn];omega,rfl,?_⟩
 ·rw[Hc rfl] at key
  refine callsIn_wide.1 (callsIn_of_wp_marks (F:=Fence.wide) (n:=0) hf hb trivial (wpIn_mono key ?_))
  have leave:∀(a:Act) (w':World),(Nx P fn R).ret a w'→LeavesInM Fence.wide 0 P fn a.tmps (fun e w'=>∃v,e=.returned v∧R v w') a.defers .returning w':=by
   rintro a w' ⟨h1,h2⟩
   rcases h1 with h1|⟨D,h1,hD⟩
   ·obtain⟨v,h3,h4⟩:=h2 w' (.inl ⟨rfl,h1⟩)
    rw[h1]
    exact⟨v,h3,v,rfl,h4⟩
   ·obtain⟨v,h3,h4⟩:=h2 _ (.inr ⟨D,h1,rfl⟩)
    rw[h1]
    exact⟨fun e=>(by cases e),.inl ⟨D,_,rfl,run_takeDeferred hD,v,h3,v,rfl,h4⟩⟩
  intro e a w' hq
  cases e<;>simp only[Post.q,Nx,Nm] at hq<;>first|exact hq.elim|skip
  ·exact leave a w' hq
  ·exact leave a w' hq
 ·intro t v ht
  obtain⟨_,h2⟩:=Sv args 0 t v ht
  simp only[Nat.sub_zero] at h2
  have hlt:t<args.length:=by
   rcases Nat.lt_or_ge t args.length with g|g
   ·exact g
   ·rw[List.getElem?_eq_none g] at h2;cases h2
  simp only[]
  rw[Array.getElem?_append_left (by simpa using hlt)]
  simpa using h2

def ACC(l:Nat)(j:Option Code)(R:Value→World→Prop)(a:Act)(w:World):Prop:=∃r,Lp l r w∧R (.bool j.isNone) (w.putObj l (.loop {r with state:=if j.isNone then .ready else .done,pending:=j}))
def AFn(l:Nat)(R:Value→World→Prop)(ids:List Nat):Post:=⟨ACC l none R,ids.map fun id=>(id,ACC l (some (.exit id)) R),ACC l (some .ret) R⟩
def AAh(P:Program)(l:Nat)(r:Loop)(R:Value→World→Prop)(m:Nat)(ids:List Nat):Post :=
 ⟨fun a1 w1=>Lp l r w1∧∀w2,Agr (· = l) w1 w2→w2.heap.size=w1.heap.size→Lp l {r with state:=.busy} w2→cwp ⟨m,some (some l),[]⟩ P r.body (AFn l R ids).q a1 w2,[],fun _ _=>False⟩
theorem Yw{l:Nat}{R:Value→World→Prop}{i:Nat}{K:Act→World→Prop}:∀ {ids:List Nat},Nm (ids.map fun id=>(id,ACC l (some (.exit id)) R)) i=some K→K=ACC l (some (.exit i)) R
 | [],h=>by cases h
 |j::ids,h=>by
  simp only[List.map_cons,Wl] at h
  split at h
  ·rename_i e;subst e;exact(Option.some.inj h).symm
  ·exact Yw h
theorem FY.intro{l m:Nat}{r:Loop}{args:List Value}{R:Value→World→Prop}{F:List (Nat × Value)}(ids:List Nat)(hl:Lp l r w)(hs:r.state=.ready)(hz:args.length=r.params.size)
  (hk:Knows ⟨m,some (some l),[]⟩ F {tmps:=(r.params.zip args.toArray).foldl (fun tmps (t,a)=>tmps.setIfInBounds t a) r.tmps,defers:=[]})
  (h:RC P ⟨m,some (some l),[]⟩ r.assign F w (AAh P l r R m ids)):FY P l args w R:=by
 refine⟨r,hl,hz,roundIn_of_wpIn trivial ?_⟩
 have key:=h _ hk
 rw[Hc rfl] at key
 refine wpIn_mono key fun e a1 w1 hq=>?_
 cases e with
 |normal =>
  obtain⟨h1,h2⟩:=hq
  refine⟨_,run_beginRound h1 hs,?_⟩
  have h3:=h2 _ Uq (by simp) h1.put
  rw[Hc rfl] at h3
  refine wpIn_mono h3 fun e a w hq=>?_
  cases e with
  |normal =>
   obtain⟨r',h4,h5⟩:=hq
   exact⟨_,_,run_endRound none h4,_,rfl,h5⟩
  |ret =>
   obtain⟨r',h4,h5⟩:=hq
   exact⟨_,_,run_endRound (some .ret) h4,_,rfl,h5⟩
  |exit i =>
   simp only[Post.q] at hq
   split at hq
   ·rename_i K hK
    rw[Yw hK] at hq
    obtain⟨r',h4,h5⟩:=hq
    exact⟨_,_,run_endRound (some (.exit i)) h4,_,rfl,h5⟩
   ·exact hq.elim
  |goto _=>exact hq.elim
  |panic _=>exact hq.elim
  |outgrown=>exact hq.elim
 |exit i =>
  simp only[Post.q,AAh,Nm] at hq
 |ret=>exact hq.elim
 |goto _=>exact hq.elim
 |panic _=>exact hq.elim
 |outgrown=>exact hq.elim
theorem ABp{l m:Nat}{r:Loop}{R:Value→World→Prop}{ids:List Nat}{F:List (Nat × Value)}(hl:Lp l r w)(h:∀w2,Agr (· = l) w w2→w2.heap.size=w.heap.size→Lp l {r with state:=.busy} w2→RC P ⟨m,some (some l),[]⟩ r.body F w2 (AFn l R ids)):
  ∀a,Knows ⟨m,some (some l),[]⟩ F a→(AAh P l r R m ids).nrm a w:=fun a ka=>⟨hl,fun w2 h1 h2 h3=>h w2 h1 h2 h3 a ka⟩
theorem Ur{n:Cx}{l:Nat}{r:Loop}{R:Value→World→Prop}{j:Option Code}{F:List (Nat × Value)}(hl:Lp l r w)(h:∀w',Agr (· = l) w w'→w'.heap.size=w.heap.size→Lp l {r with state:=if j.isNone then .ready else .done,pending:=j} w'→R (.bool j.isNone) w'):
  ∀a,Knows n F a→ACC l j R a w:=fun a ka=>⟨r,hl,h _ Uq (by simp) hl.put⟩

attribute [irreducible] ACC
def Df(D:Nat)(w:World):Prop:=w.heap[D]?=some (.deferred (some []))
theorem ABn{id m gf:Nat}{g:Operand}{ps:Array Tmp}{assign body:Code}{cs:List Value}{F:List (Nat × Value)}(hg:XL.ev F g=some (.func (.func gf) #[] cs.toArray))(hf:calleeOK P gf=true)
  (h:∀(r:Loop) (W1:World),r.state=.ready→r.pending=none→r.params=ps→r.assign=assign→r.body=body→Knows ⟨m,some (some (w.heap.size+1)),[]⟩ F {tmps:=r.tmps,defers:=[]}→Sub w W1→W1.heap.size=w.heap.size+2→Lp (w.heap.size+1) r W1→Df w.heap.size W1 →
   FC P gf (.func (.yield (w.heap.size+1)) #[] #[]::cs) W1 (fun _ W2=>∃r2,Lp (w.heap.size+1) r2 W2∧r2.state≠.busy∧∀W3,Agr (· = w.heap.size+1) W2 W3→W3.heap.size=W2.heap.size →
    ((r2.pending=none∨r2.pending=some (.exit id))∧(∀a,Knows ⟨m,some none,[Qt w.heap.size]⟩ F a→p.nrm a W3)∨r2.pending=some .ret∧∀a,Knows ⟨m,some none,[Qt w.heap.size]⟩ F a→p.ret a W3))) :
  RC P ⟨m,some none,[]⟩ (.block id (.rangeFunc g ps assign body)) F w p:=by
 intro a k
 rw[Hc rfl]
 refine wpIn_block (wpIn_rangeFunc ?_)
 intro fn _
 obtain⟨r,hr⟩:∃r:Loop,r={state:=.ready,pending:=none,fn,tmps:=a.tmps,params:=ps,assign,body,defers:=w.heap.size}:=⟨_,rfl⟩
 obtain⟨W1,hW1⟩:∃W1,W1=(w.alloc (.deferred (some []))).alloc (.loop r):=⟨_,rfl⟩
 have hL1:Lp (w.heap.size+1) r W1:=by
  have:=World.alloc_heap_new (w.alloc (.deferred (some []))) (.loop r)
  rw[World.size_alloc] at this
  rw[hW1];exact this
 have hD1:Df w.heap.size W1:=by
  rw[hW1]
  have:=World.alloc_heap_new w (.deferred (some []))
  unfold Df
  rw[Ei _ _ (by simp)]
  exact this
 have hS1:Sub w W1:=by
  rw[hW1]
  exact⟨rfl,rfl,rfl,by simp;omega,fun k hk=>by rw[Ei _ _ (by simp;omega),Ei _ _ hk]⟩
 have hz1:W1.heap.size=w.heap.size+2:=by rw[hW1];simp
 have hga:a.eval g=.func (.func gf) #[] cs.toArray:=k.agrees _ _ hg
 refine⟨w.heap.size+1,[Qt w.heap.size],W1,{target:=.fn (.func gf) cs.toArray,args:=#[.func (.yield (w.heap.size+1)) #[] #[]]},W1,gf,#[.func (.yield (w.heap.size+1)) #[] #[]]++cs.toArray,W1,?_,?_,fun _ _=>trivial,?_,fun e=>(by cases e),?_⟩
 ·rw[hW1,hr];exact run_enterLoop_outer _ _ _ _ _
 ·simp only[resolve,hga]
  simp[go_sem]
 ·simp only[invoke]
  exact Mt hf
 ·have hk1:Knows ⟨m,some (some (w.heap.size+1)),[]⟩ F {tmps:=r.tmps,defers:=[]}:=by
   rw[hr];exact⟨k.size,rfl,k.slot⟩
  have hc:=h r W1 (by rw[hr]) (by rw[hr]) (by rw[hr]) (by rw[hr]) (by rw[hr]) hk1 hS1 hz1 hL1 hD1
  unfold FC at hc
  rw[List.toArray_cons] at hc
  refine CallsIn.mono (callsIn_wide.2 hc) ?_
  rintro e W2 ⟨v,rfl,r2,h1,h2,h3⟩
  refine⟨_,_,run_endLoop h1 h2,?_⟩
  have h4:=h3 (W2.putObj (w.heap.size+1) (.loop {r2 with state:=.exhausted})) Uq (by simp)
  generalize W2.putObj (w.heap.size+1) (.loop {r2 with state:=.exhausted})=W3 at h4 ⊢
  have hk3:Knows ⟨m,some none,[Qt w.heap.size]⟩ F {a with defers:=[Qt w.heap.size]++a.defers}:=⟨k.size,by simp[k.defers],k.slot⟩
  rcases h4 with⟨h4|h4,h5⟩|⟨h4,h5⟩
  ·rw[h4]
   exact h5 _ hk3
  ·rw[h4]
   refine wpIn_exit ?_
   simp only[Exit.inBlock,if_pos]
   exact h5 _ hk3
  ·rw[h4]
   exact wpIn_ret (h5 _ hk3)
theorem ABq{m:Nat}{mk:List Deferred}{y:Code}{q:Post}{F:List (Nat × Value)}(h:RC P ⟨m,some none,mk⟩ y F w q):∀a,Knows ⟨m,some none,mk⟩ F a→(fun a w=>cwp ⟨m,some none,[]⟩ P y q.q a w) a w:=h
def Uu(r:Loop)(id:Nat)(b:Bool):Loop:={r with state:=if b then .ready else .done,pending:=if b then none else some (.exit id)}
theorem ADM{r:Loop}{id:Nat}{b:Bool}:(Uu r id b).state≠.busy:=by cases b<;>simp[Uu]
theorem ADL{r:Loop}{id:Nat}{b:Bool}:(Uu r id b).pending=none∨(Uu r id b).pending=some (.exit id):=by cases b<;>simp[Uu]
theorem AFo{r:Loop}{id:Nat}(h1:r.state=.ready)(h2:r.pending=none):r=Uu r id true:=by cases r;simp_all [Uu]
theorem AFu{n:Cx}{F:List (Nat × Value)}{tmps:Array Value}{ps:Array Tmp}{t:Nat}{v:Value}(hps:ps=#[t])(h:Knows n F {tmps:=tmps,defers:=[]})(hd:inB (some t) n=true):
  Knows n (upd F (some t) v) {tmps:=(ps.zip [v].toArray).foldl (fun tmps (t,a)=>tmps.setIfInBounds t a) tmps,defers:=[]}:=by
 subst hps
 have:=h.upd (some t) v hd
 simpa[Act.put] using this
theorem AE4{fn:Func}{R:Value→World→Prop}{rs:List ResultVar}{vs:List Value}(hrs:fn.results=rs.toArray)(hp:p.ret=(Nx P fn R).ret)(hv:Tl P F w rs vs)(hR:R (tup vs) w)(hM:n.marks=[]:=by rfl):RC P n .ret F w p :=
 ACS fun a k=>by
  rw[hp]
  refine⟨.inl (k.defers.trans hM),?_⟩
  rintro w' (⟨rfl,_⟩|⟨D,h,_⟩)
  ·exact⟨_,Dg k hrs hv,hR⟩
  ·rw[k.defers.trans hM] at h;cases h
theorem ABo{fn:Func}{D:Nat}{R:Value→World→Prop}{rs:List ResultVar}{vs:List Value}(hrs:fn.results=rs.toArray)(hp:p.ret=(Nx P fn R).ret)(hv:∀w,Tl P F w rs vs)(hD:Df D w)(hR:∀w',Agr (· = D) w w'→w'.heap.size=w.heap.size→R (tup vs) w')(hM:n.marks=[Qt D]:=by rfl):RC P n .ret F w p :=
 ACS fun a k=>by
  rw[hp]
  refine⟨.inr ⟨D,k.defers.trans hM,hD⟩,?_⟩
  rintro w' (⟨_,h⟩|⟨D',h,e⟩)
  ·rw[k.defers.trans hM] at h;cases h
  ·rw[k.defers.trans hM] at h
   obtain rfl:D=D':=by
    have:=(List.cons.inj h).1
    simp only[Qt,Deferred.mk.injEq,Target.collected.injEq] at this
    exact this.1
   subst e
   exact⟨_,Dg k hrs (hv _),hR _ Uq (by simp)⟩
theorem Df.lt{D w}(h:Df D w):D<w.heap.size:=by
 unfold Df at h
 rcases Nat.lt_or_ge D w.heap.size with q|q
 ·exact q
 ·rw[Array.getElem?_eq_none q] at h;cases h
theorem Df.step{N:Nat→Prop}{D w w'}(h:Df D w)(k:Agr N w w')(hn:¬N D):Df D w':=(k.block D h.lt hn).trans h
def Up(C:Nat→Prop)(w:World)(C':Nat→Prop):Prop:=∀k,C' k→C k∨w.heap.size≤k
theorem Up.refl(C:Nat→Prop)(w:World):Up C w C:=fun _ h=>.inl h
theorem Up.le{C C':Nat→Prop}{w w1:World}(h:Up C w1 C')(hz:w.heap.size≤w1.heap.size):Up C w C':=fun k hk=>(h k hk).imp id (Ad hz)
theorem Up.trans{C C1 C2:Nat→Prop}{w:World}(h:Up C w C1)(k:Up C1 w C2):Up C w C2:=fun i hi=>(k i hi).elim (h i) .inr
theorem Up.not{C C':Nat→Prop}{w:World}{b:Nat}(h:Up C w C')(hb:b<w.heap.size)(hn:¬C b):¬C' b:=fun e=>(h b e).elim hn (fun e=>by omega)
theorem Di{M M':Nat→Prop}{w:World}{b:Nat}(h:Up M w M')(d:∀k,M k→k≠b)(hb:b<w.heap.size):∀k,M' k→k≠b:=fun k hk e=>h.not hb (fun e'=>d _ e' rfl) (e▸hk)
theorem AMz{M M':Nat→Prop}{w:World}{v:Value}(h:Up M w M')(d:∀k,ob v=some k→M k→False)(hb:∀k,ob v=some k→k<w.heap.size):∀k,ob v=some k→M' k→False:=fun k hk=>h.not (hb k hk) (d k hk)
theorem _root_.Go.XL.Agr.up{C C1:Nat→Prop}{w w1 w2:World}(h:Agr C w w1)(u:Up C w C1)(k:Agr C1 w1 w2):Agr C w w2 :=
 ⟨k.os.trans h.os,k.tape.trans h.tape,k.output.trans h.output,Ad h.size k.size,fun i hi hn =>
  (k.block i (Nat.lt_of_lt_of_le hi h.size) (u.not hi hn)).trans (h.block i hi hn)⟩
def YT{σ α:Type}(P:Program)(l:Nat)(enc:α→Value)(ok:α→Prop)(cnt:σ→Nat)(N:Nat)(H:σ→Bool→(Nat→Prop)→World→Prop)(step:σ→α→σ × Bool):Prop :=
 ∀(s:σ) (x:α) (C:Nat→Prop) (W:World),ok x→cnt s<N→Ft C (H s true C) W→FY P l [enc x] W (fun v w'=>∃C',v=.bool (step s x).2∧Ft C' (H (step s x).1 (step s x).2 C') w'∧Agr C W w'∧Up C W C')
def Dj{σ α:Type}(step:σ→α→σ × Bool)(s:σ):List α→σ × Bool
 | []=>(s,true)
 |x::xs=>if(step s x).2=true then Dj step (step s x).1 xs else((step s x).1,false)
section
variable {σ α:Type} {step:σ→α→σ × Bool} {s:σ} {x:α}
theorem Ov{L R:List α}(h:(Dj step s L).2=true):Dj step s (L++R)=Dj step (Dj step s L).1 R:=by
 induction L generalizing s with
 |nil=>rfl
 |cons y L ih =>
  simp only[List.cons_append,Dj] at h ⊢
  by_cases q:(step s y).2=true
  ·rw[if_pos q] at h;rw[if_pos q,if_pos q];exact ih h
  ·rw[if_neg q] at h;cases h
theorem AAW{L R:List α}(h:(Dj step s L).2=false):Dj step s (L++R)=Dj step s L:=by
 induction L generalizing s with
 |nil=>simp[Dj] at h
 |cons y L ih =>
  simp only[List.cons_append,Dj] at h ⊢
  by_cases q:(step s y).2=true
  ·rw[if_pos q] at h;rw[if_pos q,if_pos q];exact ih h
  ·rw[if_neg q,if_neg q]
theorem Sk{cnt:σ→Nat}(h:∀s x,cnt (step s x).1≤cnt s+1):∀(L:List α) (s:σ),cnt (Dj step s L).1≤cnt s+L.length
 | [],s=>Nat.le_refl _
 |x::L,s=>by
  have h1:=h s x
  rw[Dj]
  split
  ·have:=Sk h L (step s x).1
   simp only[Al];omega
  ·simp only[Al];omega
theorem ADO{xs:List α}(h:(step s x).2=true):Dj step s (x::xs)=Dj step (step s x).1 xs:=by rw[Dj,if_pos h]
theorem AHp{xs:List α}(h:(step s x).2=false):Dj step s (x::xs)=((step s x).1,false):=by rw[Dj,if_neg (by simp[h])]
end
end
def Gw(l:List Int)(o:OpT):List Int × ResT :=
 if o.kind=6 then(l,⟨0,l.length,0⟩)
 else if o.kind=2∨o.kind=4 then
  if 200≤l.length then(l,⟨5,0,0⟩) else(if o.kind=2 then l++[o.a] else o.a::l,⟨0,0,0⟩)
 else if o.kind=1 then
  if o.a<0∨(l.length:Int)≤o.a then(l,⟨3,0,0⟩) else(l,⟨0,l.getD o.a.toNat 0,0⟩)
 else if l.length=0 then(l,⟨3,0,0⟩)
 else if o.kind=3 then(l.take (l.length-1),⟨0,l.getD (l.length-1) 0,0⟩)
 else(l.drop 1,⟨0,l.getD 0 0,0⟩)
def whN(l:List It)(x:It):Nat:=(l.takeWhile fun z=>decide (Fu z x)).length
def AJF(l:List It)(o:OpT):List It × ResT :=
 if o.kind=6 then(l,⟨0,l.length,0⟩)
 else if o.kind=2 then
  if 200≤l.length then(l,⟨5,0,0⟩) else(l.take (whN l ⟨o.a,o.b⟩)++⟨o.a,o.b⟩::l.drop (whN l ⟨o.a,o.b⟩),⟨0,0,0⟩)
 else if l.length=0 then(l,⟨3,0,0⟩)
 else(if o.kind=3 then l.drop 1 else l,⟨0,(Xy l 0).k,(Xy l 0).v⟩)
section
variable {H:Type} {enc:TypeId × Value→H} {W:World} {base:Nat} {sp:Nat→Bool} {held:Bool} {v:Value} {d:DataW H} {ps:List MemPlace} {r:Reach} {b:Nat}
set_option maxRecDepth 100000 in
theorem AEL(hok:Value.okWide Tryz.prog W r b 43 v)(h:DataW.Trod enc Tryz.prog W base sp held 43 v d ps):∃(a:Option Addr) (l:List Int) (c:Nat),v=.slice a l.length c∧l.length≤c∧c≤maxLen∧Sl W a 1 (l.map fun x=>[i6 x])∧∀x∈l,I64 x :=
 AHr (fun x=>[i6 x]) I64 Ni rfl rfl AH2 hok h
end
def doM(m:Mo)(o:OpT):Mo × ResT :=
 if o.box=1 then({m with map:=(AAH m.map o).1},(AAH m.map o).2)
 else if o.box=2 then({m with tab:=(AAH m.tab o).1},(AAH m.tab o).2)
 else if o.box=3 then({m with row:=(Gw m.row o).1},(Gw m.row o).2)
 else({m with heap:=(AJF m.heap o).1},(AJF m.heap o).2)
theorem AGT{l:List Int}{o:OpT}(h:l.length≤200):(Gw l o).1.length≤200:=by
 unfold Gw
 repeat' split
 all_goals simp<;>omega
abbrev UpN(w:World)(M:Nat→Prop):Prop:=Up (fun _=>False) w M
theorem By{w:World}{b:Nat}(h:w.heap.size≤b):UpN w (· = b):=fun k hk=>.inr (hk▸h)
theorem UpN.or{w:World}{M N:Nat→Prop}(h:UpN w M)(k:UpN w N):UpN w (fun x=>M x∨N x):=fun i hi=>hi.elim (h i) (k i)
theorem UpN.low{w w':World}{M:Nat→Prop}(h:UpN w' M)(hz:w.heap.size≤w'.heap.size):UpN w M:=h.le hz
def AJQ(n:Nat)(u:World)(x:RcP):Prop:=∃b1 b2,x=⟨0,rt0,some ⟨b1,0,none⟩,n,n,some ⟨b2,0,none⟩,n,n⟩∧Has u b1 (List.replicate n [i0]).flatten 3∧Has u b2 (List.replicate n [i0,i0,i0]).flatten 38
theorem AHL(n:Nat)(hn:1≤n∧n≤8)(w:World):
  FC Tryz.prog 242 [.int .i64 (n:Int)] w (fun v w'=>Sub w w'∧∃x M,v=.tuple #[x.val,.int .i64 0]∧UpN w M∧Ft M (fun u=>AJQ n u x) w'):=by
 refine As Tryz.func242 rfl Tryz.ntmps242 rfl ?_
 have S:=Ax w
 refine Ac<|Aa rfl<|Ay Gx rfl rfl (fun B t F G a E=>?_);have A:=S.le F;have S:=S.trans E;refine Ah rfl<|Ae<|Ab<|Ac<|Ac<|Aa rfl<|Af rfl<|Bc rfl rfl rfl<|Af rfl<|Bn 6 rfl (fun h1=>?_) (fun h1=>?_)
 ·
  exact absurd h1 (by omega)
 ·
  refine Af rfl<|Bc rfl rfl rfl<|Bq rfl rfl<|Ae<|Ab<|An rfl (fun h2=>?_) (fun h2=>?_)
  ·
   exact absurd h2 (by omega)
  ·
   refine Ao<|Ab<|Ac<|Bs (fun k=>k=B) [5] t.heap.size 7 rfl rfl mxo (fun w3 s4=>?_)
   have hNN:∀k,((k=B)∨t.heap.size≤k)→w.heap.size≤k:=fun k e=>e.elim (fun e=>e▸A) (fun e=>Ad S.size e)
   have hN0:∀k,t.heap.size≤k→w.heap.size≤k:=fun k e=>Ad S.size e
   have szD:=Nat.le_refl t.heap.size;have S:=S.trans s4;have a:=a.sub s4;have szD:=Ad szD s4.size;refine Bp 0 rfl rfl<|Bp 2 rfl rfl<|Ej [1,3] (by kernel_rfl) rfl (Ca rfl ?_ (Ca rfl ?_ (Do)))
   ·
    refine Dh Dd ze3 rfl rfl rfl rfl (by omega) rfl rfl (fun f z o D c i=>?_)
    have s:t.heap.size≤f:=by rw[o];exact szD
    have q:=S.le o;have l:=a.ne o;have S:=S.trans i;have a:=a.sub i;have szD:=Ad szD i.size
    have c:Has z f (List.replicate n [i0]).flatten 3:=(by have:=c;rw[Int.toNat_natCast] at this;exact this)
    refine Be i.agr<|Aq 3 rfl<|Dh Xk Nh rfl rfl rfl rfl (by omega) rfl rfl (fun d y m C b g=>?_)
    have r:t.heap.size≤d:=by rw[m];exact szD
    have p:=S.le m;have j:=a.ne m;have S:=S.trans g;have a:=a.sub g;have szD:=Ad szD g.size;have c:=c.sub g
    have b:Has y d (List.replicate n [i0,i0,i0]).flatten 38:=(by have:=b;rw[Int.toNat_natCast] at this;exact this)
    refine Be g.agr<|Bg 4 rfl (fun _ _=>.buildS Gx ADz rfl rfl)<|Aq 5 rfl<|At Fs rfl rfl rfl a (fun w5 z5 a a5=>?_);have S:=S.upd a5 A;have szD:=Ad szD a5.size;have c:=c.upd a5 l.symm;have b:=b.upd a5 j.symm
    have a:Has w5 B ((⟨0,rt0,some ⟨f,0,none⟩,n,n,some ⟨d,0,none⟩,n,n⟩:RcP).cells) _:=a.now (by kernel_rfl)
    refine Cq rfl a5 (rfl)<|Cu 6 rfl rfl<|Cp<|Ab<|Bo (rs:=[.cell 2 77,.tmp 3]) (vs:=[_,_]) rfl rfl ⟨⟨_,rfl,.inr ⟨(⟨0,rt0,some ⟨f,0,none⟩,n,n,some ⟨d,0,none⟩,n,n⟩:RcP).cells,Fs,a.row,rfl⟩⟩,rfl,trivial⟩ ?_
    exact⟨S,_,_,rfl,(By q).or (By p),(c.ft.and b.ft).imp fun u h=>⟨f,d,rfl,h.1,h.2⟩⟩
   ·
    refine Dh Xk Nh rfl rfl rfl rfl (by omega) rfl rfl (fun d y m C b g=>?_)
    have r:t.heap.size≤d:=by rw[m];exact szD
    have p:=S.le m;have j:=a.ne m;have S:=S.trans g;have a:=a.sub g;have szD:=Ad szD g.size
    have b:Has y d (List.replicate n [i0,i0,i0]).flatten 38:=(by have:=b;rw[Int.toNat_natCast] at this;exact this)
    refine Be g.agr<|Aq 1 rfl<|Dh Dd ze3 rfl rfl rfl rfl (by omega) rfl rfl (fun f z o D c i=>?_)
    have s:t.heap.size≤f:=by rw[o];exact szD
    have q:=S.le o;have l:=a.ne o;have S:=S.trans i;have a:=a.sub i;have b:=b.sub i
    have c:Has z f (List.replicate n [i0]).flatten 3:=(by have:=c;rw[Int.toNat_natCast] at this;exact this)
    refine Be i.agr<|Bg 4 rfl (fun _ _=>.buildS Gx ADz rfl rfl)<|Aq 5 rfl<|At Fs rfl rfl rfl a (fun w6 z6 a a6=>?_);have S:=S.upd a6 A;have b:=b.upd a6 j.symm;have c:=c.upd a6 l.symm
    have a:Has w6 B ((⟨0,rt0,some ⟨f,0,none⟩,n,n,some ⟨d,0,none⟩,n,n⟩:RcP).cells) _:=a.now (by kernel_rfl)
    refine Cq rfl a6 (rfl)<|Cu 6 rfl rfl<|Cp<|Ab<|Bo (rs:=[.cell 2 77,.tmp 3]) (vs:=[_,_]) rfl rfl ⟨⟨_,rfl,.inr ⟨(⟨0,rt0,some ⟨f,0,none⟩,n,n,some ⟨d,0,none⟩,n,n⟩:RcP).cells,Fs,a.row,rfl⟩⟩,rfl,trivial⟩ ?_
    exact⟨S,_,_,rfl,(By q).or (By p),(c.ft.and b.ft).imp fun u h=>⟨f,d,rfl,h.1,h.2⟩⟩
def AJP(n:Nat)(u:World)(t:TbP)(x:RcP):Prop:=∃b1 b2 b3,t=⟨some ⟨b1,0,none⟩,1,1,some ⟨b2,0,none⟩,n,n,some ⟨b3,0,none⟩,8,8⟩∧Has u b1 x.cells 77∧Has u b2 (List.replicate n [.int .i64 (-1)]).flatten 3∧Has u b3 (List.replicate 8 [.int .i64 (-1)]).flatten 3∧AJQ n u x
set_option maxHeartbeats 4000000 in
theorem AJ3(n:Nat)(hn:1≤n∧n≤8)(w:World):
  FC Tryz.prog 189 [.int .i64 (n:Int)] w (fun v w'=>Sub w w'∧∃t x M,v=.tuple #[.agg t.cells.toArray,.int .i64 0]∧UpN w M∧Ft M (fun u=>AJP n u t x) w'):=by
 refine As Tryz.func189 rfl Tryz.ntmps189 rfl ?_
 have S:=Ax w
 refine Ac<|Aa rfl<|Ay Kb rfl rfl (fun B V X aa a W=>?_);have E:=S.le X;have S:=S.trans W;refine Ah rfl<|Ae<|Ab<|Ac<|Aa rfl<|Af rfl<|Az rfl ALY (AHL n hn V) ?_;rintro _ w1 ⟨s2,x,M,rfl,up,h1⟩;have o:=Di up (fun _ (h:False)=>h.elim) a.lt
 have up:=up.low S.size
 have S:=S.trans s2;have a:=a.sub s2;refine Af rfl<|Bz rfl rfl<|Bz rfl rfl<|Ay Gx rfl rfl (fun Y ab U Z L R=>?_);have T:=S.le U;have N:=a.ne U;have O:=h1.neNew U;have S:=S.trans R;have a:=a.sub R;have h1:=h1.sub R;refine At Fs rfl rfl rfl L (fun w3 z3 L a3=>?_);have S:=S.upd a3 T;have a:=a.upd a3 N;have h1:=h1.updD a3 O
 have L:Has w3 Y (x.cells) _:=L.now (by kernel_rfl)
 refine Ah rfl<|Ae<|Ab<|Ac<|Ac<|Aa rfl<|Af rfl<|Bc rfl rfl rfl<|Ae<|Ab<|An rfl (fun h4=>?_) (fun h4=>?_)
 ·
  exact absurd rfl h4
 ·
  refine Ao<|Ab<|Ac<|Bs (fun k=>k=B) [8] w3.heap.size 10 rfl rfl mxo (fun w5 s6=>?_)
  have hNN:∀k,((k=B)∨w3.heap.size≤k)→w.heap.size≤k:=fun k e=>e.elim (fun e=>e▸E) (fun e=>Ad S.size e)
  have hN0:∀k,w3.heap.size≤k→w.heap.size≤k:=fun k e=>Ad S.size e
  have Q:=L.lt;have szD:=Nat.le_refl w3.heap.size;have S:=S.trans s6;have a:=a.sub s6;have h1:=h1.sub s6;have L:=L.sub s6;have szD:=Ad szD s6.size;refine Bg 0 rfl (fun w' s'=>.loadR (x.cells) Fs rfl (L.step s' (nE N.symm Q)).row rfl)<|Bp 3 rfl rfl<|Ej [1,2,5] (by kernel_rfl) rfl (Ca rfl ?_ (Ca rfl ?_ (Ca rfl ?_ (Do))))
  ·
   refine Bi Fm _ Gx rfl rfl rfl rfl rfl rfl rfl (fun i D l I d f=>?_)
   have z:w3.heap.size≤i:=by rw[l];exact szD
   have q:=S.le l;have j:=a.ne l;have S:=S.trans f;have a:=a.sub f;have h1:=h1.sub f;have szD:=Ad szD f.size;refine Be f.agr<|Ej [2,5] (by kernel_rfl) rfl (Ca rfl ?_ (Ca rfl ?_ (Do)))
   ·
    refine Bi Dd _ ze3 rfl rfl rfl rfl rfl rfl rfl (fun C J G P c r=>?_)
    have H:w3.heap.size≤C:=by rw[G];exact szD
    have p:=a.ne G;have S:=S.trans r;have a:=a.sub r;have h1:=h1.sub r;have szD:=Ad szD r.size;have d:=d.sub r;refine Be r.agr<|Ej [4,5] (by kernel_rfl) rfl (Ca rfl ?_ (Ca rfl ?_ (Do)))
    ·
     refine Az rfl Gf (Eu n (by omega) C J c) ?_;rintro _ w7 ⟨s8,b3,rfl,ge3,h3⟩
     have n3_2:b3≠B:=(by have:=a.lt;omega)
     have ge3:=Ad S.size ge3
     have S:=S.trans s8;have a:=a.sub s8;have h1:=h1.sub s8;have szD:=Ad szD s8.size;have d:=d.sub s8;have c:=c.sub s8;refine Be s8.agr<|Aq 5 rfl<|Bi Dd _ ze3 rfl rfl rfl rfl rfl rfl rfl (fun s F y K b g=>?_)
     have A:w3.heap.size≤s:=by rw[y];exact szD
     have m:=a.ne y
     have n3__20:=h3.ne y
     have S:=S.trans g;have a:=a.sub g;have h1:=h1.sub g;have szD:=Ad szD g.size;have d:=d.sub g;have c:=c.sub g;have h3:=h3.sub g;refine Be g.agr<|Aq 6 rfl<|Az rfl Gf (Eu 8 (by omega) s F b) ?_;rintro _ w9 ⟨s10,b4,rfl,ge4,h4⟩
     have n4_2:b4≠B:=(by have:=a.lt;omega)
     have ge4:=Ad S.size ge4
     have S:=S.trans s10;have a:=a.sub s10;have h1:=h1.sub s10;have szD:=Ad szD s10.size;have d:=d.sub s10;have c:=c.sub s10;have h3:=h3.sub s10;have b:=b.sub s10;refine Be s10.agr<|Bg 7 rfl (fun _ _=>.buildS Kb Px rfl rfl)<|Aq 8 rfl<|At Ef rfl rfl rfl a (fun w11 z11 a a11=>?_);have S:=S.upd a11 E;have h1:=h1.updD a11 o;have szD:=Ad szD a11.size;have d:=d.upd a11 j.symm;have c:=c.upd a11 p.symm;have h3:=h3.upd a11 n3_2;have b:=b.upd a11 m.symm;have h4:=h4.upd a11 n4_2
     have a:Has w11 B ((⟨some ⟨i,0,none⟩,1,1,some ⟨b3,0,none⟩,n,n,some ⟨b4,0,none⟩,8,8⟩:TbP).cells) _:=a.now (by kernel_rfl)
     refine Cq rfl a11 (rfl)<|Cu 9 rfl rfl<|Cp<|Ab<|Bo (rs:=[.cell 2 59,.tmp 3]) (vs:=[_,_]) rfl rfl ⟨⟨_,rfl,.inr ⟨(⟨some ⟨i,0,none⟩,1,1,some ⟨b3,0,none⟩,n,n,some ⟨b4,0,none⟩,8,8⟩:TbP).cells,Ef,a.row,rfl⟩⟩,rfl,trivial⟩ ?_
     exact⟨S,_,x,_,rfl,(By q).or ((By ge3).or ((By ge4).or up)),(d.ft.and (h3.ft.and (h4.ft.and h1))).imp fun u h=>⟨i,b3,b4,rfl,h.1,h.2.1,h.2.2.1,h.2.2.2⟩⟩
    ·
     refine Bi Dd _ ze3 rfl rfl rfl rfl rfl rfl rfl (fun s F y K b g=>?_)
     have A:w3.heap.size≤s:=by rw[y];exact szD
     have m:=a.ne y;have S:=S.trans g;have a:=a.sub g;have h1:=h1.sub g;have szD:=Ad szD g.size;have d:=d.sub g;have c:=c.sub g;refine Be g.agr<|Aq 4 rfl<|Az rfl Gf (Eu n (by omega) C F c) ?_;rintro _ w12 ⟨s13,b3,rfl,ge3,h3⟩
     have n3_2:b3≠B:=(by have:=a.lt;omega)
     have ge3:=Ad S.size ge3
     have S:=S.trans s13;have a:=a.sub s13;have h1:=h1.sub s13;have szD:=Ad szD s13.size;have d:=d.sub s13;have c:=c.sub s13;have b:=b.sub s13;refine Be s13.agr<|Aq 6 rfl<|Az rfl Gf (Eu 8 (by omega) s w12 b) ?_;rintro _ w14 ⟨s15,b4,rfl,ge4,h4⟩
     have n4_2:b4≠B:=(by have:=a.lt;omega)
     have ge4:=Ad S.size ge4
     have S:=S.trans s15;have a:=a.sub s15;have h1:=h1.sub s15;have szD:=Ad szD s15.size;have d:=d.sub s15;have c:=c.sub s15;have b:=b.sub s15;have h3:=h3.sub s15;refine Be s15.agr<|Bg 7 rfl (fun _ _=>.buildS Kb Px rfl rfl)<|Aq 8 rfl<|At Ef rfl rfl rfl a (fun w16 z16 a a16=>?_);have S:=S.upd a16 E;have h1:=h1.updD a16 o;have szD:=Ad szD a16.size;have d:=d.upd a16 j.symm;have c:=c.upd a16 p.symm;have b:=b.upd a16 m.symm;have h3:=h3.upd a16 n3_2;have h4:=h4.upd a16 n4_2
     have a:Has w16 B ((⟨some ⟨i,0,none⟩,1,1,some ⟨b3,0,none⟩,n,n,some ⟨b4,0,none⟩,8,8⟩:TbP).cells) _:=a.now (by kernel_rfl)
     refine Cq rfl a16 (rfl)<|Cu 9 rfl rfl<|Cp<|Ab<|Bo (rs:=[.cell 2 59,.tmp 3]) (vs:=[_,_]) rfl rfl ⟨⟨_,rfl,.inr ⟨(⟨some ⟨i,0,none⟩,1,1,some ⟨b3,0,none⟩,n,n,some ⟨b4,0,none⟩,8,8⟩:TbP).cells,Ef,a.row,rfl⟩⟩,rfl,trivial⟩ ?_
     exact⟨S,_,x,_,rfl,(By q).or ((By ge3).or ((By ge4).or up)),(d.ft.and (h3.ft.and (h4.ft.and h1))).imp fun u h=>⟨i,b3,b4,rfl,h.1,h.2.1,h.2.2.1,h.2.2.2⟩⟩
   ·
    refine Bi Dd _ ze3 rfl rfl rfl rfl rfl rfl rfl (fun s F y K b g=>?_)
    have A:w3.heap.size≤s:=by rw[y];exact szD
    have m:=a.ne y;have S:=S.trans g;have a:=a.sub g;have h1:=h1.sub g;have szD:=Ad szD g.size;have d:=d.sub g;refine Be g.agr<|Aq 2 rfl<|Bi Dd _ ze3 rfl rfl rfl rfl rfl rfl rfl (fun C J G P c r=>?_)
    have H:w3.heap.size≤C:=by rw[G];exact szD
    have p:=a.ne G;have S:=S.trans r;have a:=a.sub r;have h1:=h1.sub r;have szD:=Ad szD r.size;have d:=d.sub r;have b:=b.sub r;refine Be r.agr<|Aq 4 rfl<|Az rfl Gf (Eu n (by omega) C J c) ?_;rintro _ w17 ⟨s18,b3,rfl,ge3,h3⟩
    have n3_2:b3≠B:=(by have:=a.lt;omega)
    have ge3:=Ad S.size ge3
    have S:=S.trans s18;have a:=a.sub s18;have h1:=h1.sub s18;have szD:=Ad szD s18.size;have d:=d.sub s18;have b:=b.sub s18;have c:=c.sub s18;refine Be s18.agr<|Aq 6 rfl<|Az rfl Gf (Eu 8 (by omega) s w17 b) ?_;rintro _ w19 ⟨s20,b4,rfl,ge4,h4⟩
    have n4_2:b4≠B:=(by have:=a.lt;omega)
    have ge4:=Ad S.size ge4
    have S:=S.trans s20;have a:=a.sub s20;have h1:=h1.sub s20;have szD:=Ad szD s20.size;have d:=d.sub s20;have b:=b.sub s20;have c:=c.sub s20;have h3:=h3.sub s20;refine Be s20.agr<|Bg 7 rfl (fun _ _=>.buildS Kb Px rfl rfl)<|Aq 8 rfl<|At Ef rfl rfl rfl a (fun w21 z21 a a21=>?_);have S:=S.upd a21 E;have h1:=h1.updD a21 o;have szD:=Ad szD a21.size;have d:=d.upd a21 j.symm;have b:=b.upd a21 m.symm;have c:=c.upd a21 p.symm;have h3:=h3.upd a21 n3_2;have h4:=h4.upd a21 n4_2
    have a:Has w21 B ((⟨some ⟨i,0,none⟩,1,1,some ⟨b3,0,none⟩,n,n,some ⟨b4,0,none⟩,8,8⟩:TbP).cells) _:=a.now (by kernel_rfl)
    refine Cq rfl a21 (rfl)<|Cu 9 rfl rfl<|Cp<|Ab<|Bo (rs:=[.cell 2 59,.tmp 3]) (vs:=[_,_]) rfl rfl ⟨⟨_,rfl,.inr ⟨(⟨some ⟨i,0,none⟩,1,1,some ⟨b3,0,none⟩,n,n,some ⟨b4,0,none⟩,8,8⟩:TbP).cells,Ef,a.row,rfl⟩⟩,rfl,trivial⟩ ?_
    exact⟨S,_,x,_,rfl,(By q).or ((By ge3).or ((By ge4).or up)),(d.ft.and (h3.ft.and (h4.ft.and h1))).imp fun u h=>⟨i,b3,b4,rfl,h.1,h.2.1,h.2.2.1,h.2.2.2⟩⟩
  ·
   refine Bi Dd _ ze3 rfl rfl rfl rfl rfl rfl rfl (fun C J G P c r=>?_)
   have H:w3.heap.size≤C:=by rw[G];exact szD
   have p:=a.ne G;have S:=S.trans r;have a:=a.sub r;have h1:=h1.sub r;have szD:=Ad szD r.size;refine Be r.agr<|Ej [1,4,5] (by kernel_rfl) rfl (Ca rfl ?_ (Ca rfl ?_ (Ca rfl ?_ (Do))))
   ·
    refine Bi Fm _ Gx rfl rfl rfl rfl rfl rfl rfl (fun i D l I d f=>?_)
    have z:w3.heap.size≤i:=by rw[l];exact szD
    have q:=S.le l;have j:=a.ne l;have S:=S.trans f;have a:=a.sub f;have h1:=h1.sub f;have szD:=Ad szD f.size;have c:=c.sub f;refine Be f.agr<|Ej [4,5] (by kernel_rfl) rfl (Ca rfl ?_ (Ca rfl ?_ (Do)))
    ·
     refine Az rfl Gf (Eu n (by omega) C D c) ?_;rintro _ w22 ⟨s23,b3,rfl,ge3,h3⟩
     have n3_2:b3≠B:=(by have:=a.lt;omega)
     have ge3:=Ad S.size ge3
     have S:=S.trans s23;have a:=a.sub s23;have h1:=h1.sub s23;have szD:=Ad szD s23.size;have c:=c.sub s23;have d:=d.sub s23;refine Be s23.agr<|Aq 5 rfl<|Bi Dd _ ze3 rfl rfl rfl rfl rfl rfl rfl (fun s F y K b g=>?_)
     have A:w3.heap.size≤s:=by rw[y];exact szD
     have m:=a.ne y
     have n3__20:=h3.ne y
     have S:=S.trans g;have a:=a.sub g;have h1:=h1.sub g;have szD:=Ad szD g.size;have c:=c.sub g;have d:=d.sub g;have h3:=h3.sub g;refine Be g.agr<|Aq 6 rfl<|Az rfl Gf (Eu 8 (by omega) s F b) ?_;rintro _ w24 ⟨s25,b4,rfl,ge4,h4⟩
     have n4_2:b4≠B:=(by have:=a.lt;omega)
     have ge4:=Ad S.size ge4
     have S:=S.trans s25;have a:=a.sub s25;have h1:=h1.sub s25;have szD:=Ad szD s25.size;have c:=c.sub s25;have d:=d.sub s25;have h3:=h3.sub s25;have b:=b.sub s25;refine Be s25.agr<|Bg 7 rfl (fun _ _=>.buildS Kb Px rfl rfl)<|Aq 8 rfl<|At Ef rfl rfl rfl a (fun w26 z26 a a26=>?_);have S:=S.upd a26 E;have h1:=h1.updD a26 o;have szD:=Ad szD a26.size;have c:=c.upd a26 p.symm;have d:=d.upd a26 j.symm;have h3:=h3.upd a26 n3_2;have b:=b.upd a26 m.symm;have h4:=h4.upd a26 n4_2
     have a:Has w26 B ((⟨some ⟨i,0,none⟩,1,1,some ⟨b3,0,none⟩,n,n,some ⟨b4,0,none⟩,8,8⟩:TbP).cells) _:=a.now (by kernel_rfl)
     refine Cq rfl a26 (rfl)<|Cu 9 rfl rfl<|Cp<|Ab<|Bo (rs:=[.cell 2 59,.tmp 3]) (vs:=[_,_]) rfl rfl ⟨⟨_,rfl,.inr ⟨(⟨some ⟨i,0,none⟩,1,1,some ⟨b3,0,none⟩,n,n,some ⟨b4,0,none⟩,8,8⟩:TbP).cells,Ef,a.row,rfl⟩⟩,rfl,trivial⟩ ?_
     exact⟨S,_,x,_,rfl,(By q).or ((By ge3).or ((By ge4).or up)),(d.ft.and (h3.ft.and (h4.ft.and h1))).imp fun u h=>⟨i,b3,b4,rfl,h.1,h.2.1,h.2.2.1,h.2.2.2⟩⟩
    ·
     refine Bi Dd _ ze3 rfl rfl rfl rfl rfl rfl rfl (fun s F y K b g=>?_)
     have A:w3.heap.size≤s:=by rw[y];exact szD
     have m:=a.ne y;have S:=S.trans g;have a:=a.sub g;have h1:=h1.sub g;have szD:=Ad szD g.size;have c:=c.sub g;have d:=d.sub g;refine Be g.agr<|Aq 4 rfl<|Az rfl Gf (Eu n (by omega) C F c) ?_;rintro _ w27 ⟨s28,b3,rfl,ge3,h3⟩
     have n3_2:b3≠B:=(by have:=a.lt;omega)
     have ge3:=Ad S.size ge3
     have S:=S.trans s28;have a:=a.sub s28;have h1:=h1.sub s28;have szD:=Ad szD s28.size;have c:=c.sub s28;have d:=d.sub s28;have b:=b.sub s28;refine Be s28.agr<|Aq 6 rfl<|Az rfl Gf (Eu 8 (by omega) s w27 b) ?_;rintro _ w29 ⟨s30,b4,rfl,ge4,h4⟩
     have n4_2:b4≠B:=(by have:=a.lt;omega)
     have ge4:=Ad S.size ge4
     have S:=S.trans s30;have a:=a.sub s30;have h1:=h1.sub s30;have szD:=Ad szD s30.size;have c:=c.sub s30;have d:=d.sub s30;have b:=b.sub s30;have h3:=h3.sub s30;refine Be s30.agr<|Bg 7 rfl (fun _ _=>.buildS Kb Px rfl rfl)<|Aq 8 rfl<|At Ef rfl rfl rfl a (fun w31 z31 a a31=>?_);have S:=S.upd a31 E;have h1:=h1.updD a31 o;have szD:=Ad szD a31.size;have c:=c.upd a31 p.symm;have d:=d.upd a31 j.symm;have b:=b.upd a31 m.symm;have h3:=h3.upd a31 n3_2;have h4:=h4.upd a31 n4_2
     have a:Has w31 B ((⟨some ⟨i,0,none⟩,1,1,some ⟨b3,0,none⟩,n,n,some ⟨b4,0,none⟩,8,8⟩:TbP).cells) _:=a.now (by kernel_rfl)
     refine Cq rfl a31 (rfl)<|Cu 9 rfl rfl<|Cp<|Ab<|Bo (rs:=[.cell 2 59,.tmp 3]) (vs:=[_,_]) rfl rfl ⟨⟨_,rfl,.inr ⟨(⟨some ⟨i,0,none⟩,1,1,some ⟨b3,0,none⟩,n,n,some ⟨b4,0,none⟩,8,8⟩:TbP).cells,Ef,a.row,rfl⟩⟩,rfl,trivial⟩ ?_
     exact⟨S,_,x,_,rfl,(By q).or ((By ge3).or ((By ge4).or up)),(d.ft.and (h3.ft.and (h4.ft.and h1))).imp fun u h=>⟨i,b3,b4,rfl,h.1,h.2.1,h.2.2.1,h.2.2.2⟩⟩
   ·
    refine Az rfl Gf (Eu n (by omega) C J c) ?_;rintro _ w32 ⟨s33,b3,rfl,ge3,h3⟩
    have n3_2:b3≠B:=(by have:=a.lt;omega)
    have ge3:=Ad S.size ge3
    have S:=S.trans s33;have a:=a.sub s33;have h1:=h1.sub s33;have szD:=Ad szD s33.size;have c:=c.sub s33;refine Be s33.agr<|Ej [1,5] (by kernel_rfl) rfl (Ca rfl ?_ (Ca rfl ?_ (Do)))
    ·
     refine Bi Fm _ Gx rfl rfl rfl rfl rfl rfl rfl (fun i D l I d f=>?_)
     have z:w3.heap.size≤i:=by rw[l];exact szD
     have q:=S.le l;have j:=a.ne l
     have n3__16:=h3.ne l
     have S:=S.trans f;have a:=a.sub f;have h1:=h1.sub f;have szD:=Ad szD f.size;have c:=c.sub f;have h3:=h3.sub f;refine Be f.agr<|Aq 5 rfl<|Bi Dd _ ze3 rfl rfl rfl rfl rfl rfl rfl (fun s F y K b g=>?_)
     have A:w3.heap.size≤s:=by rw[y];exact szD
     have m:=a.ne y
     have n3__20:=h3.ne y
     have S:=S.trans g;have a:=a.sub g;have h1:=h1.sub g;have szD:=Ad szD g.size;have c:=c.sub g;have h3:=h3.sub g;have d:=d.sub g;refine Be g.agr<|Aq 6 rfl<|Az rfl Gf (Eu 8 (by omega) s F b) ?_;rintro _ w34 ⟨s35,b4,rfl,ge4,h4⟩
     have n4_2:b4≠B:=(by have:=a.lt;omega)
     have ge4:=Ad S.size ge4
     have S:=S.trans s35;have a:=a.sub s35;have h1:=h1.sub s35;have szD:=Ad szD s35.size;have c:=c.sub s35;have h3:=h3.sub s35;have d:=d.sub s35;have b:=b.sub s35;refine Be s35.agr<|Bg 7 rfl (fun _ _=>.buildS Kb Px rfl rfl)<|Aq 8 rfl<|At Ef rfl rfl rfl a (fun w36 z36 a a36=>?_);have S:=S.upd a36 E;have h1:=h1.updD a36 o;have szD:=Ad szD a36.size;have c:=c.upd a36 p.symm;have h3:=h3.upd a36 n3_2;have d:=d.upd a36 j.symm;have b:=b.upd a36 m.symm;have h4:=h4.upd a36 n4_2
     have a:Has w36 B ((⟨some ⟨i,0,none⟩,1,1,some ⟨b3,0,none⟩,n,n,some ⟨b4,0,none⟩,8,8⟩:TbP).cells) _:=a.now (by kernel_rfl)
     refine Cq rfl a36 (rfl)<|Cu 9 rfl rfl<|Cp<|Ab<|Bo (rs:=[.cell 2 59,.tmp 3]) (vs:=[_,_]) rfl rfl ⟨⟨_,rfl,.inr ⟨(⟨some ⟨i,0,none⟩,1,1,some ⟨b3,0,none⟩,n,n,some ⟨b4,0,none⟩,8,8⟩:TbP).cells,Ef,a.row,rfl⟩⟩,rfl,trivial⟩ ?_
     exact⟨S,_,x,_,rfl,(By q).or ((By ge3).or ((By ge4).or up)),(d.ft.and (h3.ft.and (h4.ft.and h1))).imp fun u h=>⟨i,b3,b4,rfl,h.1,h.2.1,h.2.2.1,h.2.2.2⟩⟩
    ·
     refine Bi Dd _ ze3 rfl rfl rfl rfl rfl rfl rfl (fun s F y K b g=>?_)
     have A:w3.heap.size≤s:=by rw[y];exact szD
     have m:=a.ne y
     have n3__20:=h3.ne y
     have S:=S.trans g;have a:=a.sub g;have h1:=h1.sub g;have szD:=Ad szD g.size;have c:=c.sub g;have h3:=h3.sub g;refine Be g.agr<|Ej [1,6] (by kernel_rfl) rfl (Ca rfl ?_ (Ca rfl ?_ (Do)))
     ·
      refine Bi Fm _ Gx rfl rfl rfl rfl rfl rfl rfl (fun i D l I d f=>?_)
      have z:w3.heap.size≤i:=by rw[l];exact szD
      have q:=S.le l;have j:=a.ne l
      have n3__16:=h3.ne l
      have S:=S.trans f;have a:=a.sub f;have h1:=h1.sub f;have szD:=Ad szD f.size;have c:=c.sub f;have h3:=h3.sub f;have b:=b.sub f;refine Be f.agr<|Aq 6 rfl<|Az rfl Gf (Eu 8 (by omega) s D b) ?_;rintro _ w37 ⟨s38,b4,rfl,ge4,h4⟩
      have n4_2:b4≠B:=(by have:=a.lt;omega)
      have ge4:=Ad S.size ge4
      have S:=S.trans s38;have a:=a.sub s38;have h1:=h1.sub s38;have szD:=Ad szD s38.size;have c:=c.sub s38;have h3:=h3.sub s38;have b:=b.sub s38;have d:=d.sub s38;refine Be s38.agr<|Bg 7 rfl (fun _ _=>.buildS Kb Px rfl rfl)<|Aq 8 rfl<|At Ef rfl rfl rfl a (fun w39 z39 a a39=>?_);have S:=S.upd a39 E;have h1:=h1.updD a39 o;have szD:=Ad szD a39.size;have c:=c.upd a39 p.symm;have h3:=h3.upd a39 n3_2;have b:=b.upd a39 m.symm;have d:=d.upd a39 j.symm;have h4:=h4.upd a39 n4_2
      have a:Has w39 B ((⟨some ⟨i,0,none⟩,1,1,some ⟨b3,0,none⟩,n,n,some ⟨b4,0,none⟩,8,8⟩:TbP).cells) _:=a.now (by kernel_rfl)
      refine Cq rfl a39 (rfl)<|Cu 9 rfl rfl<|Cp<|Ab<|Bo (rs:=[.cell 2 59,.tmp 3]) (vs:=[_,_]) rfl rfl ⟨⟨_,rfl,.inr ⟨(⟨some ⟨i,0,none⟩,1,1,some ⟨b3,0,none⟩,n,n,some ⟨b4,0,none⟩,8,8⟩:TbP).cells,Ef,a.row,rfl⟩⟩,rfl,trivial⟩ ?_
      exact⟨S,_,x,_,rfl,(By q).or ((By ge3).or ((By ge4).or up)),(d.ft.and (h3.ft.and (h4.ft.and h1))).imp fun u h=>⟨i,b3,b4,rfl,h.1,h.2.1,h.2.2.1,h.2.2.2⟩⟩
     ·
      refine Az rfl Gf (Eu 8 (by omega) s F b) ?_;rintro _ w40 ⟨s41,b4,rfl,ge4,h4⟩
      have n4_2:b4≠B:=(by have:=a.lt;omega)
      have ge4:=Ad S.size ge4
      have S:=S.trans s41;have a:=a.sub s41;have h1:=h1.sub s41;have szD:=Ad szD s41.size;have c:=c.sub s41;have h3:=h3.sub s41;have b:=b.sub s41;refine Be s41.agr<|Aq 1 rfl<|Bi Fm _ Gx rfl rfl rfl rfl rfl rfl rfl (fun i D l I d f=>?_)
      have z:w3.heap.size≤i:=by rw[l];exact szD
      have q:=S.le l;have j:=a.ne l
      have n3__16:=h3.ne l
      have n4__16:=h4.ne l
      have S:=S.trans f;have a:=a.sub f;have h1:=h1.sub f;have szD:=Ad szD f.size;have c:=c.sub f;have h3:=h3.sub f;have b:=b.sub f;have h4:=h4.sub f;refine Be f.agr<|Bg 7 rfl (fun _ _=>.buildS Kb Px rfl rfl)<|Aq 8 rfl<|At Ef rfl rfl rfl a (fun w42 z42 a a42=>?_);have S:=S.upd a42 E;have h1:=h1.updD a42 o;have szD:=Ad szD a42.size;have c:=c.upd a42 p.symm;have h3:=h3.upd a42 n3_2;have b:=b.upd a42 m.symm;have h4:=h4.upd a42 n4_2;have d:=d.upd a42 j.symm
      have a:Has w42 B ((⟨some ⟨i,0,none⟩,1,1,some ⟨b3,0,none⟩,n,n,some ⟨b4,0,none⟩,8,8⟩:TbP).cells) _:=a.now (by kernel_rfl)
      refine Cq rfl a42 (rfl)<|Cu 9 rfl rfl<|Cp<|Ab<|Bo (rs:=[.cell 2 59,.tmp 3]) (vs:=[_,_]) rfl rfl ⟨⟨_,rfl,.inr ⟨(⟨some ⟨i,0,none⟩,1,1,some ⟨b3,0,none⟩,n,n,some ⟨b4,0,none⟩,8,8⟩:TbP).cells,Ef,a.row,rfl⟩⟩,rfl,trivial⟩ ?_
      exact⟨S,_,x,_,rfl,(By q).or ((By ge3).or ((By ge4).or up)),(d.ft.and (h3.ft.and (h4.ft.and h1))).imp fun u h=>⟨i,b3,b4,rfl,h.1,h.2.1,h.2.2.1,h.2.2.2⟩⟩
   ·
    refine Bi Dd _ ze3 rfl rfl rfl rfl rfl rfl rfl (fun s F y K b g=>?_)
    have A:w3.heap.size≤s:=by rw[y];exact szD
    have m:=a.ne y;have S:=S.trans g;have a:=a.sub g;have h1:=h1.sub g;have szD:=Ad szD g.size;have c:=c.sub g;refine Be g.agr<|Ej [1,4] (by kernel_rfl) rfl (Ca rfl ?_ (Ca rfl ?_ (Do)))
    ·
     refine Bi Fm _ Gx rfl rfl rfl rfl rfl rfl rfl (fun i D l I d f=>?_)
     have z:w3.heap.size≤i:=by rw[l];exact szD
     have q:=S.le l;have j:=a.ne l;have S:=S.trans f;have a:=a.sub f;have h1:=h1.sub f;have szD:=Ad szD f.size;have c:=c.sub f;have b:=b.sub f;refine Be f.agr<|Aq 4 rfl<|Az rfl Gf (Eu n (by omega) C D c) ?_;rintro _ w43 ⟨s44,b3,rfl,ge3,h3⟩
     have n3_2:b3≠B:=(by have:=a.lt;omega)
     have ge3:=Ad S.size ge3
     have S:=S.trans s44;have a:=a.sub s44;have h1:=h1.sub s44;have szD:=Ad szD s44.size;have c:=c.sub s44;have b:=b.sub s44;have d:=d.sub s44;refine Be s44.agr<|Aq 6 rfl<|Az rfl Gf (Eu 8 (by omega) s w43 b) ?_;rintro _ w45 ⟨s46,b4,rfl,ge4,h4⟩
     have n4_2:b4≠B:=(by have:=a.lt;omega)
     have ge4:=Ad S.size ge4
     have S:=S.trans s46;have a:=a.sub s46;have h1:=h1.sub s46;have szD:=Ad szD s46.size;have c:=c.sub s46;have b:=b.sub s46;have d:=d.sub s46;have h3:=h3.sub s46;refine Be s46.agr<|Bg 7 rfl (fun _ _=>.buildS Kb Px rfl rfl)<|Aq 8 rfl<|At Ef rfl rfl rfl a (fun w47 z47 a a47=>?_);have S:=S.upd a47 E;have h1:=h1.updD a47 o;have szD:=Ad szD a47.size;have c:=c.upd a47 p.symm;have b:=b.upd a47 m.symm;have d:=d.upd a47 j.symm;have h3:=h3.upd a47 n3_2;have h4:=h4.upd a47 n4_2
     have a:Has w47 B ((⟨some ⟨i,0,none⟩,1,1,some ⟨b3,0,none⟩,n,n,some ⟨b4,0,none⟩,8,8⟩:TbP).cells) _:=a.now (by kernel_rfl)
     refine Cq rfl a47 (rfl)<|Cu 9 rfl rfl<|Cp<|Ab<|Bo (rs:=[.cell 2 59,.tmp 3]) (vs:=[_,_]) rfl rfl ⟨⟨_,rfl,.inr ⟨(⟨some ⟨i,0,none⟩,1,1,some ⟨b3,0,none⟩,n,n,some ⟨b4,0,none⟩,8,8⟩:TbP).cells,Ef,a.row,rfl⟩⟩,rfl,trivial⟩ ?_
     exact⟨S,_,x,_,rfl,(By q).or ((By ge3).or ((By ge4).or up)),(d.ft.and (h3.ft.and (h4.ft.and h1))).imp fun u h=>⟨i,b3,b4,rfl,h.1,h.2.1,h.2.2.1,h.2.2.2⟩⟩
    ·
     refine Az rfl Gf (Eu n (by omega) C F c) ?_;rintro _ w48 ⟨s49,b3,rfl,ge3,h3⟩
     have n3_2:b3≠B:=(by have:=a.lt;omega)
     have ge3:=Ad S.size ge3
     have S:=S.trans s49;have a:=a.sub s49;have h1:=h1.sub s49;have szD:=Ad szD s49.size;have c:=c.sub s49;have b:=b.sub s49;refine Be s49.agr<|Ej [1,6] (by kernel_rfl) rfl (Ca rfl ?_ (Ca rfl ?_ (Do)))
     ·
      refine Bi Fm _ Gx rfl rfl rfl rfl rfl rfl rfl (fun i D l I d f=>?_)
      have z:w3.heap.size≤i:=by rw[l];exact szD
      have q:=S.le l;have j:=a.ne l
      have n3__16:=h3.ne l
      have S:=S.trans f;have a:=a.sub f;have h1:=h1.sub f;have szD:=Ad szD f.size;have c:=c.sub f;have b:=b.sub f;have h3:=h3.sub f;refine Be f.agr<|Aq 6 rfl<|Az rfl Gf (Eu 8 (by omega) s D b) ?_;rintro _ w50 ⟨s51,b4,rfl,ge4,h4⟩
      have n4_2:b4≠B:=(by have:=a.lt;omega)
      have ge4:=Ad S.size ge4
      have S:=S.trans s51;have a:=a.sub s51;have h1:=h1.sub s51;have szD:=Ad szD s51.size;have c:=c.sub s51;have b:=b.sub s51;have h3:=h3.sub s51;have d:=d.sub s51;refine Be s51.agr<|Bg 7 rfl (fun _ _=>.buildS Kb Px rfl rfl)<|Aq 8 rfl<|At Ef rfl rfl rfl a (fun w52 z52 a a52=>?_);have S:=S.upd a52 E;have h1:=h1.updD a52 o;have szD:=Ad szD a52.size;have c:=c.upd a52 p.symm;have b:=b.upd a52 m.symm;have h3:=h3.upd a52 n3_2;have d:=d.upd a52 j.symm;have h4:=h4.upd a52 n4_2
      have a:Has w52 B ((⟨some ⟨i,0,none⟩,1,1,some ⟨b3,0,none⟩,n,n,some ⟨b4,0,none⟩,8,8⟩:TbP).cells) _:=a.now (by kernel_rfl)
      refine Cq rfl a52 (rfl)<|Cu 9 rfl rfl<|Cp<|Ab<|Bo (rs:=[.cell 2 59,.tmp 3]) (vs:=[_,_]) rfl rfl ⟨⟨_,rfl,.inr ⟨(⟨some ⟨i,0,none⟩,1,1,some ⟨b3,0,none⟩,n,n,some ⟨b4,0,none⟩,8,8⟩:TbP).cells,Ef,a.row,rfl⟩⟩,rfl,trivial⟩ ?_
      exact⟨S,_,x,_,rfl,(By q).or ((By ge3).or ((By ge4).or up)),(d.ft.and (h3.ft.and (h4.ft.and h1))).imp fun u h=>⟨i,b3,b4,rfl,h.1,h.2.1,h.2.2.1,h.2.2.2⟩⟩
     ·
      refine Az rfl Gf (Eu 8 (by omega) s w48 b) ?_;rintro _ w53 ⟨s54,b4,rfl,ge4,h4⟩
      have n4_2:b4≠B:=(by have:=a.lt;omega)
      have ge4:=Ad S.size ge4
      have S:=S.trans s54;have a:=a.sub s54;have h1:=h1.sub s54;have szD:=Ad szD s54.size;have c:=c.sub s54;have b:=b.sub s54;have h3:=h3.sub s54;refine Be s54.agr<|Aq 1 rfl<|Bi Fm _ Gx rfl rfl rfl rfl rfl rfl rfl (fun i D l I d f=>?_)
      have z:w3.heap.size≤i:=by rw[l];exact szD
      have q:=S.le l;have j:=a.ne l
      have n3__16:=h3.ne l
      have n4__16:=h4.ne l
      have S:=S.trans f;have a:=a.sub f;have h1:=h1.sub f;have szD:=Ad szD f.size;have c:=c.sub f;have b:=b.sub f;have h3:=h3.sub f;have h4:=h4.sub f;refine Be f.agr<|Bg 7 rfl (fun _ _=>.buildS Kb Px rfl rfl)<|Aq 8 rfl<|At Ef rfl rfl rfl a (fun w55 z55 a a55=>?_);have S:=S.upd a55 E;have h1:=h1.updD a55 o;have szD:=Ad szD a55.size;have c:=c.upd a55 p.symm;have b:=b.upd a55 m.symm;have h3:=h3.upd a55 n3_2;have h4:=h4.upd a55 n4_2;have d:=d.upd a55 j.symm
      have a:Has w55 B ((⟨some ⟨i,0,none⟩,1,1,some ⟨b3,0,none⟩,n,n,some ⟨b4,0,none⟩,8,8⟩:TbP).cells) _:=a.now (by kernel_rfl)
      refine Cq rfl a55 (rfl)<|Cu 9 rfl rfl<|Cp<|Ab<|Bo (rs:=[.cell 2 59,.tmp 3]) (vs:=[_,_]) rfl rfl ⟨⟨_,rfl,.inr ⟨(⟨some ⟨i,0,none⟩,1,1,some ⟨b3,0,none⟩,n,n,some ⟨b4,0,none⟩,8,8⟩:TbP).cells,Ef,a.row,rfl⟩⟩,rfl,trivial⟩ ?_
      exact⟨S,_,x,_,rfl,(By q).or ((By ge3).or ((By ge4).or up)),(d.ft.and (h3.ft.and (h4.ft.and h1))).imp fun u h=>⟨i,b3,b4,rfl,h.1,h.2.1,h.2.2.1,h.2.2.2⟩⟩
  ·
   refine Bi Dd _ ze3 rfl rfl rfl rfl rfl rfl rfl (fun s F y K b g=>?_)
   have A:w3.heap.size≤s:=by rw[y];exact szD
   have m:=a.ne y;have S:=S.trans g;have a:=a.sub g;have h1:=h1.sub g;have szD:=Ad szD g.size;refine Be g.agr<|Ej [1,2] (by kernel_rfl) rfl (Ca rfl ?_ (Ca rfl ?_ (Do)))
   ·
    refine Bi Fm _ Gx rfl rfl rfl rfl rfl rfl rfl (fun i D l I d f=>?_)
    have z:w3.heap.size≤i:=by rw[l];exact szD
    have q:=S.le l;have j:=a.ne l;have S:=S.trans f;have a:=a.sub f;have h1:=h1.sub f;have szD:=Ad szD f.size;have b:=b.sub f;refine Be f.agr<|Aq 2 rfl<|Bi Dd _ ze3 rfl rfl rfl rfl rfl rfl rfl (fun C J G P c r=>?_)
    have H:w3.heap.size≤C:=by rw[G];exact szD
    have p:=a.ne G;have S:=S.trans r;have a:=a.sub r;have h1:=h1.sub r;have szD:=Ad szD r.size;have b:=b.sub r;have d:=d.sub r;refine Be r.agr<|Aq 4 rfl<|Az rfl Gf (Eu n (by omega) C J c) ?_;rintro _ w56 ⟨s57,b3,rfl,ge3,h3⟩
    have n3_2:b3≠B:=(by have:=a.lt;omega)
    have ge3:=Ad S.size ge3
    have S:=S.trans s57;have a:=a.sub s57;have h1:=h1.sub s57;have szD:=Ad szD s57.size;have b:=b.sub s57;have d:=d.sub s57;have c:=c.sub s57;refine Be s57.agr<|Aq 6 rfl<|Az rfl Gf (Eu 8 (by omega) s w56 b) ?_;rintro _ w58 ⟨s59,b4,rfl,ge4,h4⟩
    have n4_2:b4≠B:=(by have:=a.lt;omega)
    have ge4:=Ad S.size ge4
    have S:=S.trans s59;have a:=a.sub s59;have h1:=h1.sub s59;have szD:=Ad szD s59.size;have b:=b.sub s59;have d:=d.sub s59;have c:=c.sub s59;have h3:=h3.sub s59;refine Be s59.agr<|Bg 7 rfl (fun _ _=>.buildS Kb Px rfl rfl)<|Aq 8 rfl<|At Ef rfl rfl rfl a (fun w60 z60 a a60=>?_);have S:=S.upd a60 E;have h1:=h1.updD a60 o;have szD:=Ad szD a60.size;have b:=b.upd a60 m.symm;have d:=d.upd a60 j.symm;have c:=c.upd a60 p.symm;have h3:=h3.upd a60 n3_2;have h4:=h4.upd a60 n4_2
    have a:Has w60 B ((⟨some ⟨i,0,none⟩,1,1,some ⟨b3,0,none⟩,n,n,some ⟨b4,0,none⟩,8,8⟩:TbP).cells) _:=a.now (by kernel_rfl)
    refine Cq rfl a60 (rfl)<|Cu 9 rfl rfl<|Cp<|Ab<|Bo (rs:=[.cell 2 59,.tmp 3]) (vs:=[_,_]) rfl rfl ⟨⟨_,rfl,.inr ⟨(⟨some ⟨i,0,none⟩,1,1,some ⟨b3,0,none⟩,n,n,some ⟨b4,0,none⟩,8,8⟩:TbP).cells,Ef,a.row,rfl⟩⟩,rfl,trivial⟩ ?_
    exact⟨S,_,x,_,rfl,(By q).or ((By ge3).or ((By ge4).or up)),(d.ft.and (h3.ft.and (h4.ft.and h1))).imp fun u h=>⟨i,b3,b4,rfl,h.1,h.2.1,h.2.2.1,h.2.2.2⟩⟩
   ·
    refine Bi Dd _ ze3 rfl rfl rfl rfl rfl rfl rfl (fun C J G P c r=>?_)
    have H:w3.heap.size≤C:=by rw[G];exact szD
    have p:=a.ne G;have S:=S.trans r;have a:=a.sub r;have h1:=h1.sub r;have szD:=Ad szD r.size;have b:=b.sub r;refine Be r.agr<|Ej [1,4] (by kernel_rfl) rfl (Ca rfl ?_ (Ca rfl ?_ (Do)))
    ·
     refine Bi Fm _ Gx rfl rfl rfl rfl rfl rfl rfl (fun i D l I d f=>?_)
     have z:w3.heap.size≤i:=by rw[l];exact szD
     have q:=S.le l;have j:=a.ne l;have S:=S.trans f;have a:=a.sub f;have h1:=h1.sub f;have szD:=Ad szD f.size;have b:=b.sub f;have c:=c.sub f;refine Be f.agr<|Aq 4 rfl<|Az rfl Gf (Eu n (by omega) C D c) ?_;rintro _ w61 ⟨s62,b3,rfl,ge3,h3⟩
     have n3_2:b3≠B:=(by have:=a.lt;omega)
     have ge3:=Ad S.size ge3
     have S:=S.trans s62;have a:=a.sub s62;have h1:=h1.sub s62;have szD:=Ad szD s62.size;have b:=b.sub s62;have c:=c.sub s62;have d:=d.sub s62;refine Be s62.agr<|Aq 6 rfl<|Az rfl Gf (Eu 8 (by omega) s w61 b) ?_;rintro _ w63 ⟨s64,b4,rfl,ge4,h4⟩
     have n4_2:b4≠B:=(by have:=a.lt;omega)
     have ge4:=Ad S.size ge4
     have S:=S.trans s64;have a:=a.sub s64;have h1:=h1.sub s64;have szD:=Ad szD s64.size;have b:=b.sub s64;have c:=c.sub s64;have d:=d.sub s64;have h3:=h3.sub s64;refine Be s64.agr<|Bg 7 rfl (fun _ _=>.buildS Kb Px rfl rfl)<|Aq 8 rfl<|At Ef rfl rfl rfl a (fun w65 z65 a a65=>?_);have S:=S.upd a65 E;have h1:=h1.updD a65 o;have szD:=Ad szD a65.size;have b:=b.upd a65 m.symm;have c:=c.upd a65 p.symm;have d:=d.upd a65 j.symm;have h3:=h3.upd a65 n3_2;have h4:=h4.upd a65 n4_2
     have a:Has w65 B ((⟨some ⟨i,0,none⟩,1,1,some ⟨b3,0,none⟩,n,n,some ⟨b4,0,none⟩,8,8⟩:TbP).cells) _:=a.now (by kernel_rfl)
     refine Cq rfl a65 (rfl)<|Cu 9 rfl rfl<|Cp<|Ab<|Bo (rs:=[.cell 2 59,.tmp 3]) (vs:=[_,_]) rfl rfl ⟨⟨_,rfl,.inr ⟨(⟨some ⟨i,0,none⟩,1,1,some ⟨b3,0,none⟩,n,n,some ⟨b4,0,none⟩,8,8⟩:TbP).cells,Ef,a.row,rfl⟩⟩,rfl,trivial⟩ ?_
     exact⟨S,_,x,_,rfl,(By q).or ((By ge3).or ((By ge4).or up)),(d.ft.and (h3.ft.and (h4.ft.and h1))).imp fun u h=>⟨i,b3,b4,rfl,h.1,h.2.1,h.2.2.1,h.2.2.2⟩⟩
    ·
     refine Az rfl Gf (Eu n (by omega) C J c) ?_;rintro _ w66 ⟨s67,b3,rfl,ge3,h3⟩
     have n3_2:b3≠B:=(by have:=a.lt;omega)
     have ge3:=Ad S.size ge3
     have S:=S.trans s67;have a:=a.sub s67;have h1:=h1.sub s67;have szD:=Ad szD s67.size;have b:=b.sub s67;refine Be s67.agr<|Ej [1,6] (by kernel_rfl) rfl (Ca rfl ?_ (Ca rfl ?_ (Do)))
     ·
      refine Bi Fm _ Gx rfl rfl rfl rfl rfl rfl rfl (fun i D l I d f=>?_)
      have z:w3.heap.size≤i:=by rw[l];exact szD
      have q:=S.le l;have j:=a.ne l
      have n3__16:=h3.ne l
      have S:=S.trans f;have a:=a.sub f;have h1:=h1.sub f;have szD:=Ad szD f.size;have b:=b.sub f;have h3:=h3.sub f;refine Be f.agr<|Aq 6 rfl<|Az rfl Gf (Eu 8 (by omega) s D b) ?_;rintro _ w68 ⟨s69,b4,rfl,ge4,h4⟩
      have n4_2:b4≠B:=(by have:=a.lt;omega)
      have ge4:=Ad S.size ge4
      have S:=S.trans s69;have a:=a.sub s69;have h1:=h1.sub s69;have szD:=Ad szD s69.size;have b:=b.sub s69;have h3:=h3.sub s69;have d:=d.sub s69;refine Be s69.agr<|Bg 7 rfl (fun _ _=>.buildS Kb Px rfl rfl)<|Aq 8 rfl<|At Ef rfl rfl rfl a (fun w70 z70 a a70=>?_);have S:=S.upd a70 E;have h1:=h1.updD a70 o;have szD:=Ad szD a70.size;have b:=b.upd a70 m.symm;have h3:=h3.upd a70 n3_2;have d:=d.upd a70 j.symm;have h4:=h4.upd a70 n4_2
      have a:Has w70 B ((⟨some ⟨i,0,none⟩,1,1,some ⟨b3,0,none⟩,n,n,some ⟨b4,0,none⟩,8,8⟩:TbP).cells) _:=a.now (by kernel_rfl)
      refine Cq rfl a70 (rfl)<|Cu 9 rfl rfl<|Cp<|Ab<|Bo (rs:=[.cell 2 59,.tmp 3]) (vs:=[_,_]) rfl rfl ⟨⟨_,rfl,.inr ⟨(⟨some ⟨i,0,none⟩,1,1,some ⟨b3,0,none⟩,n,n,some ⟨b4,0,none⟩,8,8⟩:TbP).cells,Ef,a.row,rfl⟩⟩,rfl,trivial⟩ ?_
      exact⟨S,_,x,_,rfl,(By q).or ((By ge3).or ((By ge4).or up)),(d.ft.and (h3.ft.and (h4.ft.and h1))).imp fun u h=>⟨i,b3,b4,rfl,h.1,h.2.1,h.2.2.1,h.2.2.2⟩⟩
     ·
      refine Az rfl Gf (Eu 8 (by omega) s w66 b) ?_;rintro _ w71 ⟨s72,b4,rfl,ge4,h4⟩
      have n4_2:b4≠B:=(by have:=a.lt;omega)
      have ge4:=Ad S.size ge4
      have S:=S.trans s72;have a:=a.sub s72;have h1:=h1.sub s72;have szD:=Ad szD s72.size;have h3:=h3.sub s72;refine Be s72.agr<|Aq 1 rfl<|Bi Fm _ Gx rfl rfl rfl rfl rfl rfl rfl (fun i D l I d f=>?_)
      have z:w3.heap.size≤i:=by rw[l];exact szD
      have q:=S.le l;have j:=a.ne l
      have n3__16:=h3.ne l
      have n4__16:=h4.ne l
      have S:=S.trans f;have a:=a.sub f;have h1:=h1.sub f;have h3:=h3.sub f;have h4:=h4.sub f;refine Be f.agr<|Bg 7 rfl (fun _ _=>.buildS Kb Px rfl rfl)<|Aq 8 rfl<|At Ef rfl rfl rfl a (fun w73 z73 a a73=>?_);have S:=S.upd a73 E;have h1:=h1.updD a73 o;have h3:=h3.upd a73 n3_2;have h4:=h4.upd a73 n4_2;have d:=d.upd a73 j.symm
      have a:Has w73 B ((⟨some ⟨i,0,none⟩,1,1,some ⟨b3,0,none⟩,n,n,some ⟨b4,0,none⟩,8,8⟩:TbP).cells) _:=a.now (by kernel_rfl)
      refine Cq rfl a73 (rfl)<|Cu 9 rfl rfl<|Cp<|Ab<|Bo (rs:=[.cell 2 59,.tmp 3]) (vs:=[_,_]) rfl rfl ⟨⟨_,rfl,.inr ⟨(⟨some ⟨i,0,none⟩,1,1,some ⟨b3,0,none⟩,n,n,some ⟨b4,0,none⟩,8,8⟩:TbP).cells,Ef,a.row,rfl⟩⟩,rfl,trivial⟩ ?_
      exact⟨S,_,x,_,rfl,(By q).or ((By ge3).or ((By ge4).or up)),(d.ft.and (h3.ft.and (h4.ft.and h1))).imp fun u h=>⟨i,b3,b4,rfl,h.1,h.2.1,h.2.2.1,h.2.2.2⟩⟩
theorem ADx{w w':World}(s:Sub w w'):UpN w (AHe (fun _=>False) w w'):=fun k hk=>.inr (hk.elim (fun h=>h.elim) (fun h=>h.1))
def wkC(na fa:Option Addr)(nc fc:Nat)(A:Ar)(R:Rt):List Value:=[.slice na A.nodes.length nc,.slice fa A.free.length fc,.int .u64 R.m,.int .u64 R.t,.int .u64 R.r,.int .u64 R.h]
def WkO(b:Nat)(A:Ar)(R:Rt)(C:Nat→Prop)(u:World):Prop :=
 C b∧∃na fa nc fc M,Has u b (wkC na fa nc fc A R) 109∧A.nodes.length≤nc∧A.free.length≤fc∧Ft M (fun u=>ArR u na fa A) u∧¬M b∧∀k,M k→C k
theorem WkO.ft{b:Nat}{A:Ar}{R:Rt}{M:Nat→Prop}{w:World}{na fa:Option Addr}{nc fc:Nat}(h:Has w b (wkC na fa nc fc A R) 109)(h1:A.nodes.length≤nc)(h2:A.free.length≤fc)(h3:Ft M (fun u=>ArR u na fa A) w)(h4:¬M b):
  Ft (fun k=>k=b∨M k) (WkO b A R (fun k=>k=b∨M k)) w :=
 ⟨fun k hk=>hk.elim (fun e=>e▸h.lt) (h3.lt k),fun u a=>⟨.inl rfl,na,fa,nc,fc,M,h.step a (fun hn=>hn (.inl rfl)),h1,h2,h3.step a (fun k hk hn=>hn (.inr hk)),h4,fun k hk=>.inr hk⟩⟩
structure RsT where
 e:Int
 a:Int
 b:Int
 deriving DecidableEq
def RsT.cells(x:RsT):List Value:=[.int .i64 x.e,.int .i64 x.a,.int .i64 x.b]
def RsT.val(x:RsT):Value:=.agg x.cells.toArray
def Lj(e a b:Int):RsT:=if e=0 then⟨0,a,b⟩ else⟨e,0,0⟩
theorem Um(e a b:Int)(w:World):FC Tryz.prog 76 [.int .i64 e,.int .i64 a,.int .i64 b] w (Val (Lj e a b).val w):=by
 refine As Tryz.func76 rfl Tryz.ntmps76 rfl ?_
 have S:=Ax w
 refine Ac<|Aa rfl<|Ay Nh rfl rfl (fun f j h i c g=>?_);have d:=S.le h;have S:=S.trans g;refine Ae<|Ab<|Ac<|Ac<|Aa rfl<|Af rfl<|Bc rfl rfl rfl<|Ae<|Ab<|An rfl (fun h1=>?_) (fun h1=>?_)
 ·
  have he:=h1
  refine Ac<|Aa rfl<|Af rfl<|Ak (.buildS Nh AHV rfl rfl)<|At Hq rfl rfl rfl c (fun w2 z2 c a2=>?_);have S:=S.upd a2 d
  have c:Has w2 f ((⟨e,0,0⟩:RsT).cells) _:=c.now (by kernel_rfl)
  refine Ae<|Ab<|Bo (rs:=[.cell 6 38]) (vs:=[_]) rfl rfl ⟨⟨_,rfl,.inr ⟨(⟨e,0,0⟩:RsT).cells,Hq,c.row,rfl⟩⟩,trivial⟩ ?_
  rw[Lj,if_neg he]
  exact⟨rfl,S⟩
 ·
  have he:e=0:=Decidable.not_not.1 h1
  refine Ao<|Ab<|Ac<|Aa rfl<|Af rfl<|Af rfl<|Ak (.buildS Nh AHV rfl rfl)<|At Hq rfl rfl rfl c (fun w3 z3 c a3=>?_);have S:=S.upd a3 d
  have c:Has w3 f ((⟨0,a,b⟩:RsT).cells) _:=c.now (by kernel_rfl)
  refine Ae<|Ab<|Bo (rs:=[.cell 6 38]) (vs:=[_]) rfl rfl ⟨⟨_,rfl,.inr ⟨(⟨0,a,b⟩:RsT).cells,Hq,c.row,rfl⟩⟩,trivial⟩ ?_
  rw[Lj,if_pos he]
  exact⟨rfl,S⟩
structure MpS where
 b7:Nat
 B:Ar
 r:Int
 e:Int
 nb:Option Addr
 fb:Option Addr
 ncb:Nat
 fcb:Nat
 M:Nat→Prop
def dig(key:Int)(lv:Nat):Nat:=Gm key/4^lv%4
theorem AJv(key:Int)(lv:Nat):dig key lv<4:=Nat.mod_lt _ (by decide)
def hN(kind g n v s:Int)(ks:List Int):Node:=⟨kind,g,n,v,s,ks.getD 0 0,ks.getD 1 0,ks.getD 2 0,ks.getD 3 0,ks.getD 4 0,ks.getD 5 0,ks.getD 6 0,ks.getD 7 0,ks.getD 8 0,0,0⟩
def ofL(lv i:Nat)(l:List It):List It:=l.filter fun x=>decide (dig x.k lv=i)
theorem AHu{lv i:Nat}{l:List It}{x:It}:x∈ofL lv i l↔x∈l∧dig x.k lv=i:=by unfold ofL;rw[List.mem_filter,decide_eq_true_iff]
def Ap(l:List It):Prop:=l.Pairwise fun x y=>¬x.k=y.k
theorem Ap.perm{l m:List It}(h:Ap l)(p:l.Perm m):Ap m:=(List.Perm.pairwise_iff (fun h e=>h e.symm) p).1 h
theorem Ap.filter{l:List It}(h:Ap l)(p:It→Bool):Ap (l.filter p):=List.Pairwise.filter p h
theorem Srt.ap{l:List It}(h:Srt l):Ap l:=List.Pairwise.imp (fun h e=>by omega) h
def lfA(A:Ar)(r:Int)(x:It):Prop:=∃g,Ch A r=some (hN 3 g x.k x.v 0 [])
def AFj(A:Ar)(r:Int)(l:List It):Prop:=∃g ks m,List.Perm m l∧Srt m∧m.length≤9∧ks.length=m.length∧Ch A r=some (hN 4 g 0 0 m.length ks)∧∀i x,m[i]?=some x→lfA A (ks.getD i 0) x
def IsH(A:Ar):Nat→Int→List It→Prop
 |0,r,l=>(l=[]∧r=0)∨(∃x,l=[x]∧lfA A r x)∨(2≤l.length∧AFj A r l)
 |k+1,r,l=>(l=[]∧r=0)∨(∃x,l=[x]∧lfA A r x)∨(2≤l.length∧∃g ks,ks.length=4∧Ch A r=some (hN 2 g 0 0 l.length ks)∧∀i,i<4→IsH A k (ks.getD i 0) (ofL (9-k) i l))
theorem Jg{A:Ar}{k:Nat}{r:Int}:IsH A k r []↔r=0:=by
 cases k with
 |zero =>
  constructor
  ·rintro(⟨_,h⟩|⟨x,h,_⟩|⟨h,_⟩)
   ·exact h
   ·cases h
   ·simp at h
  ·exact fun h=>.inl ⟨rfl,h⟩
 |succ k =>
  constructor
  ·rintro(⟨_,h⟩|⟨x,h,_⟩|⟨h,_⟩)
   ·exact h
   ·cases h
   ·simp at h
  ·exact fun h=>.inl ⟨rfl,h⟩
theorem Jf{A:Ar}{k:Nat}{r:Int}{x:It}:IsH A k r [x]↔lfA A r x:=by
 cases k with
 |zero =>
  constructor
  ·rintro(⟨h,_⟩|⟨y,h,h2⟩|⟨h,_⟩)
   ·cases h
   ·cases h;exact h2
   ·simp at h
  ·exact fun h=>.inr (.inl ⟨x,rfl,h⟩)
 |succ k =>
  constructor
  ·rintro(⟨h,_⟩|⟨y,h,h2⟩|⟨h,_⟩)
   ·cases h
   ·cases h;exact h2
   ·simp at h
  ·exact fun h=>.inr (.inl ⟨x,rfl,h⟩)
theorem Lr{A:Ar}{k:Nat}{r:Int}{l:List It}(hl:2≤l.length):IsH A (k+1) r l↔∃g ks,ks.length=4∧Ch A r=some (hN 2 g 0 0 l.length ks)∧∀i,i<4→IsH A k (ks.getD i 0) (ofL (9-k) i l):=by
 constructor
 ·rintro(⟨h,_⟩|⟨y,h,h2⟩|⟨h,h2⟩)
  ·rw[h] at hl;simp at hl
  ·rw[h] at hl;simp at hl
  ·exact h2
 ·exact fun h=>.inr (.inr ⟨hl,h⟩)
theorem Jd{A:Ar}{r:Int}{l:List It}(hl:2≤l.length):IsH A 0 r l↔AFj A r l:=by
 constructor
 ·rintro(⟨h,_⟩|⟨y,h,h2⟩|⟨h,h2⟩)
  ·rw[h] at hl;simp at hl
  ·rw[h] at hl;simp at hl
  ·exact h2
 ·exact fun h=>.inr (.inr ⟨hl,h⟩)
theorem Jx(l:List It):l=[]∨(∃x,l=[x])∨2≤l.length:=by
 rcases l with _|⟨x,_|⟨y,l⟩⟩
 ·exact .inl rfl
 ·exact .inr (.inl ⟨x,rfl⟩)
 ·exact .inr (.inr (by simp))
theorem lfA.ext{A B:Ar}{r:Int}{x:It}(h:lfA A r x)(e:Ext A B):lfA B r x:=by
 obtain⟨g,h⟩:=h;exact⟨g,e.get h⟩
theorem IsH.ext{A B:Ar}(e:Ext A B):∀ {k:Nat} {r:Int} {l:List It},IsH A k r l→IsH B k r l
 |k,r,l,h=>by
  rcases Jx l with rfl|⟨x,rfl⟩|hl
  ·exact Jg.2 (Jg.1 h)
  ·exact Jf.2 ((Jf.1 h).ext e)
  ·cases k with
   |zero =>
    obtain⟨g,ks,q,h1,h2,h3,h4,h5,h6⟩:=(Jd hl).1 h
    exact(Jd hl).2 ⟨g,ks,q,h1,h2,h3,h4,e.get h5,fun i x hx=>(h6 i x hx).ext e⟩
   |succ k =>
    obtain⟨g,ks,h1,h2,h3⟩:=(Lr hl).1 h
    exact(Lr hl).2 ⟨g,ks,h1,e.get h2,fun i hi=>IsH.ext e (h3 i hi)⟩
theorem Sc(A:Ar):Ch A 0=none:=Rj (.inl (by decide))
theorem Mg{A:Ar}{r:Int}{x:Node}(h:Ch A r=some x):¬r=0:=fun e=>by rw[e,Sc] at h;cases h
def szH(A:Ar)(r:Int):Int:=if(getN A r).kind=3 then 1 else(getN A r).s
theorem AIe(A:Ar):szH A 0=0:=by unfold szH getN;rw[Sc];rfl
theorem lfA.nz{A:Ar}{r:Int}{x:It}(h:lfA A r x):¬r=0:=by obtain⟨g,h⟩:=h;exact Mg h
theorem lfA.getN{A:Ar}{r:Int}{x:It}(h:lfA A r x):∃g,getN A r=hN 3 g x.k x.v 0 []:=by obtain⟨g,h⟩:=h;exact⟨g,Jl h⟩
theorem lfA.size{A:Ar}{r:Int}{x:It}(h:lfA A r x):szH A r=1:=by obtain⟨g,h⟩:=h.getN;unfold szH;rw[h];rfl
theorem IsH.node{A:Ar}{k:Nat}{r:Int}{l:List It}(hl:2≤l.length)(h:IsH A k r l):∃kd g ks,(kd=2∧k≠0∨kd=4∧k=0)∧Ch A r=some (hN kd g 0 0 l.length ks):=by
 cases k with
 |zero =>
  obtain⟨g,ks,q,h1,h2,h3,h4,h5,h6⟩:=(Jd hl).1 h
  exact⟨4,g,ks,.inr ⟨rfl,rfl⟩,by rw[←h1.length_eq];exact h5⟩
 |succ k =>
  obtain⟨g,ks,h1,h2,h3⟩:=(Lr hl).1 h
  exact⟨2,g,ks,.inl ⟨rfl,by omega⟩,h2⟩
theorem IsH.size{A:Ar}{k:Nat}{r:Int}{l:List It}(h:IsH A k r l):szH A r=l.length:=by
 rcases Jx l with rfl|⟨x,rfl⟩|hl
 ·rw[Jg.1 h];exact AIe A
 ·exact(Jf.1 h).size
 ·obtain⟨kd,g,ks,hk,h⟩:=h.node hl
  unfold szH
  rw[Jl h]
  rcases hk with⟨rfl,_⟩|⟨rfl,_⟩<;>rfl
theorem IsH.zero{A:Ar}{k:Nat}{r:Int}{l:List It}(h:IsH A k r l):r=0↔l=[]:=by
 constructor
 ·intro e
  have h2:=h.size
  rw[e,AIe] at h2
  exact List.eq_nil_of_length_eq_zero (by omega)
 ·rintro rfl;exact Jg.1 h
theorem Sn(lv:Nat):∀l:List It,(ofL lv 0 l++(ofL lv 1 l++(ofL lv 2 l++ofL lv 3 l))).Perm l
 | []=>List.Perm.refl _
 |x::l=>by
  have ih:=Sn lv l
  have hd:=AJv x.k lv
  have e:∀i,ofL lv i (x::l)=if dig x.k lv=i then x::ofL lv i l else ofL lv i l:=fun i=>by
   unfold ofL;rw[List.filter_cons];by_cases q:dig x.k lv=i
   ·rw[if_pos (by simpa using q),if_pos q]
   ·rw[if_neg (by simpa using q),if_neg q]
  rcases(show dig x.k lv=0∨dig x.k lv=1∨dig x.k lv=2∨dig x.k lv=3 by omega) with q|q|q|q<;>rw[e,e,e,e,q]<;>simp only[if_true,Nat.zero_ne_one,if_false,show(0:Nat)≠2 by decide,show(0:Nat)≠3 by decide,show(1:Nat)≠0 by decide,show(1:Nat)≠2 by decide,show(1:Nat)≠3 by decide,show(2:Nat)≠0 by decide,show(2:Nat)≠1 by decide,show(2:Nat)≠3 by decide,show(3:Nat)≠0 by decide,show(3:Nat)≠1 by decide,show(3:Nat)≠2 by decide]
  ·exact List.Perm.cons x ih
  ·exact(List.perm_middle).trans (List.Perm.cons x ih)
  ·rw[←List.append_assoc]
   refine(List.perm_middle).trans (List.Perm.cons x ?_)
   rw[List.append_assoc];exact ih
  ·rw[←List.append_assoc,←List.append_assoc]
   refine(List.perm_middle).trans (List.Perm.cons x ?_)
   rw[List.append_assoc,List.append_assoc];exact ih
theorem ABC(lv:Nat)(l:List It):(ofL lv 0 l).length+(ofL lv 1 l).length+(ofL lv 2 l).length+(ofL lv 3 l).length=l.length:=by
 have:=(Sn lv l).length_eq
 simp only[Ag] at this
 omega
def Fam(lv d:Nat)(l:List It):Prop:=∀x∈l,Gm x.k%4^lv=d
theorem AL9(l:List It):Fam 0 0 l:=fun x _=>by rw[Nat.pow_zero,Nat.mod_one]
theorem Zb(key:Int)(lv:Nat):Gm key%4^(lv+1)=Gm key%4^lv+4^lv*dig key lv:=by
 rw[Nat.pow_succ];exact Nat.mod_mul
theorem Fam.of{lv d i:Nat}{l:List It}(h:Fam lv d l):Fam (lv+1) (d+4^lv*i) (ofL lv i l):=by
 intro x hx
 obtain⟨h1,h2⟩:=AHu.1 hx
 rw[Zb,h x h1,h2]
theorem Fam.back{lv d i:Nat}{l:List It}(hd:d<4^lv)(hi:i<4)(h:Fam (lv+1) (d+4^lv*i) l):Fam lv d l∧∀x∈l,dig x.k lv=i:=by
 have hp:0<4^lv:=Nat.pow_pos (by decide)
 have key:∀x∈l,Gm x.k%4^lv=d∧dig x.k lv=i:=fun x hx=>by
  have h1:=h x hx
  rw[Zb] at h1
  have h2:Gm x.k%4^lv<4^lv:=Nat.mod_lt _ hp
  have e1:(Gm x.k%4^lv+4^lv*dig x.k lv)/4^lv=dig x.k lv:=by rw[Nat.add_mul_div_left _ _ hp,Nat.div_eq_of_lt h2,Nat.zero_add]
  have e2:(d+4^lv*i)/4^lv=i:=by rw[Nat.add_mul_div_left _ _ hp,Nat.div_eq_of_lt hd,Nat.zero_add]
  rw[h1,e2] at e1
  rw[←e1] at h1
  exact⟨by omega,e1.symm⟩
 exact⟨fun x hx=>(key x hx).1,fun x hx=>(key x hx).2⟩
theorem Fam.nil(lv d:Nat):Fam lv d []:=fun x hx=>by cases hx
theorem Fam.perm{lv d:Nat}{l m:List It}(h:Fam lv d l)(p:m.Perm l):Fam lv d m:=fun x hx=>h x (p.mem_iff.1 hx)
abbrev Ho(b:Nat)(s:St)(C:Nat→Prop)(u:World):Prop:=FoG 195 b s C u
theorem AGD(b:Nat)(s:St)(C:Nat→Prop)(r:Int)(hr:U64 r)(w:World)(hF:Ft C (Ho b s C) w):
  FC Tryz.prog 200 [.pointer (some ⟨b,0,none⟩),.int .u64 r] w (Val (getN s.1 r).val w):=by
 obtain⟨hCb,na,fa,nc,fc,M,hbf,hnc,hfc,hA,hMb,hMC⟩:=hF.now
 obtain⟨e,hgv⟩:=ACK s.1 r
 have hA:=hA.now
 refine As Tryz.func200 rfl Tryz.ntmps200 rfl ?_
 have S:=Ax w
 refine Ac<|Aa rfl<|Ay Dx rfl rfl (fun n k l p a i=>?_);have g:=S.le l;have S:=S.trans i;have hbf:=hbf.sub i;refine Ae<|Ab<|Ac<|Aa rfl<|Af rfl<|Ak (.nilCheck rfl)<|Av ADi rfl<|Ak (.loadR (wvA na fa nc fc s.1) Cb rfl (Fg (xs:=wvA na fa nc fc s.1) (ys:=[.int .i64 s.2]) hbf) rfl)<|Af rfl<|Az rfl Ll (Jc s.1 na fa nc fc r hr k (hA.sub S)) ?_;rintro _ w1 ⟨rfl,s2⟩;have S:=S.trans s2;have a:=a.sub s2;refine Ak (.as (v':=.tuple #[(getN s.1 r).val,.int .i64 e]) (.move rfl) (by rw[hgv]))<|Bz rfl rfl<|Bz rfl rfl<|Ay Dx rfl rfl (fun m q j o c h=>?_);have f:=S.le j;have d:=a.ne j;have S:=S.trans h;have a:=a.sub h;refine At Ct rfl rfl rfl c (fun w3 z3 c a3=>?_);have S:=S.upd a3 f;have a:=a.upd a3 d
 have c:Has w3 m ((getN s.1 r).cells) _:=c.now (by kernel_rfl)
 refine Ah rfl<|Ae<|Ab<|Ac<|Aa rfl<|Ak (.loadR ((getN s.1 r).cells) Ct rfl c.row rfl)<|At Ct rfl rfl rfl a (fun w4 z4 a a4=>?_);have S:=S.upd a4 g
 have a:Has w4 n ((getN s.1 r).cells) _:=a.now (by kernel_rfl)
 refine Ae<|Ab<|Bo (rs:=[.cell 4 140]) (vs:=[_]) rfl rfl ⟨⟨_,rfl,.inr ⟨(getN s.1 r).cells,Ct,a.row,rfl⟩⟩,trivial⟩ ?_
 exact⟨rfl,S⟩
def hC(kd s:Int)(ks:List Int):List Value:=(hN kd 0 0 0 s ks).cells
def cnt:Nat→List It→Nat
 |0,l=>if l.length≤1 then l.length else 1+l.length
 |k+1,l=>if l.length≤1 then l.length else 1+(cnt k (ofL (9-k) 0 l)+cnt k (ofL (9-k) 1 l)+cnt k (ofL (9-k) 2 l)+cnt k (ofL (9-k) 3 l))
end Go.Proofs.YtbjmllnddanniaaGreat
set_option linter.unusedVariables false
set_option linter.unusedSimpArgs false
set_option maxRecDepth 4000
namespace Go.Proofs.YtbjmllnddanniaaGreat
open Go Go.XL
theorem AJH:∀ {R:List (List Value)} {j:Nat} {v:Value},(∀r∈R,r.length=1)→R[j]?=some [v]→R.flatten[j]?=some v
 | [],j,v,_,h=>by cases h
 |r::R,j,v,hR,h=>by
  have h1:=hR r (by simp)
  obtain⟨u,rfl⟩:=List.length_eq_one_iff.1 h1
  cases j with
  |zero=>simp only[List.getElem?_cons_zero,Option.some.injEq] at h;cases h;rfl
  |succ j =>
   rw[List.flatten_cons,List.singleton_append,List.getElem?_cons_succ]
   exact AJH (fun r hr=>hR r (by simp[hr])) (by simpa using h)
def Ih(y:Node):Node:=⟨y.kind,y.gen,0,0,y.s,y.k0,y.k1,y.k2,y.k3,y.k4,y.k5,y.k6,y.k7,y.k8,0,0⟩
def Lm(y:Node):Node:=⟨y.kind,y.gen,y.n,y.v,0,0,0,0,0,0,0,0,0,0,0,0⟩
theorem Zs{y:Node}:Ih y=y↔y=hN y.kind y.gen 0 0 y.s y.kids:=by
 cases y;simp[Ih,hN,Node.kids];omega
theorem AEP{y:Node}:Lm y=y↔y=hN y.kind y.gen y.n y.v 0 []:=by
 cases y;simp[Lm,hN];omega
theorem No{kd g n v s:Int}{ks:List Int}{i:Nat}(h:i<9):(hN kd g n v s ks).kids.getD i 0=ks.getD i 0:=by
 rcases i with _|_|_|_|_|_|_|_|_|i
 all_goals first|rfl|omega
theorem ABJ{y:Node}{kd g n v s:Int}{ks:List Int}(h:y=hN kd g n v s y.kids)(e:∀i,i<9→y.kids.getD i 0=ks.getD i 0):y=hN kd g n v s ks:=by
 rw[h]
 have e0:=e 0 (by omega)
 have e1:=e 1 (by omega)
 have e2:=e 2 (by omega)
 have e3:=e 3 (by omega)
 have e4:=e 4 (by omega)
 have e5:=e 5 (by omega)
 have e6:=e 6 (by omega)
 have e7:=e 7 (by omega)
 have e8:=e 8 (by omega)
 unfold hN
 rw[e0,e1,e2,e3,e4,e5,e6,e7,e8]
def MayT(A:Ar)(k:Nat)(r:Int)(d:Nat)(left:Int)(l:List It):Prop:=IsH A k r l∧Fam (10-k) d l∧Ap l∧(l.length:Int)≤left
def MayP(A:Ar)(k:Nat)(r:Int)(d:Nat)(left:Int)(n:Int):Prop:=(∃l,MayT A k r d left l∧n=l.length)∨(n = -1∧∀l,¬MayT A k r d left l)
section
variable {A:Ar} {k d i:Nat} {r left n sum many:Int} {y:Node} {l:List It}
theorem MayP.rng(h:MayP A k r d left n)(hl:0≤left): -1≤n∧n≤left:=by
 rcases h with⟨l,h,rfl⟩|⟨rfl,_⟩
 ·have:=h.2.2.2;omega
 ·omega
theorem AFt(h0:0≤left):MayT A k 0 d left []:=⟨Jg.2 rfl,Fam.nil _ _,List.Pairwise.nil,by simpa using h0⟩
theorem AJp(h0:0≤left):MayP A k 0 d left 0:=.inl ⟨[],AFt h0,rfl⟩
theorem MayT.cases(hr:¬r=0)(h:MayT A k r d left l):(∃x,l=[x]∧lfA A r x)∨2≤l.length:=by
 rcases Jx l with rfl|⟨x,rfl⟩|hl
 ·exact absurd (Jg.1 h.1) hr
 ·exact .inl ⟨x,rfl,Jf.1 h.1⟩
 ·exact .inr hl
theorem ABG(hr:¬r=0)(h:Ch A r=none∨left≤0):MayP A k r d left (-1):=by
 refine .inr ⟨rfl,fun l hT=>?_⟩
 have hp:0<l.length:=by
  rcases Jx l with rfl|⟨x,rfl⟩|hl
  ·exact absurd (Jg.1 hT.1) hr
  ·simp
  ·omega
 have:=hT.2.2.2
 rcases h with h|h
 ·rcases hT.cases hr with⟨x,_,g,hx⟩|hl
  ·rw[h] at hx;cases hx
  ·obtain⟨_,_,_,_,hx⟩:=hT.1.node hl
   rw[h] at hx;cases hx
 ·omega
theorem Oe(h:Ch A r=some y){x:It}:lfA A r x↔y.kind=3∧Lm y=y∧y.n=x.k∧y.v=x.v:=by
 constructor
 ·rintro⟨g,hx⟩
  rw[h] at hx
  cases hx
  exact⟨rfl,rfl,rfl,rfl⟩
 ·rintro⟨h1,h2,h3,h4⟩
  refine⟨y.gen,?_⟩
  have:=AEP.1 h2
  rw[h1,h3,h4] at this
  rw[h,←this]
theorem Ly(hr:¬r=0)(h:Ch A r=some y)(h3:y.kind=3)(hl:0<left):(Lm y=y∧Gm y.n%4^(10-k)=d→MayP A k r d left 1)∧(¬(Lm y=y∧Gm y.n%4^(10-k)=d)→MayP A k r d left (-1)):=by
 constructor
 ·rintro⟨h1,h2⟩
  refine .inl ⟨[⟨y.n,y.v⟩],⟨Jf.2 ((Oe h).2 ⟨h3,h1,rfl,rfl⟩),fun x hx=>?_,List.pairwise_singleton _ _,by simp only[List.length_singleton];omega⟩,rfl⟩
  rw[List.mem_singleton.1 hx];exact h2
 ·intro hn
  refine .inr ⟨rfl,fun l hT=>?_⟩
  rcases hT.cases hr with⟨x,rfl,hx⟩|hl
  ·have hx:=(Oe h).1 hx
   refine hn ⟨hx.2.1,?_⟩
   rw[hx.2.2.1]
   exact hT.2.1 x (by simp)
  ·obtain⟨kd,g,ks,hk,hx⟩:=hT.1.node hl
   rw[h] at hx
   cases hx
   rcases hk with⟨rfl,_⟩|⟨rfl,_⟩
   ·exact absurd h3 (show¬(2:Int)=3 by decide)
   ·exact absurd h3 (show¬(4:Int)=3 by decide)
theorem Nw(hr:¬r=0)(h:Ch A r=some y)(h3:¬y.kind=3)(hb:¬Ih y=y∨y.kind=2∧k=0∨y.kind=4∧¬k=0∨¬y.kind=2∧¬y.kind=4):MayP A k r d left (-1):=by
 refine .inr ⟨rfl,fun l hT=>?_⟩
 rcases hT.cases hr with⟨x,rfl,hx⟩|hl
 ·exact h3 ((Oe h).1 hx).1
 ·obtain⟨kd,g,ks,hk,hx⟩:=hT.1.node hl
  rw[h] at hx
  cases hx
  rcases hb with hb|hb|hb|hb
  ·exact hb rfl
  ·rcases hk with⟨rfl,q⟩|⟨rfl,q⟩
   ·exact q hb.2
   ·exact absurd hb.1 (show¬(4:Int)=2 by decide)
  ·rcases hk with⟨rfl,q⟩|⟨rfl,q⟩
   ·exact absurd hb.1 (show¬(2:Int)=4 by decide)
   ·exact hb.2 q
  ·rcases hk with⟨rfl,h⟩|⟨rfl,h⟩
   ·exact hb.1 rfl
   ·exact hb.2 rfl
theorem MayT.trie(h:Ch A r=some y)(h2:y.kind=2)(hT:MayT A (k+1) r d left l):2≤l.length∧y.s=l.length∧(∀j,j<4→IsH A k (y.kids.getD j 0) (ofL (9-k) j l))∧∀j,4≤j→j<9→y.kids.getD j 0=0:=by
 rcases hT.cases (Mg h) with⟨x,rfl,hx⟩|hl
 ·have:=((Oe h).1 hx).1;omega
 ·obtain⟨g,ks,e1,e2,e3⟩:=(Lr hl).1 hT.1
  rw[h] at e2
  cases e2
  refine⟨hl,rfl,fun j hj=>?_,fun j h4 h9=>?_⟩
  ·rw[No (by omega)];exact e3 j hj
  ·rw[No h9,List.getD_eq_getElem?_getD,List.getElem?_eq_none (by omega)];rfl
def Yh(A:Ar)(k:Nat)(y:Node)(d:Nat)(left:Int)(i:Nat)(sum:Int):Prop:=∃l:List It,(∀x∈l,dig x.k (9-k)<i)∧Fam (9-k) d l∧Ap l∧(∀j,j<i→j<4→IsH A k (y.kids.getD j 0) (ofL (9-k) j l))∧(∀j,4≤j→j<i→y.kids.getD j 0=0)∧sum=l.length∧sum≤left
theorem ACT(h0:0≤left):Yh A k y d left 0 0:=⟨[],fun x h=>(by cases h),Fam.nil _ _,List.Pairwise.nil,fun j h=>absurd h (by omega),fun j _ h=>absurd h (by omega),rfl,h0⟩
theorem Yk(hk:k≤9)(hd:d<4^(9-k))(hS:Yh A k y d left i sum)(hi:i<9)(h4:4≤i→y.kids.getD i 0=0)(hP:MayP A k (y.kids.getD i 0) (d+4^(9-k)*(i%4)) (left-sum) n)(hn:0≤n):Yh A k y d left (i+1) (sum+n):=by
 obtain⟨l,q1,q2,q3,q4,q5,q6,q7⟩:=hS
 rcases hP with⟨m,⟨m1,m2,m3,m4⟩,rfl⟩|⟨rfl,_⟩
 ·rw[show 10-k=9-k+1 by omega] at m2
  by_cases hi4:4≤i
  ·rw[h4 hi4] at m1
   have hm:m=[]:=m1.zero.1 rfl
   subst hm
   refine⟨l,fun x hx=>Nat.lt_succ_of_lt (q1 x hx),q2,q3,fun j hj hj4=>q4 j (by omega) hj4,fun j hj4 hj=>?_,by rw[q6];simp,by simpa using q7⟩
   by_cases e:j=i
   ·rw[e];exact h4 hi4
   ·exact q5 j hj4 (by omega)
  ·rw[Nat.mod_eq_of_lt (by omega)] at m2
   obtain⟨b1,b2⟩:=Fam.back hd (by omega) m2
   have of_l:∀j,i≤j→ofL (9-k) j l=[]:=fun j hj=>List.filter_eq_nil_iff.2 fun x hx=>by have:=q1 x hx;simp;omega
   have of_m:∀j,¬j=i→ofL (9-k) j m=[]:=fun j hj=>List.filter_eq_nil_iff.2 fun x hx=>by have:=b2 x hx;simp;omega
   have of_i:ofL (9-k) i m=m:=List.filter_eq_self.2 fun x hx=>by simpa using b2 x hx
   have of_app:∀j,ofL (9-k) j (l++m)=ofL (9-k) j l++ofL (9-k) j m:=fun j=>List.filter_append _ _
   refine⟨l++m,fun x hx=>?_,fun x hx=>?_,List.pairwise_append.2 ⟨q3,m3,fun x hx z hz e=>?_⟩,fun j hj hj4=>?_,fun j hj4 hj=>absurd hj (by omega),by rw[q6,Ag];omega,by omega⟩
   ·rcases List.mem_append.1 hx with hx|hx
    ·have:=q1 x hx;omega
    ·have:=b2 x hx;omega
   ·rcases List.mem_append.1 hx with hx|hx
    ·exact q2 x hx
    ·exact b1 x hx
   ·have h1:=q1 x hx
    have h2:=b2 z hz
    rw[e] at h1;omega
   ·rw[of_app]
    by_cases e:j=i
    ·rw[e,of_l i (Nat.le_refl _),of_i];exact m1
    ·rw[of_m j e,List.append_nil];exact q4 j (by omega) hj4
 ·omega
theorem Nz(lv i:Nat)(l:List It):(l.filter fun x=>decide (dig x.k lv<i+1)).length=(l.filter fun x=>decide (dig x.k lv<i)).length+(ofL lv i l).length:=by
 induction l with
 |nil=>rfl
 |cons x l ih =>
  unfold ofL at ih ⊢
  simp only[List.filter_cons]
  rcases Nat.lt_trichotomy (dig x.k lv) i with h|h|h
  ·rw[decide_eq_true (show dig x.k lv<i+1 by omega),decide_eq_true h,decide_eq_false (show¬dig x.k lv=i by omega)]
   simp only[if_true,Bool.false_eq_true,if_false,Al,ih];omega
  ·rw[decide_eq_true (show dig x.k lv<i+1 by omega),decide_eq_false (show¬dig x.k lv<i by omega),decide_eq_true h]
   simp only[if_true,Bool.false_eq_true,if_false,Al,ih];omega
  ·rw[decide_eq_false (show¬dig x.k lv<i+1 by omega),decide_eq_false (show¬dig x.k lv<i by omega),decide_eq_false (show¬dig x.k lv=i by omega)]
   simp only[Bool.false_eq_true,if_false,ih]
theorem Yv(lv:Nat)(l m:List It):∀i,(∀j,j<i→(ofL lv j l).length=(ofL lv j m).length)→(l.filter fun x=>decide (dig x.k lv<i)).length=(m.filter fun x=>decide (dig x.k lv<i)).length
 |0,_=>by
  rw[List.filter_eq_nil_iff.2 (fun x _=>by simp),List.filter_eq_nil_iff.2 (fun x _=>by simp)]
 |i+1,h=>by rw[Nz,Nz,Yv lv l m i (fun j hj=>h j (by omega)),h i (by omega)]
theorem AAU(hk:k≤9)(h:Ch A r=some y)(h2:y.kind=2)(hS:Yh A k y d left i sum)(hi:i<9)(hbad:4≤i∧¬y.kids.getD i 0=0∨(∃n,MayP A k (y.kids.getD i 0) (d+4^(9-k)*(i%4)) (left-sum) n∧n<0)):MayP A (k+1) r d left (-1):=by
 refine .inr ⟨rfl,fun m hT=>?_⟩
 obtain⟨t1,t2,t3,t4⟩:=hT.trie h h2
 obtain⟨l,q1,q2,q3,q4,q5,q6,q7⟩:=hS
 rcases hbad with⟨h4,hne⟩|⟨n,hP,hn⟩
 ·exact hne (t4 i h4 hi)
 ·rcases hP with⟨_,_,rfl⟩|⟨_,hP⟩
  ·omega
  ·by_cases hi4:4≤i
   ·refine hP [] ?_
    rw[t4 i hi4 hi]
    exact AFt (by omega)
   ·refine hP (ofL (9-k) i m) ⟨t3 i (by omega),?_,hT.2.2.1.filter _,?_⟩
    ·rw[Nat.mod_eq_of_lt (by omega),show 10-k=9-k+1 by omega]
     have:=hT.2.1
     rw[show 10-(k+1)=9-k by omega] at this
     exact this.of
    ·have e1:(l.filter fun x=>decide (dig x.k (9-k)<i))=l:=List.filter_eq_self.2 fun x hx=>by simpa using q1 x hx
     have e2:=Yv (9-k) l m i (fun j hj=>by
      have h1:=(q4 j hj (by omega)).size
      have h2:=(t3 j (by omega)).size
      omega)
     rw[e1] at e2
     have e3:=Nz (9-k) i m
     have e4:=List.length_filter_le (fun x:It=>decide (dig x.k (9-k)<i+1)) m
     have:=hT.2.2.2
     omega
theorem AGK(hk:k≤9)(h:Ch A r=some y)(h2:y.kind=2)(hb:Ih y=y)(hS:Yh A k y d left 9 sum):(¬(sum<2∨¬sum=y.s)→MayP A (k+1) r d left sum)∧(sum<2∨¬sum=y.s→MayP A (k+1) r d left (-1)):=by
 obtain⟨l,q1,q2,q3,q4,q5,q6,q7⟩:=hS
 constructor
 ·intro hc
  have c1:¬sum<2:=fun e=>hc (.inl e)
  have c2:sum=y.s:=Decidable.not_not.1 fun e=>hc (.inr e)
  refine .inl ⟨l,⟨(Lr (by omega)).2 ⟨y.gen,[y.k0,y.k1,y.k2,y.k3],rfl,?_,fun j hj=>?_⟩,?_,q3,by omega⟩,q6⟩
  ·have:=Zs.1 hb
   rw[h2,←c2,q6] at this
   refine h.trans (congrArg some (ABJ (ks:=[y.k0,y.k1,y.k2,y.k3]) this (fun j hj=>?_)))
   by_cases h4:4≤j
   ·rw[q5 j h4 hj,List.getD_eq_getElem?_getD,List.getElem?_eq_none (by simpa using h4)];rfl
   ·rcases j with _|_|_|_|j
    all_goals first|rfl|omega
  ·have:=q4 j (by omega) hj
   rcases j with _|_|_|_|j
   all_goals first|exact this|omega
  ·rw[show 10-(k+1)=9-k by omega];exact q2
 ·intro hc
  refine .inr ⟨rfl,fun m hT=>?_⟩
  obtain⟨t1,t2,t3,t4⟩:=hT.trie h h2
  have e:l.length=m.length:=by
   have h1:=ABC (9-k) l
   have h2:=ABC (9-k) m
   have h3:∀j,j<4→(ofL (9-k) j l).length=(ofL (9-k) j m).length:=fun j hj=>by
    have h1:=(q4 j (by omega) hj).size
    have h2:=(t3 j hj).size
    omega
   rw[h3 0 (by omega),h3 1 (by omega),h3 2 (by omega),h3 3 (by omega)] at h1
   omega
  omega
theorem MayT.clash(h:Ch A r=some y)(h4:y.kind=4)(hT:MayT A 0 r d left l):∃m,List.Perm m l∧Srt m∧2≤m.length∧m.length≤9∧y.s=m.length∧(∀j x,m[j]?=some x→lfA A (y.kids.getD j 0) x)∧Fam 10 d m∧∀j,m.length≤j→j<9→y.kids.getD j 0=0:=by
 rcases hT.cases (Mg h) with⟨x,rfl,hx⟩|hl
 ·have:=((Oe h).1 hx).1;omega
 ·obtain⟨g,ks,m,e1,e2,e3,e4,e5,e6⟩:=(Jd hl).1 hT.1
  rw[h] at e5
  cases e5
  refine⟨m,e1,e2,by rw[e1.length_eq];exact hl,e3,rfl,fun j x hx=>?_,hT.2.1.perm e1,fun j h1 h9=>?_⟩
  ·have:=Cc hx
   rw[No (by omega)];exact e6 j x hx
  ·rw[No h9,List.getD_eq_getElem?_getD,List.getElem?_eq_none (by omega)];rfl
def Nr(A:Ar)(y:Node)(d i:Nat)(many:Int):Prop:=∃m:List It,Srt m∧many=m.length∧m.length≤i∧(∀j x,m[j]?=some x→lfA A (y.kids.getD j 0) x)∧Fam 10 d m∧∀j,m.length≤j→j<i→y.kids.getD j 0=0
theorem ABx:Nr A y d 0 0:=⟨[],List.Pairwise.nil,rfl,Nat.le_refl _,fun j x h=>(by cases h),Fam.nil _ _,fun j _ h=>absurd h (by omega)⟩
theorem ACl(hS:Nr A y d i many)(h0:y.kids.getD i 0=0):Nr A y d (i+1) many:=by
 obtain⟨m,q1,q2,q3,q4,q5,q6⟩:=hS
 refine⟨m,q1,q2,by omega,q4,q5,fun j h1 h2=>?_⟩
 by_cases e:j=i
 ·rw[e];exact h0
 ·exact q6 j h1 (by omega)
theorem Wy{z:Node}(hS:Nr A y d i many)(hi:(i:Int)=many)(hz:Ch A (y.kids.getD i 0)=some z)(h3:z.kind=3)(hP:MayP A 0 (y.kids.getD i 0) d 1 1)(hlt:0<i→(getN A (y.kids.getD (i-1) 0)).n<z.n):Nr A y d (i+1) (many+1):=by
 obtain⟨m,q1,q2,q3,q4,q5,q6⟩:=hS
 have hmi:m.length=i:=by omega
 rcases hP with⟨l,⟨m1,m2,m3,m4⟩,hl⟩|⟨h,_⟩
 ·have hl1:l.length=1:=by omega
  obtain⟨x,rfl⟩:=List.length_eq_one_iff.1 hl1
  have hx:=Jf.1 m1
  have hx2:=(Oe hz).1 hx
  refine⟨m++[x],?_,by rw[q2,Ag];rfl,by rw[Ag,List.length_singleton];omega,fun j z' hj=>?_,fun z' hz'=>?_,fun j h1 h2=>absurd h1 (by rw[Ag,List.length_singleton];omega)⟩
  ·refine List.pairwise_append.2 ⟨q1,List.pairwise_singleton _ _,fun a ha b hb=>?_⟩
   rw[List.mem_singleton.1 hb]
   have hpos:0<m.length:=List.length_pos_of_mem ha
   obtain⟨t,ht⟩:=Ce (l:=m) (i:=m.length-1) (by omega)
   have hl2:=q4 _ t ht
   rw[hmi] at hl2
   obtain⟨g,hg⟩:=hl2.getN
   have h5:=hlt (by omega)
   rw[hg] at h5
   have h6:t.k<x.k:=by rw[←hx2.2.2.1];exact h5
   obtain⟨j,hj⟩:=List.getElem?_of_mem ha
   have hjl:=Cc hj
   by_cases e:j=m.length-1
   ·rw[e,ht] at hj;cases hj;exact h6
   ·have:=List.pairwise_iff_getElem.1 q1 j (m.length-1) (by omega) (by omega) (by omega)
    rw[Ex hj,Ex ht] at this
    omega
  ·by_cases e:j<m.length
   ·rw[List.getElem?_append_left e] at hj;exact q4 j z' hj
   ·have hjl:=Cc hj
    rw[Ag,List.length_singleton] at hjl
    obtain rfl:j=m.length:=by omega
    rw[List.getElem?_append_right (Nat.le_refl _),Nat.sub_self] at hj
    cases hj
    rw[hmi];exact hx
  ·rcases List.mem_append.1 hz' with h|h
   ·exact q5 z' h
   ·exact m2 z' h
 ·exact absurd h (by decide)
theorem Rl(h:Ch A r=some y)(h4:y.kind=4)(hS:Nr A y d i many)(hi:i<9)(hr0:¬y.kids.getD i 0=0)(hbad:¬(i:Int)=many∨¬(getN A (y.kids.getD i 0)).kind=3∨(∃n,MayP A 0 (y.kids.getD i 0) d 1 n∧¬n=1)∨0<i∧(getN A (y.kids.getD i 0)).n≤(getN A (y.kids.getD (i-1) 0)).n):∀left l,¬MayT A 0 r d left l:=by
 intro left l hT
 obtain⟨m,t1,t2,t3,t4,t5,t6,t7,t8⟩:=hT.clash h h4
 obtain⟨m',q1,q2,q3,q4,q5,q6⟩:=hS
 have him:i<m.length:=Classical.byContradiction fun e=>hr0 (t8 i (by omega) hi)
 obtain⟨x,hx⟩:=Ce him
 have hlx:=t6 i x hx
 obtain⟨g,hg⟩:=hlx.getN
 rcases hbad with hb|hb|⟨n,hP,hn⟩|⟨h0,hb⟩
 ·have hz:=q6 m'.length (Nat.le_refl _) (by omega)
  obtain⟨z,hzm⟩:=Ce (l:=m) (i:=m'.length) (by omega)
  exact(t6 _ z hzm).nz hz
 ·rw[hg] at hb;exact hb rfl
 ·rcases hP with⟨l',⟨m1,_⟩,rfl⟩|⟨_,hP⟩
  ·have:=m1.size
   rw[hlx.size] at this
   exact hn this.symm
  ·exact hP [x] ⟨Jf.2 hlx,fun z hz=>by rw[List.mem_singleton.1 hz];exact t7 x (Au hx),List.pairwise_singleton _ _,by simp⟩
 ·obtain⟨z,hzm⟩:=Ce (l:=m) (i:=i-1) (by omega)
  obtain⟨g2,hg2⟩:=(t6 _ z hzm).getN
  rw[hg,hg2] at hb
  have:=List.pairwise_iff_getElem.1 t2 (i-1) i (by omega) him (by omega)
  rw[Ex hzm,Ex hx] at this
  simp only[hN] at hb
  omega
theorem Ta(h:Ch A r=some y)(h4:y.kind=4)(hb:Ih y=y)(hS:Nr A y d 9 many):(¬(many<2∨¬many=y.s)→many≤left→MayP A 0 r d left many)∧((many<2∨¬many=y.s)∨left<many→∀l,¬MayT A 0 r d left l):=by
 obtain⟨m,q1,q2,q3,q4,q5,q6⟩:=hS
 constructor
 ·intro hc hle
  have c1:¬many<2:=fun e=>hc (.inl e)
  have c2:many=y.s:=Decidable.not_not.1 fun e=>hc (.inr e)
  refine .inl ⟨m,⟨(Jd (by omega)).2 ⟨y.gen,y.kids.take m.length,m,List.Perm.refl _,q1,q3,?_,?_,fun j x hx=>?_⟩,q5,q1.ap,by omega⟩,q2⟩
  ·rw[List.length_take];simp[Node.kids];omega
  ·have:=Zs.1 hb
   rw[h4,←c2,q2] at this
   refine h.trans (congrArg some (ABJ (ks:=y.kids.take m.length) this (fun j hj=>?_)))
   by_cases e:j<m.length
   ·rw[List.getD_eq_getElem?_getD,List.getD_eq_getElem?_getD,List.getElem?_take_of_lt e]
   ·rw[q6 j (by omega) hj,List.getD_eq_getElem?_getD,List.getElem?_eq_none (by rw[List.length_take];omega)];rfl
  ·have e:=Cc hx
   rw[List.getD_eq_getElem?_getD,List.getElem?_take_of_lt e,←List.getD_eq_getElem?_getD]
   exact q4 j x hx
 ·intro hc l hT
  obtain⟨m',t1,t2,t3,t4,t5,t6,t7,t8⟩:=hT.clash h h4
  have e1:m.length=m'.length:=by
   rcases Nat.lt_trichotomy m.length m'.length with e|e|e
   ·obtain⟨z,hz⟩:=Ce (l:=m') (i:=m.length) (by omega)
    exact absurd (q6 m.length (Nat.le_refl _) (by omega)) (t6 _ z hz).nz
   ·exact e
   ·obtain⟨z,hz⟩:=Ce (l:=m) (i:=m'.length) (by omega)
    exact absurd (t8 m'.length (Nat.le_refl _) (by omega)) (q4 _ z hz).nz
  have e2:=t1.length_eq
  have:=hT.2.2.2
  omega
end
def isTab(A:Ar)(r:Int):Prop:=AOk A∧∃l,IsH A 10 r l∧Ap l∧l.length≤200
theorem AER{A:Ar}{r n:Int}(hA:AOk A)(h:MayP A 10 r 0 200 n):0≤n↔isTab A r:=by
 rcases h with⟨l,h,rfl⟩|⟨rfl,h⟩
 ·exact⟨fun _=>⟨hA,l,h.1,h.2.2.1,by have:=h.2.2.2;omega⟩,fun _=>by omega⟩
 ·refine⟨fun e=>absurd e (by decide),fun e=>?_⟩
  obtain⟨_,l,h1,h2,h3⟩:=e
  exact absurd ⟨h1,AL9 l,h2,by omega⟩ (h l)
noncomputable def isTabB (A:Ar) (r:Int):Bool:=@decide (isTab A r) (Classical.propDecidable _)
theorem Mp(A:Ar)(r:Int):isTabB A r=true↔isTab A r:=by unfold isTabB;exact @decide_eq_true_iff _ (Classical.propDecidable _)
theorem ACh{A:Ar}{r:Int}(h:isTab A r):isTabB A r=true:=(Mp A r).2 h
theorem AES{A:Ar}{r:Int}(h:¬isTab A r):isTabB A r=false:=by rw[Bool.eq_false_iff];exact fun e=>h ((Mp A r).1 e)
end Go.Proofs.YtbjmllnddanniaaGreat
set_option linter.unusedVariables false
set_option linter.unusedSimpArgs false
set_option maxRecDepth 4000
namespace Go.Proofs.YtbjmllnddanniaaGreat
open Go Go.XL
theorem Wz{A:Ar}{r:Int}{L:List It}(h:AFj A r L)(hl:2≤L.length):∃y m,Ch A r=some y∧y.kind=4∧y.s=L.length∧List.Perm m L∧Srt m∧2≤m.length∧m.length≤9∧(∀i x,m[i]?=some x→lfA A (y.kids.getD i 0) x)∧∀i,m.length≤i→i<9→y.kids.getD i 0=0:=by
 obtain⟨g,ks,m,h1,h2,h3,h4,h5,h6⟩:=h
 refine⟨_,m,h5,rfl,by rw[←h1.length_eq];rfl,h1,h2,by rw[h1.length_eq];exact hl,h3,fun i x hx=>?_,fun i hi h9=>?_⟩
 ·have:=Cc hx
  rw[No (by omega)];exact h6 i x hx
 ·rw[No h9,List.getD_eq_getElem?_getD,List.getElem?_eq_none (by omega)];rfl
theorem AK4(lv:Nat)(h:lv≤10):Value.int .i64 (IntKind.i64.wrap (1*2^min (Int.toNat ((2*lv:Nat):Int)) IntKind.i64.bits))=.int .i64 ((4^lv:Nat):Int):=by
 congr 1
 rw[show min (Int.toNat ((2*lv:Nat):Int)) IntKind.i64.bits=2*lv by simp[IntKind.bits];omega]
 have h2:((2:Int)^(2*lv))=((4^lv:Nat):Int):=by rw[Int.natCast_pow,Int.pow_mul];rfl
 have h3:4^lv≤1048576:=Nat.pow_le_pow_right (n:=4) (by decide) h
 rw[h2,Int.one_mul]
 generalize 4^lv=q at h3 ⊢
 rw[IntKind.wrap_i64]
 omega
theorem AIf(n lv:Nat)(hn:n<4)(h:lv≤10):Value.int .i64 (IntKind.i64.wrap ((n:Int)*2^min (Int.toNat ((2*lv:Nat):Int)) IntKind.i64.bits))=.int .i64 ((4^lv*n:Nat):Int):=by
 congr 1
 rw[show min (Int.toNat ((2*lv:Nat):Int)) IntKind.i64.bits=2*lv by simp[IntKind.bits];omega]
 have h2:((2:Int)^(2*lv))=((4^lv:Nat):Int):=by rw[Int.natCast_pow,Int.pow_mul];rfl
 have h3:4^lv≤4^10:=Nat.pow_le_pow_right (by decide) h
 have h5:(4:Nat)^10=1048576:=rfl
 have h6:n*4^lv≤3*1048576:=Nat.mul_le_mul (by omega) (by omega)
 rw[h2,←Int.natCast_mul,Nat.mul_comm (4^lv) n,IntKind.wrap_i64]
 omega
theorem AIX(n lv:Nat)(h:lv≤10):Value.int .i64 (IntKind.i64.wrap ((BitVec.ofInt 64 (n:Int) &&& BitVec.ofInt 64 ((4^lv-1:Nat):Int)).toNat:Int))=.int .i64 ((n%4^lv:Nat):Int):=by
 congr 1
 have h3:4^lv≤4^10:=Nat.pow_le_pow_right (by decide) h
 have h4:0<4^lv:=Nat.pow_pos (by decide)
 have h5:(4:Nat)^10=1048576:=rfl
 have e4:4^lv=2^(2*lv):=by rw[Nat.pow_mul]
 have h2:(BitVec.ofInt 64 (n:Int) &&& BitVec.ofInt 64 ((4^lv-1:Nat):Int)).toNat=n%4^lv:=by
  rw[BitVec.toNat_and,BitVec.ofInt_natCast,BitVec.ofInt_natCast,BitVec.toNat_ofNat,BitVec.toNat_ofNat,Nat.mod_eq_of_lt (show 4^lv-1<2^64 by omega),e4,Nat.and_two_pow_sub_one_eq_mod,←e4]
  exact Nat.mod_mod_of_dvd n (by rw[e4];exact Nat.pow_dvd_pow 2 (by omega))
 have h6:n%4^lv<4^lv:=Nat.mod_lt _ h4
 rw[h2,IntKind.wrap_i64]
 omega
theorem AFr(d lv n:Nat)(hd:d<4^lv)(hn:n<4)(h:lv≤10):Value.int .i64 (IntKind.i64.wrap ((BitVec.ofInt 64 (d:Int) ||| BitVec.ofInt 64 ((4^lv*n:Nat):Int)).toNat:Int))=.int .i64 ((d+4^lv*n:Nat):Int):=by
 congr 1
 have h3:4^lv≤4^10:=Nat.pow_le_pow_right (by decide) h
 have h5:(4:Nat)^10=1048576:=rfl
 have e4:4^lv=2^(2*lv):=by rw[Nat.pow_mul]
 have h6:4^lv*n≤1048576*3:=Nat.mul_le_mul (by omega) (by omega)
 have h2:(BitVec.ofInt 64 (d:Int) ||| BitVec.ofInt 64 ((4^lv*n:Nat):Int)).toNat=d+4^lv*n:=by
  rw[BitVec.toNat_or,BitVec.ofInt_natCast,BitVec.ofInt_natCast,BitVec.toNat_ofNat,BitVec.toNat_ofNat,Nat.mod_eq_of_lt (show d<2^64 by omega),Nat.mod_eq_of_lt (show 4^lv*n<2^64 by omega)]
  rw[e4] at hd ⊢
  rw[Nat.mul_comm,←Nat.shiftLeft_eq,Nat.or_comm,←Nat.shiftLeft_add_eq_or_of_lt hd,Nat.add_comm]
 rw[h2,IntKind.wrap_i64]
 omega
theorem ADS{y:Node}:(!eqL y.cells (Lm y).cells)=true↔¬Lm y=y:=by
 rw[Gl,Bool.not_eq_true',decide_eq_false_iff_not]
 exact⟨fun h e=>h e.symm,fun h e=>h e.symm⟩
theorem Uj{y:Node}:(!eqL y.cells (Ih y).cells)=true↔¬Ih y=y:=by
 rw[Gl,Bool.not_eq_true',decide_eq_false_iff_not]
 exact⟨fun h e=>h e.symm,fun h e=>h e.symm⟩
def ACE(P:Int→Prop)(w:World)(v:Value)(w':World):Prop:=∃n,v=.int .i64 n∧P n∧Sub w w'
set_option maxHeartbeats 1000000 in
theorem ACR(bf:Nat)(s:St)(C:Nat→Prop)(k lv:Nat)(hk:k≤10)(hlv:lv=10-k)(r:Int)(hr:U64 r)(d:Nat)(left:Int)(h0:0≤left)(w:World)(hF:Ft C (Ho bf s C) w)
  (hT:∀y,Ch s.1 r=some y→y.kind=2→Ih y=y→¬k=0→0<left→∀w',Sub w w'→FC Tryz.prog 184 [.pointer (some ⟨bf,0,none⟩),y.val,.int .i64 (lv:Int),.int .i64 (d:Int),.int .i64 left] w' (ACE (MayP s.1 k r d left) w'))
  (hC:∀y,Ch s.1 r=some y→y.kind=4→Ih y=y→k=0→0<left→∀w',Sub w w'→FC Tryz.prog 185 [.pointer (some ⟨bf,0,none⟩),y.val,.int .i64 (d:Int)] w' (ACE (fun n=>(n≤left→MayP s.1 k r d left n)∧(left<n→MayP s.1 k r d left (-1))) w')) :
  FC Tryz.prog 110 [.pointer (some ⟨bf,0,none⟩),.int .u64 r,.int .i64 (lv:Int),.int .i64 (d:Int),.int .i64 left] w (ACE (MayP s.1 k r d left) w):=by
 obtain⟨hCb,na,fa,nc,fc,M,hbf,hnc,hfc,hA,hMb,hMC⟩:=hF.now
 obtain⟨y,e,hgv,hgs,hgn⟩:=Mq s.1 r
 have hA:=hA.now
 refine As Tryz.func110 rfl Tryz.ntmps110 rfl ?_
 have S:=Ax w
 refine Ac<|Aa rfl<|Ah rfl<|Ae<|Ab<|Ac<|Ac<|Aa rfl<|Af rfl<|Bc rfl rfl rfl<|Ae<|Ab<|An rfl (fun h1=>?_) (fun h1=>?_)
 ·
  have hres:MayP s.1 k r d left 0:=(by rw[h1];exact AJp h0)
  refine Ac<|Aa rfl<|Ah rfl<|Ae<|Ab<|Bb 10 rfl rfl rfl ?_
  exact⟨_,rfl,hres,S⟩
 ·
  have hr0:=h1
  refine Ao<|Ab<|Ac<|Aa rfl<|Af rfl<|Ak (.nilCheck rfl)<|Av ADi rfl<|Ak (.loadR (wvA na fa nc fc s.1) Cb rfl (Fg (xs:=wvA na fa nc fc s.1) (ys:=[.int .i64 s.2]) hbf) rfl)<|Af rfl<|Az rfl Ll (Jc s.1 na fa nc fc r hr w (hA.sub S)) ?_;rintro _ w2 ⟨rfl,s3⟩;have S:=S.trans s3;refine Ak (.as (v':=.tuple #[y.val,.int .i64 e]) (.move rfl) (by rw[hgv]))<|Bz rfl rfl<|Bz rfl rfl<|Ay Dx rfl rfl (fun o z m t a l=>?_);have h:=S.le m;have S:=S.trans l;refine At Ct rfl rfl rfl a (fun w4 z4 a a4=>?_);have S:=S.upd a4 h
  have a:Has w4 o (y.cells) _:=a.now (by kernel_rfl)
  refine Ah rfl<|Ae<|Ab<|Ac<|Ac<|Aa rfl<|Af rfl<|Bc rfl rfl rfl<|Af rfl<|Bn 28 rfl (fun h5=>?_) (fun h5=>?_)
  ·
   have hres:MayP s.1 k r d left (-1):=ABG hr0 (.inl (by cases hg:Ch s.1 r with|none=>rfl|some x=>exact absurd (hgs x hg).2 h5))
   refine Bd 2 rfl<|Br rfl rfl<|Ae<|Ab<|Bm rfl<|Ac<|Aa rfl<|Ah rfl<|Ae<|Ab<|Bb 10 rfl rfl rfl ?_
   exact⟨_,rfl,hres,S⟩
  ·
   have hy:Ch s.1 r=some y:=(by cases hg:Ch s.1 r with|none=>have:=(hgn hg).2;omega|some x=>rw[(hgs x hg).1])
   refine Af rfl<|Bc rfl rfl rfl<|Bq rfl rfl<|Ae<|Ab<|An rfl (fun h6=>?_) (fun h6=>?_)
   ·
    have hres:MayP s.1 k r d left (-1):=ABG hr0 (.inr h6)
    refine Ac<|Aa rfl<|Ah rfl<|Ae<|Ab<|Bb 10 rfl rfl rfl ?_
    exact⟨_,rfl,hres,S⟩
   ·
    have hl0:0<left:=(by omega)
    refine Ao<|Ab<|Ac<|Aa rfl<|Av Es rfl<|Ba sh3 rfl a rfl<|Av Gv rfl<|Ba sh3 rfl a rfl<|Av Da rfl<|Ak (.as (v':=.agg (y.kids.map u6).toArray) (.loadR (y.kids.map u6) AC3 rfl (Ee (pre:=[i6 y.kind,i6 y.gen,i6 y.n,i6 y.v,i6 y.s]) (mid:=y.kids.map u6) (post:=[i6 y.pre,i6 y.suf]) a rfl) rfl) (by rfl))<|Av Hg rfl<|Ba sh2 rfl a rfl<|Ak (.buildS (vs:=[(0,i6 y.kind),(1,i6 y.gen),(5,.agg (y.kids.map u6).toArray),(4,i6 y.s)]) (cs:=(Ih y).cells.toArray) Dx Mv rfl (by kernel_rfl))<|Ay Dx rfl rfl (fun j u i p b g=>?_);have f:=S.le i;have c:=a.ne i;have S:=S.trans g;have a:=a.sub g;refine At Ct rfl rfl rfl b (fun w7 z7 b a7=>?_);have S:=S.upd a7 f;have a:=a.upd a7 c
    have b:Has w7 j ((Ih y).cells) _:=b.now (by kernel_rfl)
    refine Ae<|Ab<|Ac<|Ac<|Aa rfl<|Av Es rfl<|Ba sh3 rfl a rfl<|Ae<|Ab<|Bh<|Ac<|Aa rfl<|Bc rfl rfl rfl<|Ah rfl<|Ae (Ab ?_);refine An rfl (fun h8=>?_) (fun h8=>?_)
    ·
     have h3:=h8
     refine Ac<|Aa rfl<|Av Es rfl<|Ba sh3 rfl a rfl<|Av Gv rfl<|Ba sh3 rfl a rfl<|Av Fl rfl<|Ba sh2 rfl a rfl<|Av Hv rfl<|Ba sh2 rfl a rfl<|Ak (.buildS Dx Mv rfl rfl)<|At Ct rfl rfl rfl b (fun w9 z9 b a9=>?_);have S:=S.upd a9 f;have a:=a.upd a9 c
     have b:Has w9 j ((Lm y).cells) _:=b.now (by kernel_rfl)
     refine Ae<|Ab<|Ac<|Ac<|Ev rfl mxo (by kernel_rfl)<|Aw (.loadR (y.cells) Ct rfl a.row rfl)<|Aw (.loadR ((Lm y).cells) Ct rfl b.row rfl)<|Aw (.neS (xs:=y.cells) (ys:=(Lm y).cells) Vb Vc Ct rfl rfl rfl rfl rfl)<|Cf rfl<|Tg 57 rfl (fun h10=>?_) (fun h10=>?_)
     ·
      have hres:MayP s.1 k r d left (-1):=(Ly (k:=k) (d:=d) hr0 hy h3 hl0).2 (fun q=>ADS.1 h10 q.1)
      refine Bj<|Bj<|Bj<|Bj<|Bj<|Bj<|Bj<|Bj<|Bj<|Bj<|Aw (.pick_t rfl rfl)<|Dq (fun w11 s12=>Ab ?_);have S:=S.trans s12;have a:=a.sub s12;have b:=b.sub s12;refine Bm rfl<|Ac<|Aa rfl<|Ah rfl<|Ae<|Ab<|Bb 10 rfl rfl rfl ?_
      exact⟨_,rfl,hres,S⟩
     ·
      have hlf:Lm y=y:=Decidable.not_not.1 (fun q=>by have h2:=h10;rw[ADS.2 q] at h2;cases h2)
      refine Aw (.field0 Fl rfl)<|Aw (.load1 sh2 rfl (a.cell rfl))<|Ji rfl ALq (fun w' s'=>AKB y.n w') rfl rfl<|Cf rfl<|Aw (.as (.bin rfl rfl rfl) (Cs (y:=((2*lv:Nat):Int)) (by omega) (by omega)))<|Aw (.as (v':=.int .i64 ((4^lv:Nat):Int)) (.shl rfl rfl (by omega)) (by exact AK4 lv (by omega)))<|Aw (.as (v':=.int .i64 ((4^lv-1:Nat):Int)) (.bin rfl rfl rfl) (by have h3:4^lv≤4^10:=Nat.pow_le_pow_right (by decide) (by omega);have h4:0<4^lv:=Nat.pow_pos (by decide);have h5:(4:Nat)^10=1048576:=rfl;congr 1;rw[IntKind.wrap_i64];omega))<|Aw (.as (v':=.int .i64 ((Gm y.n%4^lv:Nat):Int)) (.bin rfl rfl rfl) (by exact AIX _ lv (by omega)))<|Cf rfl<|Aw (.bin rfl rfl rfl)<|Aw (.pick_f rfl rfl)<|Dq (fun w13 s14=>Ab ?_);have S:=S.trans s14;have a:=a.sub s14;have b:=b.sub s14;refine An rfl (fun h15=>?_) (fun h15=>?_)
      ·
       have hres:MayP s.1 k r d left (-1):=(Ly (k:=k) (d:=d) hr0 hy h3 hl0).2 (fun q=>by have h2:=q.2;rw[←hlv] at h2;rw[h2] at h15;exact h15 rfl)
       refine Ac<|Aa rfl<|Ah rfl<|Ae<|Ab<|Bb 10 rfl rfl rfl ?_
       exact⟨_,rfl,hres,S⟩
      ·
       have hres:MayP s.1 k r d left 1:=(Ly (k:=k) (d:=d) hr0 hy h3 hl0).1 ⟨hlf,by rw[←hlv];omega⟩
       refine Ao<|Ab<|Ac<|Aa rfl<|Ah rfl<|Ae<|Ab<|Bb 10 rfl rfl rfl ?_
       exact⟨_,rfl,hres,S⟩
    ·
     have h3:=h8
     refine Ac<|Aa rfl<|Bc rfl rfl rfl<|Ah rfl<|Ae<|Ab<|An rfl (fun h16=>?_) (fun h16=>?_)
     ·
      have h2:=h16
      refine Ac<|Ac<|Aa rfl<|Af rfl<|Bc rfl rfl rfl<|Af rfl<|Bn 73 rfl (fun h17=>?_) (fun h17=>?_)
      ·
       have hres:MayP s.1 k r d left (-1):=Nw hr0 hy h3 (.inr (.inl ⟨h2,by have:=h17;omega⟩))
       refine Bd 3 rfl<|Br rfl rfl<|Ae<|Ab<|Bm rfl<|Ac<|Aa rfl<|Ah rfl<|Ae<|Ab<|Bb 10 rfl rfl rfl ?_
       exact⟨_,rfl,hres,S⟩
      ·
       have hk0:¬k=0:=(by have:=h17;omega)
       refine Ak (.loadR (y.cells) Ct rfl a.row rfl)<|Ak (.loadR ((Ih y).cells) Ct rfl b.row rfl)<|Ak (.neS (xs:=y.cells) (ys:=(Ih y).cells) Vb Vc Ct rfl rfl rfl rfl rfl)<|Bq rfl rfl<|Ae<|Ab<|Db rfl (fun h18=>?_) (fun h18=>?_)
       ·
        have hres:MayP s.1 k r d left (-1):=Nw hr0 hy h3 (.inl (Uj.1 h18))
        refine Ac<|Aa rfl<|Ah rfl<|Ae<|Ab<|Bb 10 rfl rfl rfl ?_
        exact⟨_,rfl,hres,S⟩
       ·
        have hbr:Ih y=y:=Decidable.not_not.1 (fun q=>by have h2:=h18;rw[Uj.2 q] at h2;cases h2)
        refine Ao<|Ab<|Ac<|Aa rfl<|Af rfl<|Ak (.loadR (y.cells) Ct rfl (a.row) rfl)<|Af rfl<|Af rfl<|Af rfl<|Az rfl ALp (hT y hy h2 hbr hk0 hl0 w7 S) ?_;rintro _ w19 ⟨n,rfl,hres,s20⟩;have S:=S.trans s20;have a:=a.sub s20;have b:=b.sub s20;refine Ah rfl<|Ae<|Ab<|Bb 10 rfl rfl rfl ?_
        exact⟨_,rfl,hres,S⟩
     ·
      have h2:=h16
      refine Ac<|Aa rfl<|Bc rfl rfl rfl<|Ah rfl<|Ae<|Ab<|An rfl (fun h21=>?_) (fun h21=>?_)
      ·
       have h4:=h21
       refine Ac<|Ac<|Aa rfl<|Af rfl<|Bc rfl rfl rfl<|Af rfl<|Bn 88 rfl (fun h22=>?_) (fun h22=>?_)
       ·
        have hres:MayP s.1 k r d left (-1):=Nw hr0 hy h3 (.inr (.inr (.inl ⟨h4,by have:=h22;omega⟩)))
        refine Bd 3 rfl<|Br rfl rfl<|Ae<|Ab<|Bm rfl<|Ac<|Aa rfl<|Ah rfl<|Ae<|Ab<|Bb 10 rfl rfl rfl ?_
        exact⟨_,rfl,hres,S⟩
       ·
        have hk0:k=0:=(by have:=h22;omega)
        refine Ak (.loadR (y.cells) Ct rfl a.row rfl)<|Ak (.loadR ((Ih y).cells) Ct rfl b.row rfl)<|Ak (.neS (xs:=y.cells) (ys:=(Ih y).cells) Vb Vc Ct rfl rfl rfl rfl rfl)<|Bq rfl rfl<|Ae<|Ab<|Db rfl (fun h23=>?_) (fun h23=>?_)
        ·
         have hres:MayP s.1 k r d left (-1):=Nw hr0 hy h3 (.inl (Uj.1 h23))
         refine Ac<|Aa rfl<|Ah rfl<|Ae<|Ab<|Bb 10 rfl rfl rfl ?_
         exact⟨_,rfl,hres,S⟩
        ·
         have hbr:Ih y=y:=Decidable.not_not.1 (fun q=>by have h2:=h23;rw[Uj.2 q] at h2;cases h2)
         refine Ao<|Ab<|Ac<|Aa rfl<|Af rfl<|Ak (.loadR (y.cells) Ct rfl (a.row) rfl)<|Af rfl<|Az rfl ALo (hC y hy h4 hbr hk0 hl0 w7 S) ?_;rintro _ w24 ⟨n,rfl,hres2,s25⟩;have S:=S.trans s25;refine Ah rfl<|Ae<|Ab<|Ac<|Aa rfl<|Af rfl<|Af rfl<|Bc rfl rfl rfl<|Ae<|Ab<|An rfl (fun h26=>?_) (fun h26=>?_)
         ·
          have hres:MayP s.1 k r d left n:=hres2.1 h26
          refine Ac<|Aa rfl<|Af rfl<|Ah rfl<|Ae<|Ab<|Bb 10 rfl rfl rfl ?_
          exact⟨_,rfl,hres,S⟩
         ·
          have hres:MayP s.1 k r d left (-1):=hres2.2 (by have:=h26;omega)
          refine Ao<|Ab<|Ac<|Aa rfl<|Ah rfl<|Ae<|Ab<|Bb 10 rfl rfl rfl ?_
          exact⟨_,rfl,hres,S⟩
      ·
       have h4:=h21
       have hres:MayP s.1 k r d left (-1):=Nw hr0 hy h3 (.inr (.inr (.inr ⟨h2,h4⟩)))
       refine Ao<|Ab<|Ac<|Aa rfl<|Ah rfl<|Ae<|Ab<|Bb 10 rfl rfl rfl ?_
       exact⟨_,rfl,hres,S⟩
theorem Zi{d q m:Nat}(hd:d<q)(hm:m<4):d+q*m<q*4:=by
 have:q*m≤q*3:=Nat.mul_le_mul_left q (by omega)
 omega
theorem Mf{y:Node}{i:Nat}{x:Int}(h:y.kids[i]?=some x):y.kids.getD i 0=x:=by rw[List.getD_eq_getElem?_getD,h];rfl
set_option maxHeartbeats 1000000 in
theorem AJ1(bf:Nat)(s:St)(C:Nat→Prop)(k lv:Nat)(hk:k≤9)(hlv:lv=9-k)(r:Int)(y:Node)(hy:Ch s.1 r=some y)(hyo:y.ok)(hy2:y.kind=2)(hyb:Ih y=y)(d:Nat)(hd:d<4^lv)(left:Int)(h0:0≤left)(hl:left≤1000000)
  (ih:∀(r':Int) (d':Nat) (left':Int) (w':World),U64 r'→d'<4^(lv+1)→0≤left'→left'≤1000000→Ft C (Ho bf s C) w'→FC Tryz.prog 110 [.pointer (some ⟨bf,0,none⟩),.int .u64 r',.int .i64 ((lv+1:Nat):Int),.int .i64 (d':Int),.int .i64 left'] w' (ACE (MayP s.1 k r' d' left') w'))
  (w:World) (hF:Ft C (Ho bf s C) w) :
  FC Tryz.prog 184 [.pointer (some ⟨bf,0,none⟩),y.val,.int .i64 (lv:Int),.int .i64 (d:Int),.int .i64 left] w (ACE (MayP s.1 (k+1) r d left) w):=by
 have hG:Ft C (Ho bf s C) w:=hF
 refine As Tryz.func184 rfl Tryz.ntmps184 rfl ?_
 have S:=Ax w
 refine Ac<|Aa rfl<|Bu rfl rfl rfl (fun c f m j b g=>?_);have S:=S.trans g
 have b:Has f c (y.cells) _:=b
 refine Ah rfl<|Ae<|Ab<|Ac<|Aa rfl<|Ah rfl<|Ae<|Ab<|Ac<|Ac<|Aa rfl<|Av Da rfl<|Ak (.as (v':=.agg (y.kids.map u6).toArray) (.loadR (y.kids.map u6) AC3 rfl (Ee (pre:=[i6 y.kind,i6 y.gen,i6 y.n,i6 y.v,i6 y.s]) (mid:=y.kids.map u6) (post:=[i6 y.pre,i6 y.suf]) b rfl) rfl) (by rfl))<|Af rfl<|Ae (Ab ?_);refine Bh<|Cw (α:=Nat × Int) (fun x=>[(0,.pointer (some ⟨bf,0,none⟩)),(2,.int .i64 (lv:Int)),(3,.int .i64 (d:Int)),(4,.int .i64 left),(6,.pointer (some ⟨c,0,none⟩)),(11,.int .i64 x.2),(16,.agg (y.kids.map u6).toArray),(17,.int .i64 (x.1:Int))]) (fun x w1=>x.1≤9∧Yh s.1 k y d left x.1 x.2∧Has w1 c y.cells 140∧Sub w w1) (fun x=>9-x.1) (0,0) (Bf (by repeat (first|exact trivial|refine And.intro rfl ?_))) (⟨Nat.zero_le _,ACT h0,b,S⟩) (fun x w1 hJ=>?_)
 obtain⟨i,sum⟩:=x;obtain⟨hi,hS,b,S⟩:=hJ;simp only[] at hi hS;have hsr:0≤sum∧sum≤left:=(by obtain⟨l,_,_,_,_,_,q6,q7⟩:=hS;exact⟨by omega,q7⟩)
 refine Ac<|Aa rfl<|Bc rfl rfl rfl<|Ae<|Ab<|Ac<|An rfl (fun h2=>?_) (fun h2=>?_)
 ·
  obtain⟨x,hx⟩:=Ce (l:=y.kids) (i:=i) (by show i<9;omega)
  have hkx:=Mf hx
  refine Ao<|Ab<|Ac<|Bh<|Ac<|Aa rfl<|Af rfl<|Ak (.index1 Eb Dm rfl rfl (by omega) ((by simp[hx]:(y.kids.map u6).toArray[(i:Int).toNat*1]?=some (u6 x))))<|Ah rfl<|Ah rfl<|Ae<|Ab<|Ac<|Ac<|Aa rfl<|Af rfl ?_;refine Bc rfl rfl rfl<|Af rfl<|Bn 23 rfl (fun h3=>?_) (fun h3=>?_)
  ·
   have h23:=h3
   refine Af rfl<|Bc rfl rfl rfl<|Br rfl rfl<|Ae<|Ab<|An rfl (fun h4=>?_) (fun h4=>?_)
   ·
    have hres:MayP s.1 (k+1) r d left (-1):=AAU hk hy hy2 hS (by omega) (.inl ⟨by omega,by rw[hkx];exact h4⟩)
    refine Ac<|Aa rfl<|Ah rfl<|Ae<|Ab<|Bb 10 rfl rfl rfl ?_
    exact⟨_,rfl,hres,S⟩
   ·
    have h26:x=0:=Decidable.not_not.1 h4
    refine Ao<|Ab<|Ac<|Aa rfl<|Af rfl<|Af rfl<|Af rfl<|Ak (.as (.bin rfl rfl rfl) (Cs (y:=((lv+1:Nat):Int)) (by omega) (by omega)))<|Af rfl<|Af rfl<|Ak (.as (v':=.int .i64 ((i%4:Nat):Int)) (.rem rfl rfl (by decide)) (by congr 1))<|Af rfl<|Ak (.as (.bin rfl rfl rfl) (Cs (y:=((2*lv:Nat):Int)) (by omega) (by omega)))<|Ak (.as (v':=.int .i64 ((4^lv*(i%4):Nat):Int)) (.shl rfl rfl (by omega)) (by exact AIf _ lv (Nat.mod_lt _ (by decide)) (by omega)))<|Ak (.as (v':=.int .i64 ((d+4^lv*(i%4):Nat):Int)) (.bin rfl rfl rfl) (by exact AFr d lv _ hd (Nat.mod_lt _ (by decide)) (by omega)))<|Af rfl ?_;refine Af rfl<|Ak (.as (.bin rfl rfl rfl) (Cs (y:=left-sum) (by rfl) (by omega)))<|Az rfl ADA (ih x (d+4^lv*(i%4)) (left-sum) w1 (hyo.kids x (Au hx)) (by rw[Nat.pow_succ];exact Zi hd (Nat.mod_lt _ (by decide))) (by omega) (by omega) (hG.sub S)) ?_;rintro _ w5 ⟨n,rfl,hP,s6⟩;have S:=S.trans s6;have b:=b.sub s6
    have hPr:=hP.rng (by omega)
    rw[hlv] at hP
    refine Ah rfl<|Ae<|Ab<|Ac<|Ac<|Aa rfl<|Af rfl<|Bc rfl rfl rfl<|Ae<|Ab<|An rfl (fun h7=>?_) (fun h7=>?_)
    ·
     have hres:MayP s.1 (k+1) r d left (-1):=AAU hk hy hy2 hS (by omega) (.inr ⟨n,by rw[hkx];exact hP,h7⟩)
     refine Ac<|Aa rfl<|Ah rfl<|Ae<|Ab<|Bb 10 rfl rfl rfl ?_
     exact⟨_,rfl,hres,S⟩
    ·
     have hn0:0≤n:=(by omega)
     refine Ao<|Ab<|Aa rfl<|Af rfl<|Af rfl<|Ak (.as (.bin rfl rfl rfl) (Cs (y:=sum+n) (by rfl) (by omega)))<|Ah rfl<|Ae<|Ab<|Aa rfl<|Ak (.as (.bin rfl rfl rfl) (Cs (y:=((i+1:Nat):Int)) (by omega) (by omega)))<|Af rfl ?_
     exact Ae (fun a ka=>⟨(i+1,sum+n),⟨by omega,Yk hk (hlv▸hd) hS (by omega) (fun h=>by rw[hkx];first|exact h26|omega) (by rw[hkx];exact hP) hn0,b,S⟩,by omega,ka.keep (Bf (by repeat (first|exact trivial|refine And.intro rfl ?_)))⟩)
  ·
   have h23:=h3
   refine Bd 2 rfl<|Bq rfl rfl<|Ae<|Ab<|Bw rfl<|Ao<|Ab<|Ac<|Aa rfl<|Af rfl<|Af rfl<|Af rfl<|Ak (.as (.bin rfl rfl rfl) (Cs (y:=((lv+1:Nat):Int)) (by omega) (by omega)))<|Af rfl<|Af rfl<|Ak (.as (v':=.int .i64 ((i%4:Nat):Int)) (.rem rfl rfl (by decide)) (by congr 1)) ?_;refine Af rfl<|Ak (.as (.bin rfl rfl rfl) (Cs (y:=((2*lv:Nat):Int)) (by omega) (by omega)))<|Ak (.as (v':=.int .i64 ((4^lv*(i%4):Nat):Int)) (.shl rfl rfl (by omega)) (by exact AIf _ lv (Nat.mod_lt _ (by decide)) (by omega)))<|Ak (.as (v':=.int .i64 ((d+4^lv*(i%4):Nat):Int)) (.bin rfl rfl rfl) (by exact AFr d lv _ hd (Nat.mod_lt _ (by decide)) (by omega)))<|Af rfl<|Af rfl<|Ak (.as (.bin rfl rfl rfl) (Cs (y:=left-sum) (by rfl) (by omega)))<|Az rfl ADA (ih x (d+4^lv*(i%4)) (left-sum) w1 (hyo.kids x (Au hx)) (by rw[Nat.pow_succ];exact Zi hd (Nat.mod_lt _ (by decide))) (by omega) (by omega) (hG.sub S)) ?_;rintro _ w8 ⟨n,rfl,hP,s9⟩;have S:=S.trans s9;have b:=b.sub s9
   have hPr:=hP.rng (by omega)
   rw[hlv] at hP
   refine Ah rfl<|Ae<|Ab<|Ac<|Ac<|Aa rfl<|Af rfl<|Bc rfl rfl rfl<|Ae<|Ab<|An rfl (fun h10=>?_) (fun h10=>?_)
   ·
    have hres:MayP s.1 (k+1) r d left (-1):=AAU hk hy hy2 hS (by omega) (.inr ⟨n,by rw[hkx];exact hP,h10⟩)
    refine Ac<|Aa rfl<|Ah rfl<|Ae<|Ab<|Bb 10 rfl rfl rfl ?_
    exact⟨_,rfl,hres,S⟩
   ·
    have hn0:0≤n:=(by omega)
    refine Ao<|Ab<|Aa rfl<|Af rfl<|Af rfl<|Ak (.as (.bin rfl rfl rfl) (Cs (y:=sum+n) (by rfl) (by omega)))<|Ah rfl<|Ae<|Ab<|Aa rfl<|Ak (.as (.bin rfl rfl rfl) (Cs (y:=((i+1:Nat):Int)) (by omega) (by omega)))<|Af rfl ?_
    exact Ae (fun a ka=>⟨(i+1,sum+n),⟨by omega,Yk hk (hlv▸hd) hS (by omega) (fun h=>absurd h (by omega)) (by rw[hkx];exact hP) hn0,b,S⟩,by omega,ka.keep (Bf (by repeat (first|exact trivial|refine And.intro rfl ?_)))⟩)
 ·
  obtain rfl:i=9:=(by omega)
  have hend:=AGK (r:=r) hk hy hy2 hyb hS
  refine Co rfl<|Ab<|Ac<|Ac<|Aa rfl<|Af rfl<|Bc rfl rfl rfl<|Af rfl<|Bn 50 rfl (fun h11=>?_) (fun h11=>?_)
  ·
   have hres:MayP s.1 (k+1) r d left (-1):=hend.2 (.inl h11)
   refine Bd 4 rfl<|Br rfl rfl<|Ae<|Ab<|Bm rfl<|Ac<|Aa rfl<|Ah rfl<|Ae<|Ab<|Bb 10 rfl rfl rfl ?_
   exact⟨_,rfl,hres,S⟩
  ·
   have h50:=h11
   refine Af rfl<|Av Hg rfl<|Ba sh2 rfl b rfl<|Bc rfl rfl rfl<|Bq rfl rfl<|Ae<|Ab<|An rfl (fun h12=>?_) (fun h12=>?_)
   ·
    have hres:MayP s.1 (k+1) r d left (-1):=hend.2 (.inr h12)
    refine Ac<|Aa rfl<|Ah rfl<|Ae<|Ab<|Bb 10 rfl rfl rfl ?_
    exact⟨_,rfl,hres,S⟩
   ·
    have hres:MayP s.1 (k+1) r d left sum:=hend.1 (fun e=>e.elim h50 h12)
    refine Ao<|Ab<|Ac<|Aa rfl<|Af rfl<|Ah rfl<|Ae<|Ab<|Bb 10 rfl rfl rfl ?_
    exact⟨_,rfl,hres,S⟩
theorem AGn{y:Node}{i:Nat}{x:Int}(h:y.kids[i]?=some x):y.cells[5+(i:Int).toNat*1]?=some (u6 x):=by
 have hi:i<9:=Cc h
 rcases i with _|_|_|_|_|_|_|_|_|i
 all_goals first|(cases h;rfl)|omega
theorem AEN{A:Ar}{k d:Nat}{r left n m:Int}(h:MayP A k r d left n)(h2:MayP A k r d left m):n=m:=by
 rcases h with⟨l,h,rfl⟩|⟨rfl,h⟩<;>rcases h2 with⟨l',h2,rfl⟩|⟨rfl,h2⟩
 ·have e1:=h.1.size;have e2:=h2.1.size;omega
 ·exact absurd h (h2 l)
 ·exact absurd h2 (h l')
 ·rfl
def AAz(z:Node)(d:Nat):Int:=if Lm z=z∧Gm z.n%4^10=d then 1 else -1
theorem Vs{A:Ar}{r:Int}{z:Node}{d:Nat}(hz:Ch A r=some z)(h3:z.kind=3):MayP A 0 r d 1 (AAz z d):=by
 unfold AAz
 by_cases q:Lm z=z∧Gm z.n%4^10=d
 ·rw[if_pos q];exact(Ly (k:=0) (d:=d) (Mg hz) hz h3 (by decide)).1 q
 ·rw[if_neg q];exact(Ly (k:=0) (d:=d) (Mg hz) hz h3 (by decide)).2 q
theorem AEo(bf:Nat)(s:St)(C:Nat→Prop)(r:Int)(hr:U64 r)(z:Node)(hz:Ch s.1 r=some z)(h3:z.kind=3)(d:Nat)(w:World)(hF:Ft C (Ho bf s C) w):
  FC Tryz.prog 110 [.pointer (some ⟨bf,0,none⟩),.int .u64 r,.int .i64 10,.int .i64 (d:Int),.int .i64 1] w (Val (.int .i64 (AAz z d)) w):=by
 refine(ACR bf s C 0 10 (by decide) rfl r hr d 1 (by decide) w hF (fun y2 e1 e2=>by rw[hz] at e1;cases e1;omega) (fun y2 e1 e2=>by rw[hz] at e1;cases e1;omega)).mono ?_
 rintro v w' ⟨n,rfl,hP,s'⟩
 exact⟨by rw[AEN hP (Vs hz h3)],s'⟩
set_option maxHeartbeats 2000000 in
theorem AHK(bf:Nat)(s:St)(C:Nat→Prop)(r:Int)(y:Node)(hy:Ch s.1 r=some y)(hyo:y.ok)(hy4:y.kind=4)(hyb:Ih y=y)(d:Nat)(left:Int)(w:World)(hF:Ft C (Ho bf s C) w):
  FC Tryz.prog 185 [.pointer (some ⟨bf,0,none⟩),y.val,.int .i64 (d:Int)] w (ACE (fun n=>(n≤left→MayP s.1 0 r d left n)∧(left<n→MayP s.1 0 r d left (-1))) w):=by
 have hG:Ft C (Ho bf s C) w:=hF
 have hnok:=hF.now.nok
 have res_no:(∀left l,¬MayT s.1 0 r d left l)→(((-1:Int)≤left→MayP s.1 0 r d left (-1))∧(left<(-1:Int)→MayP s.1 0 r d left (-1))):=fun h=>⟨fun _=>.inr ⟨rfl,h left⟩,fun _=>.inr ⟨rfl,h left⟩⟩
 refine As Tryz.func185 rfl Tryz.ntmps185 rfl ?_
 have S:=Ax w
 refine Ac<|Aa rfl<|Bu rfl rfl rfl (fun m q B A b u=>?_);have S:=S.trans u
 have b:Has q m (y.cells) _:=b
 refine Ah rfl<|Ae<|Ab<|Ac<|Aa rfl<|Ah rfl<|Ae<|Ab<|Ac<|Ac<|Aa rfl<|Av Da rfl<|Ak (.as (v':=.agg (y.kids.map u6).toArray) (.loadR (y.kids.map u6) AC3 rfl (Ee (pre:=[i6 y.kind,i6 y.gen,i6 y.n,i6 y.v,i6 y.s]) (mid:=y.kids.map u6) (post:=[i6 y.pre,i6 y.suf]) b rfl) rfl) (by rfl))<|Af rfl<|Ae (Ab ?_);refine Bh<|Cw (α:=Nat × Int) (fun x=>[(0,.pointer (some ⟨bf,0,none⟩)),(2,.int .i64 (d:Int)),(4,.pointer (some ⟨m,0,none⟩)),(7,.int .i64 x.2),(12,.agg (y.kids.map u6).toArray),(13,.int .i64 (x.1:Int))]) (fun x w1=>x.1≤9∧Nr s.1 y d x.1 x.2∧Has w1 m y.cells 140∧Sub w w1) (fun x=>9-x.1) (0,0) (Bf (by repeat (first|exact trivial|refine And.intro rfl ?_))) (⟨Nat.zero_le _,ABx,b,S⟩) (fun x w1 hJ=>?_)
 obtain⟨i,many⟩:=x;obtain⟨hi,hS,b,S⟩:=hJ;simp only[] at hi hS;have hsr:0≤many∧many≤i:=(by obtain⟨l,_,q2,q3,_⟩:=hS;omega)
 refine Ac<|Aa rfl<|Bc rfl rfl rfl<|Ae<|Ab<|Ac<|An rfl (fun h2=>?_) (fun h2=>?_)
 ·
  obtain⟨x,hx⟩:=Ce (l:=y.kids) (i:=i) (by show i<9;omega)
  have hkx:=Mf hx
  have hxu:=hyo.kids x (Au hx)
  have hi9:i<9:=(by omega)
  refine Ao<|Ab<|Ac<|Bh<|Ac<|Aa rfl<|Af rfl<|Ak (.index1 Eb Dm rfl rfl (by omega) ((by simp[hx]:(y.kids.map u6).toArray[(i:Int).toNat*1]?=some (u6 x))))<|Ah rfl<|Ah rfl<|Ae<|Ab<|Ac<|Aa rfl<|Af rfl<|Af rfl ?_;refine Az rfl AI4 (AGD bf s C x hxu w1 (hG.sub S)) ?_;rintro _ w3 ⟨rfl,s4⟩;have S:=S.trans s4;have b:=b.sub s4;refine Ay Dx rfl rfl (fun o t k p c g=>?_);have j:=S.le k;have f:=b.ne k;have S:=S.trans g;have b:=b.sub g;refine At Ct rfl rfl rfl c (fun w5 z5 c a5=>?_);have S:=S.upd a5 j;have b:=b.upd a5 f
  have c:Has w5 o ((getN s.1 x).cells) _:=c.now (by kernel_rfl)
  refine Ae<|Ab<|Ac<|Ac<|Aa rfl<|Af rfl<|Bc rfl rfl rfl<|Ae<|Ab<|An rfl (fun h6=>?_) (fun h6=>?_)
  ·
   have hx0:=h6
   refine Co rfl<|Ab<|Aa rfl<|Ak (.as (.bin rfl rfl rfl) (Cs (y:=((i+1:Nat):Int)) (by omega) (by omega)))<|Af rfl ?_
   exact Ae (fun a ka=>⟨(i+1,many),⟨by omega,ACl hS (by rw[hkx];exact hx0),b,S⟩,by omega,ka.keep (Bf (by repeat (first|exact trivial|refine And.intro rfl ?_)))⟩)
  ·
   have hx0:¬x=0:=h6
   refine Ao<|Ab<|Ac<|Ac<|Ev rfl mxo (by kernel_rfl)<|Cf rfl<|Cf rfl<|Aw (.bin rfl rfl rfl)<|Cf rfl<|Fp 25 rfl (fun h7=>?_) (fun h7=>?_)
   ·
    have hres:=res_no (Rl hy hy4 hS hi9 (by rw[hkx];exact hx0) (.inl h7))
    refine Bj<|Bj<|Bj<|Aw (.pick_t rfl rfl)<|Cf rfl<|Bj<|Bj<|Bj<|Bj<|Bj<|Aw (.pick_t rfl rfl)<|Cf rfl<|Bj<|Bj<|Bj<|Bj ?_;refine Bj<|Bj<|Bj<|Bj<|Bj<|Bj<|Bj<|Bj<|Bj<|Bj<|Bj<|Aw (.pick_t rfl rfl)<|Dq (fun w8 s9=>Ab ?_);have S:=S.trans s9;have b:=b.sub s9;have c:=c.sub s9;refine Bm rfl<|Ac<|Aa rfl<|Ah rfl<|Ae<|Ab<|Bb 6 rfl rfl rfl ?_
    exact⟨_,rfl,hres,S⟩
   ·
    have him:(i:Int)=many:=Decidable.not_not.1 h7
    refine Aw (.field0 Es rfl)<|Aw (.load1 sh3 rfl (c.cell rfl))<|Aw (.bin rfl rfl rfl)<|Aw (.pick_f rfl rfl)<|Cf rfl<|Fp 30 rfl (fun h10=>?_) (fun h10=>?_)
    ·
     have hres:=res_no (Rl hy hy4 hS hi9 (by rw[hkx];exact hx0) (.inr (.inl (by rw[hkx];exact h10))))
     refine Bj<|Bj<|Bj<|Bj<|Bj<|Aw (.pick_t rfl rfl)<|Cf rfl<|Bj<|Bj<|Bj<|Bj<|Bj<|Bj<|Bj<|Bj<|Bj ?_;refine Bj<|Bj<|Bj<|Bj<|Bj<|Bj<|Aw (.pick_t rfl rfl)<|Dq (fun w11 s12=>Ab ?_);have S:=S.trans s12;have b:=b.sub s12;have c:=c.sub s12;refine Bm rfl<|Ac<|Aa rfl<|Ah rfl<|Ae<|Ab<|Bb 6 rfl rfl rfl ?_
     exact⟨_,rfl,hres,S⟩
    ·
     have hx3:(getN s.1 x).kind=3:=Decidable.not_not.1 h10
     obtain⟨z,hz⟩:∃z,Ch s.1 x=some z:=(by cases hg:Ch s.1 x with|none=>rw[getN,hg] at hx3;exact absurd hx3 (show¬(0:Int)=3 by decide)|some z=>exact⟨z,rfl⟩)
     have hgz:=Jl hz
     rw[hgz] at hx3
     refine Cf rfl<|Cf rfl<|Cf rfl<|Ji rfl ADA (fun w' s'=>AEo bf s C x hxu z hz hx3 d w' (hG.sub (S.trans s'))) rfl rfl<|Aw (.bin rfl rfl rfl)<|Aw (.pick_f rfl rfl)<|Cf rfl<|Fp 37 rfl (fun h13=>?_) (fun h13=>?_)
     ·
      have hres:=res_no (Rl hy hy4 hS hi9 (by rw[hkx];exact hx0) (.inr (.inr (.inl ⟨AAz z d,by rw[hkx];exact Vs hz hx3,h13⟩))))
      refine Bj<|Bj<|Bj<|Bj<|Bj<|Bj<|Bj<|Bj<|Bj<|Bj<|Bj<|Bj<|Bj<|Bj<|Bj<|Aw (.pick_t rfl rfl) ?_;refine Dq (fun w14 s15=>Ab ?_);have S:=S.trans s15;have b:=b.sub s15;have c:=c.sub s15;refine Bm rfl<|Ac<|Aa rfl<|Ah rfl<|Ae<|Ab<|Bb 6 rfl rfl rfl ?_
      exact⟨_,rfl,hres,S⟩
     ·
      have hn1:AAz z d=1:=Decidable.not_not.1 h13
      have hP1:=Vs (d:=d) hz hx3
      rw[hn1] at hP1
      refine Cf rfl<|Aw (.bin rfl rfl rfl)<|Cf rfl<|Fp 40 rfl (fun h16=>?_) (fun h16=>?_)
      ·
       have h40:0<i:=(by have:=h16;omega)
       obtain⟨x1,hx1⟩:=Ce (l:=y.kids) (i:=i-1) (by show i-1<9;omega)
       have hkx1:=Mf hx1
       refine Cf rfl<|Cf rfl<|Aw (.as (.bin rfl rfl rfl) (Cs (y:=((i-1:Nat):Int)) (by omega) (by omega)))<|Aw (.field0 Da rfl)<|Aw (.indexArr Eb rfl rfl (by omega))<|Aw (.load1 Dm rfl (b.cell (AGn hx1)))<|Ji rfl AI4 (fun w' s'=>AGD bf s C x1 (hyo.kids x1 (Au hx1)) w' (hG.sub (S.trans s'))) rfl rfl<|Aw (.fieldV Tryz.underlying140 rfl sh2 rfl rfl)<|Aw (.field0 Fl rfl)<|Aw (.load1 sh2 rfl (c.cell rfl))<|Aw (.bin rfl rfl rfl)<|Aw (.pick_t rfl rfl)<|Aw (.pick_f rfl rfl)<|Dq (fun w17 s18=>Ab ?_);have S:=S.trans s18;have b:=b.sub s18;refine An rfl (fun h19=>?_) (fun h19=>?_)
       ·
        have hres:=res_no (Rl hy hy4 hS hi9 (by rw[hkx];exact hx0) (.inr (.inr (.inr ⟨h40,by rw[hkx,hkx1];exact h19⟩))))
        refine Ac<|Aa rfl<|Ah rfl<|Ae<|Ab<|Bb 6 rfl rfl rfl ?_
        exact⟨_,rfl,hres,S⟩
       ·
        have hlt:=h19
        refine Ao<|Ab<|Aa rfl<|Af rfl<|Ak (.as (.bin rfl rfl rfl) (Cs (y:=many+1) (by rfl) (by omega)))<|Ah rfl<|Ae<|Ab<|Aa rfl<|Ak (.as (.bin rfl rfl rfl) (Cs (y:=((i+1:Nat):Int)) (by omega) (by omega)))<|Af rfl ?_
        exact Ae (fun a ka=>⟨(i+1,many+1),⟨by omega,Wy hS him (by rw[hkx];exact hz) hx3 (by rw[hkx];exact hP1) (fun h=>by first|exact absurd h h40|(rw[hkx1];rw[hgz] at hlt;omega)),b,S⟩,by omega,ka.keep (Bf (by repeat (first|exact trivial|refine And.intro rfl ?_)))⟩)
      ·
       have h40:¬0<i:=(by have:=h16;omega)
       refine Bj<|Bj<|Bj<|Bj<|Bj<|Bj<|Bj<|Bj<|Bj<|Bj<|Bj<|Aw (.pick_f rfl rfl)<|Aw (.pick_f rfl rfl)<|Dq (fun w20 s21=>Ab ?_);have S:=S.trans s21;have b:=b.sub s21;refine Bw rfl<|Ao<|Ab<|Aa rfl<|Af rfl<|Ak (.as (.bin rfl rfl rfl) (Cs (y:=many+1) (by rfl) (by omega)))<|Ah rfl<|Ae<|Ab<|Aa rfl<|Ak (.as (.bin rfl rfl rfl) (Cs (y:=((i+1:Nat):Int)) (by omega) (by omega)))<|Af rfl ?_
       exact Ae (fun a ka=>⟨(i+1,many+1),⟨by omega,Wy hS him (by rw[hkx];exact hz) hx3 (by rw[hkx];exact hP1) (fun h=>by first|exact absurd h h40|(rw[hkx1];rw[hgz] at hlt;omega)),b,S⟩,by omega,ka.keep (Bf (by repeat (first|exact trivial|refine And.intro rfl ?_)))⟩)
 ·
  obtain rfl:i=9:=(by omega)
  have hend:=Ta (r:=r) (left:=left) hy hy4 hyb hS
  refine Co rfl<|Ab<|Ac<|Ac<|Aa rfl<|Af rfl<|Bc rfl rfl rfl<|Af rfl<|Bn 59 rfl (fun h22=>?_) (fun h22=>?_)
  ·
   have hres:=res_no fun left l=>(Ta (left:=left) hy hy4 hyb hS).2 (.inl (.inl h22)) l
   refine Bd 4 rfl<|Br rfl rfl<|Ae<|Ab<|Bm rfl<|Ac<|Aa rfl<|Ah rfl<|Ae<|Ab<|Bb 6 rfl rfl rfl ?_
   exact⟨_,rfl,hres,S⟩
  ·
   have h59:=h22
   refine Af rfl<|Av Hg rfl<|Ba sh2 rfl b rfl<|Bc rfl rfl rfl<|Bq rfl rfl<|Ae<|Ab<|An rfl (fun h23=>?_) (fun h23=>?_)
   ·
    have hres:=res_no fun left l=>(Ta (left:=left) hy hy4 hyb hS).2 (.inl (.inr h23)) l
    refine Ac<|Aa rfl<|Ah rfl<|Ae<|Ab<|Bb 6 rfl rfl rfl ?_
    exact⟨_,rfl,hres,S⟩
   ·
    have h64:=h23
    have hres:(many≤left→MayP s.1 0 r d left many)∧(left<many→MayP s.1 0 r d left (-1)):=⟨fun h=>hend.1 (fun e=>e.elim h59 h64) h,fun h=>.inr ⟨rfl,hend.2 (.inr h)⟩⟩
    refine Ao<|Ab<|Ac<|Aa rfl<|Af rfl<|Ah rfl<|Ae<|Ab<|Bb 6 rfl rfl rfl ?_
    exact⟨_,rfl,hres,S⟩
theorem AGC(bf:Nat)(s:St)(C:Nat→Prop):∀(k lv:Nat) (r:Int) (d:Nat) (left:Int) (w:World),k≤10→lv=10-k→U64 r→d<4^lv→0≤left→left≤1000000→Ft C (Ho bf s C) w →
  FC Tryz.prog 110 [.pointer (some ⟨bf,0,none⟩),.int .u64 r,.int .i64 (lv:Int),.int .i64 (d:Int),.int .i64 left] w (ACE (MayP s.1 k r d left) w)
 |0,lv,r,d,left,w,hk,hlv,hr,hd,h0,hl,hF =>
  ACR bf s C 0 lv hk hlv r hr d left h0 w hF (fun y _ _ _ h=>absurd rfl h) (fun y hy h4 hb _ _ w' s'=>AHK bf s C r y hy (hF.now.nok y (Ek hy)) h4 hb d left w' (hF.sub s'))
 |k+1,lv,r,d,left,w,hk,hlv,hr,hd,h0,hl,hF =>
  ACR bf s C (k+1) lv hk hlv r hr d left h0 w hF (fun y hy h2 hb _ _ w' s'=>AJ1 bf s C k lv (by omega) (by omega) r y hy (hF.now.nok y (Ek hy)) h2 hb d hd left h0 hl
   (fun r' d' left' w2 h1 h2 h3 h4 h5=>AGC bf s C k (lv+1) r' d' left' w2 (by omega) (by omega) h1 h2 h3 h4 h5) w' (hF.sub s')) (fun y _ _ _ h=>absurd h (by omega))
theorem AHC(A:Ar)(na fa:Option Addr)(nc fc:Nat)(hnc:A.nodes.length≤nc)(hfc:A.free.length≤fc)(r:Int)(hr:U64 r)(w:World)(hA:ArR w na fa A):
  FC Tryz.prog 51 [arV na fa nc fc A,.int .u64 r] w (Val (.bool (isTabB A r)) w):=by
 have hN:=hA.nodes
 have hFr:=hA.free
 have hG:Ft (· < w.heap.size) (fun u=>ArR u na fa A) w:=Hm fun u s=>hA.sub s
 refine As Tryz.func51 rfl Tryz.ntmps51 rfl ?_
 have S:=Ax w
 refine Ac<|Aa rfl<|Bu rfl rfl rfl (fun l i p o a j=>?_);have S:=S.trans j
 have a:Has i l ([.slice na A.nodes.length nc,.slice fa A.free.length fc]) _:=a
 refine Ah rfl<|Ae<|Ab<|Ac<|Aa rfl<|Ak (.loadR ([.slice na A.nodes.length nc,.slice fa A.free.length fc]) Cb rfl a.row rfl)<|Ak (.buildS AKy AK9 rfl rfl)<|Bu rfl rfl rfl (fun g d k m b f=>?_);have c:=S.le k;have S:=S.trans f;have a:=a.sub f
 have b:Has d g (wvC na fa nc fc A 0) 195:=b
 have hG1:=hG.sub S
 have hF:=FoG.ft (s:=(A,0)) b hnc hfc hG1 (fun e=>by have:=c;omega)
 refine Ah rfl<|Ae<|Ab<|Ac<|Aa rfl<|Ak (.loadR ([.slice na A.nodes.length nc,.slice fa A.free.length fc]) Cb rfl a.row rfl)<|Az rfl Uy (Kh A na fa nc fc d (hA.sub S)) ?_;rintro _ w1 ⟨rfl,s2⟩;have S:=S.trans s2;have hF:=hF.sub s2;refine Af rfl<|Fo 11 rfl (fun h3=>?_) (fun h3=>?_)
 ·
  have hok:AOk A:=(Hd A).1 h3
  refine Af rfl<|Af rfl<|Az rfl ADA (AGC g (A,0) _ 10 0 r 0 200 w1 (by decide) rfl hr (by decide) (by decide) (by decide) hF) ?_;rintro _ w4 ⟨n,rfl,hP,s5⟩;have S:=S.trans s5
  have hP:=AER hok hP
  refine Bc rfl rfl rfl<|Br rfl rfl<|Ah rfl<|Ae<|Ab<|Bb 4 rfl rfl rfl ?_
  exact⟨congrArg Value.bool ((Bool.eq_iff_iff.2 (by rw[Mp,decide_eq_true_iff];exact hP))),S⟩
 ·
  have hno:isTabB A r=false:=AES (fun h=>by have h2:=h3;rw[(Hd A).2 h.1] at h2;cases h2)
  refine Bd 4 rfl<|Bq rfl rfl<|Ah rfl<|Ae<|Ab<|Bb 4 rfl rfl rfl ?_
  rw[hno]
  exact⟨rfl,S⟩
end Go.Proofs.YtbjmllnddanniaaGreat
