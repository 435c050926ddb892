/-
  What the law TopQueue leans on, part 3.
-/
import Derived.Test.YtbjmllnddanniaaGreatPTopQueue2
set_option linter.unusedVariables false
set_option linter.unusedSimpArgs false
namespace Go.Proofs.YtbjmllnddanniaaGreat
open Go Go.XL
def Dt(A:Ar):Nat→List Int→Int→List Int
 |0,out,_=>out
 |k+1,out,r=>match Ch A r with
  |none=>out
  |some x=>if Bk r∈out then out else x.kids.foldl (Dt A k) (out++[Bk r])
theorem Lw{A:Ar}{k:Nat}{out:List Int}{r:Int}(h:Ch A r=none):Dt A (k+1) out r=out:=by rw[Dt,h]
theorem Ml{A:Ar}{k:Nat}{out:List Int}{r:Int}{x:Node}(h:Ch A r=some x)(hm:Bk r∈out):Dt A (k+1) out r=out:=by rw[Dt,h];exact if_pos hm
theorem Mk{A:Ar}{k:Nat}{out:List Int}{r:Int}{x:Node}(h:Ch A r=some x)(hm:Bk r∉out):Dt A (k+1) out r=x.kids.foldl (Dt A k) (out++[Bk r]):=by rw[Dt,h];exact if_neg hm

structure Pl (A:Ar) (out:List Int):Prop where
 nd:out.Nodup
 rng:∀p∈out,0≤p∧p<A.nodes.length
theorem Pl.nil(A:Ar):Pl A []:=⟨by simp,by simp⟩
theorem Pl.len{A:Ar}{out:List Int}(h:Pl A out):out.length≤A.nodes.length:=ACG _ _ h.nd h.rng
theorem Pl.add{A:Ar}{out:List Int}{p:Int}(h:Pl A out)(hp:0≤p∧p<A.nodes.length)(hn:p∉out):Pl A (out++[p]) :=
  ⟨by rw[List.nodup_append];exact⟨h.nd,by simp,fun a ha b hb e=>by rw[List.mem_singleton] at hb;subst hb;subst e;exact hn ha⟩,
   fun q hq=>(List.mem_append.1 hq).elim (h.rng q) (fun h=>by rw[List.mem_singleton] at h;exact h▸hp)⟩
theorem On(A:Ar):∀(k:Nat) (out:List Int) (r:Int),Pl A out→Pl A (Dt A k out r)∧∃l,Dt A k out r=out++l
 |0,out,r,h=>⟨h,[],by simp[Dt]⟩
 |k+1,out,r,h=>by
  cases hg:Ch A r with
  |none=>rw[Lw hg];exact⟨h,[],by simp⟩
  |some x =>
   by_cases hm:Bk r∈out
   ·rw[Ml hg hm];exact⟨h,[],by simp⟩
   ·rw[Mk hg hm]
    have key:∀(ks:List Int) (o:List Int),Pl A o→Pl A (ks.foldl (Dt A k) o)∧∃l,ks.foldl (Dt A k) o=o++l:=by
     intro ks
     induction ks with
     |nil=>intro o ho;exact⟨ho,[],by simp⟩
     |cons q ks ih =>
      intro o ho
      obtain⟨h1,l1,h2⟩:=On A k o q ho
      obtain⟨h3,l2,h4⟩:=ih _ h1
      exact⟨h3,l1++l2,by rw[List.foldl_cons,h4,h2,List.append_assoc]⟩
    obtain⟨h1,l,h2⟩:=key x.kids _ (h.add (Gb hg) hm)
    exact⟨h1,Bk r::l,by rw[h2];simp⟩
open Go Go.XL
def Gt(n:Nat)(out:List Int):List Bool:=(List.range n).map fun(p:Nat)=>decide ((p:Int)∈out)
theorem Kl(n:Nat)(out:List Int):(Gt n out).length=n:=by simp[Gt]
theorem Mr(n:Nat)(out:List Int)(x:Int)(h:0≤x∧x<n):(Gt n out)[x.toNat]?=some (decide (x∈out)):=by
 simp only[Gt,List.getElem?_map,List.getElem?_range (show x.toNat<n by omega),Option.map_some]
 rw[Int.toNat_of_nonneg h.1]
theorem Wq(n:Nat)(out:List Int)(x:Int)(h:0≤x∧x<n):(Gt n out).set x.toNat true=Gt n (out++[x]):=by
 apply List.ext_getElem?
 intro k
 rw[List.getElem?_set,Kl]
 by_cases hk:k<n
 ·have h2:=Mr n (out++[x]) k (by omega)
  have h3:=Mr n out k (by omega)
  rw[Int.toNat_natCast] at h2 h3
  rw[h2,h3]
  by_cases e:x.toNat=k
  ·rw[if_pos e,if_pos (by omega)]
   have:(k:Int)=x:=by omega
   simp[this]
  ·rw[if_neg e]
   have:¬(k:Int)=x:=by omega
   simp[this]
 ·rw[List.getElem?_eq_none (l:=Gt n (out++[x])) (by rw[Kl];omega),List.getElem?_eq_none (l:=Gt n out) (by rw[Kl];omega)]
  by_cases e:x.toNat=k
  ·rw[if_pos e,if_neg (by omega)]
  ·rw[if_neg e]

structure Bx where
 E:Nat
 b2:Nat
 b7:Nat
 b6:Nat
 b8:Nat
 bF:Nat
structure BxOk (w0:World) (B:Bx):Prop where
 lt2:B.b2<B.E
 lt7:B.b7<B.E
 lt6:B.b6<B.E
 lt8:B.b8<B.E
 ltF:B.bF<B.E
 ge2:w0.heap.size≤B.b2
 ge7:w0.heap.size≤B.b7
 ge6:w0.heap.size≤B.b6
 ge8:w0.heap.size≤B.b8
 geF:w0.heap.size≤B.bF
 n27:B.b2≠B.b7
 n26:B.b2≠B.b6
 n28:B.b2≠B.b8
 n2F:B.b2≠B.bF
 n76:B.b7≠B.b6
 n78:B.b7≠B.b8
 n7F:B.b7≠B.bF
 n68:B.b6≠B.b8
 n6F:B.b6≠B.bF
 n8F:B.b8≠B.bF
def AIl(B:Bx):Value:=.func (.func 168) #[] #[.pointer (some ⟨B.b2,0,none⟩),.pointer (some ⟨B.b7,0,none⟩),.pointer (some ⟨B.b6,0,none⟩),.pointer (some ⟨B.b8,0,none⟩)]
structure RS (w0:World) (B:Bx) (na fa:Option Addr) (nc fc:Nat) (A:Ar) (out:List Int) (a:Option Addr) (c:Nat) (w:World):Prop where
 h2:Has w B.b2 [.slice na A.nodes.length nc,.slice fa A.free.length fc] 26
 h7:Has w B.b7 [.slice (some ⟨B.bF,0,none⟩) A.nodes.length A.nodes.length] 253
 h6:Has w B.b6 [.slice a (out.map fun x=>[i6 x]).length c] 24
 h8:Has w B.b8 [AIl B] 183
 hF:Has w B.bF ((Gt A.nodes.length out).map Value.bool) 4
 o:Ows B.E w 3 1 (.slice a (out.map fun x=>[i6 x]).length c) (out.map fun x=>[i6 x])
 sz:B.E≤w.heap.size
 S:Sub w0 w

theorem AEb(A:Ar)(r:Int):∃(y:Node) (e:Int),Zz A r=.tuple #[y.val,.int .i64 e]∧(e=0→Ch A r=some y)∧(¬e=0→Ch A r=none):=by
 cases h:Ch A r with
 |none=>exact⟨Eg 0,4,Kt h,by omega,fun _=>rfl⟩
 |some x=>exact⟨x,0,Io h,fun _=>rfl,by omega⟩
def Pf(A:Ar)(k:Nat)(ks o:List Int)(j:Nat):List Int:=(ks.take j).foldl (Dt A k) o
theorem ACI(A:Ar)(k:Nat)(ks o:List Int):Pf A k ks o 0=o:=by simp[Pf]
theorem ABF(A:Ar)(k:Nat)(ks o:List Int){n:Nat}(h:ks.length=n):Pf A k ks o n=ks.foldl (Dt A k) o:=by rw[Pf,←h,List.take_length]
theorem Sp{A:Ar}{k:Nat}{ks o:List Int}{j:Nat}{x:Int}(h:ks[j]?=some x):Pf A k ks o (j+1)=Dt A k (Pf A k ks o j) x:=by
 rw[Pf,List.take_add_one,h,List.foldl_append];rfl
theorem ADT{A:Ar}{k:Nat}{ks o:List Int}{j:Nat}{x:Int}{n:Nat}(h:ks[j]?=some x)(hp:Pl A (Pf A k ks o j))(hn:n≤(Pf A k ks o j).length):Pl A (Pf A k ks o (j+1))∧n≤(Pf A k ks o (j+1)).length:=by
 have hv:=On A k _ x hp
 rw[Sp h]
 obtain⟨h1,l,h2⟩:=hv
 exact⟨h1,by rw[h2,Ag];omega⟩
theorem AG7(w0:World)(B:Bx)(hB:BxOk w0 B)(na fa:Option Addr)(nc fc:Nat)(A:Ar)(hA:ArR w0 na fa A)(hn:A.nodes.length≤512):∀(k:Nat) (out:List Int) (a:Option Addr) (c:Nat) (r:Int) (w:World),U64 r→A.nodes.length<out.length+k→Pl A out→RS w0 B na fa nc fc A out a c w →
  FC Tryz.prog 168 [.int .u64 r,.pointer (some ⟨B.b2,0,none⟩),.pointer (some ⟨B.b7,0,none⟩),.pointer (some ⟨B.b6,0,none⟩),.pointer (some ⟨B.b8,0,none⟩)] w (fun _ w'=>∃a' c',RS w0 B na fa nc fc A (Dt A k out r) a' c' w'):=by
 intro k
 induction k with
 |zero=>intro out a c r w _ hk hp;exact absurd hp.len (by omega)
 |succ k ih =>
 intro out a c r w hr hk hp hs
 obtain⟨E,b2,b7,b6,b8,bF⟩:=B
 obtain⟨l2,l7,l6,l8,lF,g2,g7,g6,g8,gF,n27,n26,n28,n2F,n76,n78,n7F,n68,n6F,n8F⟩:=hB
 obtain⟨q2,q7,q6,q8,qF,o,szB,S⟩:=hs
 simp only[] at l2 l7 l6 l8 lF g2 g7 g6 g8 gF n27 n26 n28 n2F n76 n78 n7F n68 n6F n8F q2 q7 q6 q8 qF o szB
 obtain⟨y,e,hgv,hg0,hg1⟩:=AEb A r
 have hpp:=hp.len
 have ge2:=g2;have ge7:=g7;have ge6:=g6;have ge8:=g8;have geF:=gF
 refine As Tryz.func168 rfl Tryz.ntmps168 rfl ?_
 have d2:∀k,ob (.slice a (out.map fun x=>[i6 x]).length c)=some k→E≤k:=fun k hk=>(o.ge k hk).1
 have nb2_b7:b2≠b7:=by exact n27
 have nb2_b6:b2≠b6:=by exact n26
 have nb2_b8:b2≠b8:=by exact n28
 have nb2_bF:b2≠bF:=by exact n2F
 have nb7_b6:b7≠b6:=by exact n76
 have nb7_b8:b7≠b8:=by exact n78
 have nb7_bF:b7≠bF:=by exact n7F
 have nb6_b8:b6≠b8:=by exact n68
 have nb6_bF:b6≠bF:=by exact n6F
 have nb8_bF:b8≠bF:=by exact n8F
 refine Ac<|Aa rfl<|Ak (.loadR (_) Cb rfl q2.row rfl)<|Af rfl<|Az rfl Ll (Jc A na fa nc fc r hr w (hA.sub S)) ?_;rintro _ w1 ⟨rfl,s2⟩;have S:=S.trans s2;have q2:=q2.sub s2;have q7:=q7.sub s2;have q6:=q6.sub s2;have q8:=q8.sub s2;have qF:=qF.sub s2;have o:=o.sub s2;have szB:=Ad szB s2.size;refine Ak (.as (v':=.tuple #[y.val,.int .i64 e]) (.move rfl) (by rw[hgv]))<|Bz rfl rfl<|Bz rfl rfl<|Ay Dx rfl rfl (fun L O t N b p=>?_);have z:=S.le t
 have n2__6:=q2.ne t
 have n7__6:=q7.ne t
 have n6__6:=q6.ne t
 have n8__6:=q8.ne t
 have nF__6:=qF.ne t
 have g:=o.neNew t;have S:=S.trans p;have q2:=q2.sub p;have q7:=q7.sub p;have q6:=q6.sub p;have q8:=q8.sub p;have qF:=qF.sub p;have o:=o.sub p;have szB:=Ad szB p.size;refine At Ct rfl rfl rfl b (fun w3 z3 b a3=>?_);have S:=S.upd a3 z;have q2:=q2.upd a3 n2__6;have q7:=q7.upd a3 n7__6;have q6:=q6.upd a3 n6__6;have q8:=q8.upd a3 n8__6;have qF:=qF.upd a3 nF__6;have o:=o.updD a3 g;have szB:=Ad szB a3.size
 have b:Has w3 L (y.cells) _:=b.now (by kernel_rfl)
 refine Ah rfl<|Ae<|Ab<|Ac<|Aa rfl<|Af rfl<|Az rfl Yd (Je r hr w3) ?_;rintro _ w4 ⟨rfl,s5⟩;have S:=S.trans s5;have q2:=q2.sub s5;have q7:=q7.sub s5;have q6:=q6.sub s5;have q8:=q8.sub s5;have qF:=qF.sub s5;have o:=o.sub s5;have szB:=Ad szB s5.size;have b:=b.sub s5;refine Ah rfl<|Ae<|Ab<|Ac<|Ac<|Aa rfl<|Af rfl<|Bc rfl rfl rfl<|Af rfl<|Bn 21 rfl (fun h6=>?_) (fun h6=>?_)
 ·
  have he:=h6
  refine Bd 4 rfl<|Br rfl rfl<|Ae<|Ab<|Bm rfl<|Bo (rs:=[]) (vs:=[]) rfl rfl trivial ?_
  rw[Lw (hg1 (by omega))]
  exact⟨_,_,q2,q7,q6,q8,qF,o,szB,S⟩
 ·
  have hx:=hg0 (by omega)
  have hrng:=Gb hx
  refine Ba AFL rfl q7 rfl<|Af rfl<|Ak (.indexO Jr rfl rfl (by omega))<|Ak (.load1 sh4 rfl (qF.cell (v:=.bool (decide (Bk r∈out))) (by rw[Nat.mul_one,Nat.zero_add,List.getElem?_map,Mr _ _ _ (by omega)];rfl))) ?_;refine Bq rfl rfl<|Ae<|Ab<|An rfl (fun h7=>?_) (fun h7=>?_)
  ·
   have hin:=h7
   refine Bo (rs:=[]) (vs:=[]) rfl rfl trivial ?_
   rw[Ml hx hin]
   exact⟨_,_,q2,q7,q6,q8,qF,o,szB,S⟩
  ·
   have hno:=h7
   have hp2:=hp.add hrng hno
   have hpp2:=hp2.len
   rw[Ag] at hpp2
   refine Ao<|Ab<|Ac<|Aa rfl<|Ba AFL rfl q7 rfl<|Af rfl<|Ak (.indexO Jr rfl rfl (by omega))<|Cg sh4 rfl rfl rfl qF (by show 0+(Bk r).toNat*1+1≤_;rw[Aj,Kl];omega) (by rfl) rfl (fun w8 z8 qF a8=>?_);have S:=S.upd a8 geF;have q2:=q2.upd a8 nb2_bF;have q7:=q7.upd a8 nb7_bF;have q6:=q6.upd a8 nb6_bF;have q8:=q8.upd a8 nb8_bF;have o:=o.updD a8 (fun k hk e=>absurd (o.ge k hk).1 (by omega));have szB:=Ad szB a8.size;have b:=b.upd a8 nF__6.symm
   have qF:=(Ro (enc:=Value.bool) (i:=(Bk r).toNat) (x:=true) (by rw[Nat.zero_add,Nat.mul_one] at qF;exact qF))
   rw[Wq _ _ _ hrng] at qF
   refine Ae<|Ab<|Ac<|Aa rfl<|Ba El rfl q6 rfl<|Af rfl<|Bi Dd _ ze3 rfl rfl rfl rfl rfl rfl rfl (fun M I h G q f=>?_)
   have n2__32:=q2.ne h
   have n7__32:=q7.ne h
   have n6__32:=q6.ne h
   have n8__32:=q8.ne h
   have nF__32:=qF.ne h
   have S:=S.trans f;have q2:=q2.sub f;have q7:=q7.sub f;have q6:=q6.sub f;have q8:=q8.sub f;have qF:=qF.sub f;have o:=o.sub f;have szB:=Ad szB f.size;have b:=b.sub f;have F:=S.size
   have ltb2_33:=q2.lt
   have ltb7_33:=q7.lt
   have ltb6_33:=q6.lt
   have ltb8_33:=q8.lt
   have ltbF_33:=qF.lt
   have ltb_6_33:=b.lt
   have ltb_32_33:=q.lt
   refine De (base:=E) (rows:=out.map fun x=>[i6 x]) (news:=[_]) Dd ze3 rfl rfl rfl rfl (.inl o) (Dr q) rfl (by intro r hr;rw[List.mem_singleton] at hr;subst hr;rfl) rfl (by(try simp only[Aj,Am,Ag,Al]);omega) (by(try simp only[Aj,Am,Ag,Al]);omega) (by omega) rfl rfl (fun J H hc_33 u d ob_33=>?_)
   have o33:=u (.inl (by simp))
   rw[show _++[_]=((out++[Bk r]).map fun x=>[i6 x]) from by rw[List.map_append];rfl] at o33
   have m:=Ng ob_33 (fun k hk e=>absurd (o.ge k hk).1 (by omega)) q6.lt
   have S:=S.agrN d (fun k e=>Ad (by omega) e.2)
   have q2:=q2.step d (fun e=>absurd e.2 (by omega));have q7:=q7.step d (fun e=>absurd e.2 (by omega));have q6:=q6.step d (fun e=>absurd e.2 (by omega));have q8:=q8.step d (fun e=>absurd e.2 (by omega));have qF:=qF.step d (fun e=>absurd e.2 (by omega));have szB:=Ad szB d.size;have b:=b.step d (fun e=>g _ e.1 rfl)
   obtain⟨D,C,rfl,K⟩:=o33.form
   refine At El rfl rfl rfl q6 (fun w9 z9 q6 a9=>?_);have S:=S.upd a9 ge6;have q2:=q2.upd a9 nb2_b6;have q7:=q7.upd a9 nb7_b6;have q8:=q8.upd a9 nb6_b8.symm;have qF:=qF.upd a9 nb6_bF.symm;have szB:=Ad szB a9.size;have b:=b.upd a9 n6__6.symm;have o33:=o33.updD a9 m;refine Ae<|Ab<|Ac<|Aa rfl<|Av Da rfl<|Ak (.loadR (y.kids.map u6) AC3 rfl (Ee (pre:=[i6 y.kind,i6 y.gen,i6 y.n,i6 y.v,i6 y.s]) (mid:=y.kids.map u6) (post:=[i6 y.pre,i6 y.suf]) b rfl) rfl)<|Af rfl<|Ae<|Ab<|Bh<|Cw (α:=Nat × Option Addr × Nat) (fun x=>[(4,.pointer (some ⟨b8,0,none⟩)),(35,.agg (y.kids.map u6).toArray),(36,.int .i64 (x.1:Int))]) (fun x w10=>x.1≤9∧Pl A (Pf A k y.kids (out++[Bk r]) x.1)∧out.length+1≤(Pf A k y.kids (out++[Bk r]) x.1).length∧RS w0 ⟨E,b2,b7,b6,b8,bF⟩ na fa nc fc A (Pf A k y.kids (out++[Bk r]) x.1) x.2.1 x.2.2 w10) (fun x=>9-x.1) (0,D,C) (Bf (by repeat (first|exact trivial|refine And.intro rfl ?_))) (⟨by omega,by rw[ACI];exact hp2,by rw[ACI];simp,by rw[ACI];exact⟨q2,q7,q6,q8,qF,o33,szB,S⟩⟩) (fun x w10 hJ=>?_)
   obtain⟨j,aj,cj⟩:=x;obtain⟨hj,hpj,hlj,hs⟩:=hJ;obtain⟨q2,q7,q6,q8,qF,o,szB,S⟩:=hs;simp only[] at hj hpj hlj q2 q7 q6 q8 qF o szB
   refine Ac<|Aa rfl<|Bc rfl rfl rfl<|Ae<|Ab<|Ac<|An rfl (fun h11=>?_) (fun h11=>?_)
   ·
    obtain⟨kj,hkj⟩:=Ce (l:=y.kids) (i:=j) (by show j<9;omega)
    refine Ao<|Ab<|Ac<|Bh<|Ac<|Aa rfl<|Ak (.index1 Eb Dm rfl rfl (by omega) ((by simp[hkj]:(y.kids.map u6).toArray[(j:Int).toNat*1]?=some (u6 kj))))<|Ah rfl<|Ae<|Ab<|Aa rfl<|Ba Uw rfl q8 rfl<|Af rfl<|Dl rfl rfl (us:=[]) (cs:=[.pointer (some ⟨b2,0,none⟩),.pointer (some ⟨b7,0,none⟩),.pointer (some ⟨b6,0,none⟩),.pointer (some ⟨b8,0,none⟩)]) AI8 (ih _ aj cj kj w10 ((hA.nok y (Ek hx)).kids kj (Au hkj)) (by omega) hpj ⟨q2,q7,q6,q8,qF,o,szB,S⟩) rfl rfl ?_;rintro _ w12 ⟨a2,c2,hs2⟩
    have hv:=ADT hkj hpj hlj
    rw[←Sp hkj] at hs2
    refine Ae<|Ab<|Aa rfl<|Ak (.as (.bin rfl rfl rfl) (Cs (y:=((j+1:Nat):Int)) (by omega) (by omega)))<|Af rfl ?_
    exact Ae (fun a ka=>⟨(j+1,a2,c2),⟨by omega,hv.1,hv.2,hs2⟩,by omega,ka.keep (Bf (by repeat (first|exact trivial|refine And.intro rfl ?_)))⟩)
   ·
    obtain rfl:j=9:=(by omega)
    refine Co rfl ?_
    refine fun a ka=>⟨ka.defers,_,Dg (rs:=[]) (vs:=[]) ka rfl trivial,?_⟩
    rw[Mk hx hno,←ABF A k y.kids _ (n:=9) rfl]
    exact⟨_,_,q2,q7,q6,q8,qF,o,szB,S⟩

def Dc(A:Ar)(l:List Int):List Int:=l.foldl (Dt A 513) []
theorem Ql(n:Nat):Gt n []=List.replicate n false:=by
 apply List.ext_getElem<;>simp[Gt]
theorem Zo(A:Ar)(na fa:Option Addr)(nc fc:Nat)(l:List Int)(m:Nat)(hm:m=l.length)(pa:Option Addr)(pc:Nat)(hl:l.length≤10000)(hli:∀x∈l,U64 x)(w:World)(hA:ArR w na fa A)(hP:Sl w pa 1 (l.map fun x=>[u6 x])):
  FC Tryz.prog 100 [arV na fa nc fc A,.slice pa m pc] w (fun v w'=>Sub w w'∧(¬AOk A∧v=.tuple #[.slice none 0 0,.int .i64 1] ∨
   AOk A∧∃a c,v=.tuple #[.slice a ((Dc A l).map fun x=>[i6 x]).length c,.int .i64 0]∧(Dc A l).length≤c∧Pl A (Dc A l)∧Ows w.heap.size w' 3 1 (.slice a ((Dc A l).map fun x=>[i6 x]).length c) ((Dc A l).map fun x=>[i6 x]))):=by
 subst hm
 have hN:=hA.nodes
 have hFr:=hA.free
 refine As Tryz.func100 rfl Tryz.ntmps100 rfl ?_
 have S:=Ax w
 refine Ac<|Aa rfl<|Bu rfl rfl rfl (fun J X ac ah b ab=>?_);have W:=S.le ac;have S:=S.trans ab
 have b:Has X J ([.slice na A.nodes.length nc,.slice fa A.free.length fc]) _:=b
 refine Ah rfl<|Ah rfl<|Ae<|Ab<|Ac<|Ac<|Aa rfl<|Ak (.loadR ([.slice na A.nodes.length nc,.slice fa A.free.length fc]) Cb rfl b.row rfl)<|Az rfl Uy (Kh A na fa nc fc X (hA.sub S)) ?_;rintro _ w1 ⟨rfl,s2⟩;have S:=S.trans s2;have b:=b.sub s2;refine Ak (.not rfl)<|Ae<|Ab<|Db rfl (fun h3=>?_) (fun h3=>?_)
 ·
  have hno:¬AOk A:=(fun h=>by have h2:=h3;rw[Lt h] at h2;cases h2)
  refine Ac<|Aa rfl<|Ah rfl<|Ah rfl<|Ae<|Ab<|Bo (rs:=[.tmp 4,.tmp 5]) (vs:=[_,_]) rfl rfl ⟨rfl,rfl,trivial⟩ ?_
  exact⟨S,.inl ⟨hno,rfl⟩⟩
 ·
  have hok:AOk A:=(Hd A).1 (by simpa using h3)
  have hmost:=hok.most
  refine Ao<|Ab<|Ac<|Aa rfl<|Ay AJT rfl rfl (fun I ak Z ag d Y=>?_);have V:=S.le Z;have F:=b.ne Z;have S:=S.trans Y;have b:=b.sub Y;refine Ae<|Ab<|Ac<|Aa rfl<|Av Et rfl<|Ba Jj rfl b rfl<|Cm Ig rfl<|Dh Jr ze4 rfl rfl rfl rfl (by omega) rfl rfl (fun z U G aa L D=>?_);have O:=S.le G;have C:=b.ne G;have B:=d.ne G;have S:=S.trans D;have b:=b.sub D;have d:=d.sub D
  have hF:Has U z ((Gt A.nodes.length []).map Value.bool) 4:=by have:=L;rw[Ql,List.map_replicate];rw[Int.toNat_natCast] at this;rw[←AFA];exact this
  refine Ay AKu rfl rfl (fun Q aj T ae g R=>?_);have N:=S.le T;have u:=b.ne T;have s:=d.ne T;have p:=hF.ne T;have S:=S.trans R;have b:=b.sub R;have d:=d.sub R;have hF:=hF.sub R;refine At AFL rfl rfl rfl g (fun w4 z4 g a4=>?_);have S:=S.upd a4 N;have b:=b.upd a4 u;have d:=d.upd a4 s;have hF:=hF.upd a4 p;refine Ae<|Ab<|Ac<|Aa rfl<|Ay AIc rfl rfl (fun H ai P ad f K=>?_);have M:=S.le P;have t:=b.ne P;have r:=d.ne P;have j:=hF.ne P;have q:=g.ne P;have S:=S.trans K;have b:=b.sub K;have d:=d.sub K;have hF:=hF.sub K;have g:=g.sub K;refine Ae<|Ab<|Ac<|Aa rfl<|Ak (.func (xs:=[]) (ys:=[_,_,_,_]) rfl rfl)<|At Uw rfl rfl rfl f (fun w5 z5 f a5=>?_);have S:=S.upd a5 M;have b:=b.upd a5 t;have d:=d.upd a5 r;have hF:=hF.upd a5 j;have g:=g.upd a5 q
  have f:Has w5 H ([AIl ⟨0,J,Q,I,H,z⟩]) _:=f
  obtain⟨E,hE⟩:∃E,E=w5.heap.size:=⟨_,rfl⟩
  have l2:=b.lt
  have l6:=d.lt
  have l7:=g.lt
  have l8:=f.lt
  have lF:=hF.lt
  rw[←hE] at l2 l6 l7 l8 lF
  have szS:=S.size
  have hB:BxOk w ⟨E,J,Q,I,H,z⟩:=⟨l2,l7,l6,l8,lF,W,N,V,M,O,u,F,t,C,s.symm,q,p.symm,r,B,j.symm⟩
  refine Ae<|Ab<|Ac<|Ac<|Aa rfl<|Af rfl<|Cm Kw rfl<|Af rfl<|Ae<|Ab<|Bh<|Cw (α:=Nat × Option Addr × Nat) (fun x=>[(6,.pointer (some ⟨I,0,none⟩)),(8,.pointer (some ⟨H,0,none⟩)),(19,.slice pa l.length pc),(20,.int .i64 (l.length:Int)),(21,.int .i64 (x.1:Int))]) (fun x w6=>x.1≤l.length∧Pl A (Pf A 513 l [] x.1)∧RS w ⟨E,J,Q,I,H,z⟩ na fa nc fc A (Pf A 513 l [] x.1) x.2.1 x.2.2 w6) (fun x=>l.length-x.1) (0,none,0) (Bf (by repeat (first|exact trivial|refine And.intro rfl ?_))) (⟨Nat.zero_le _,Pl.nil A,b,g,d,f,hF,Ows.nil _ _ _ _,by show E≤_;omega,S⟩) (fun x w6 hJ=>?_)
  obtain⟨i,a,c⟩:=x;obtain⟨hi,hp,hs⟩:=hJ;simp only[] at hi hp hs;have d:=hs.h6;have f:=hs.h8;have hS:=hs.S;simp only[] at d f
  refine Ac<|Aa rfl<|Bc rfl rfl rfl<|Ae<|Ab<|Ac<|An rfl (fun h7=>?_) (fun h7=>?_)
  ·
   obtain⟨y,hy⟩:=Ce (l:=l) (i:=i) (by omega)
   refine Ao<|Ab<|Ac<|Bh<|Ac<|Aa rfl<|Ak (.indexS Kw rfl rfl (by omega) (hP.is (i:=0) (by simp only[Aj,Al,Am];omega)))<|Ak (.load1 Dm rfl ((hP.sub hS).one (enc:=u6) (i:=i) hy))<|Ah rfl<|Ae<|Ab<|Aa rfl<|Ba Uw rfl f rfl<|Af rfl<|Dl rfl rfl (us:=[]) (cs:=[.pointer (some ⟨J,0,none⟩),.pointer (some ⟨Q,0,none⟩),.pointer (some ⟨I,0,none⟩),.pointer (some ⟨H,0,none⟩)]) AI8 (AG7 w ⟨E,J,Q,I,H,z⟩ hB na fa nc fc A hA hmost 513 _ a c y w6 (hli y (Au hy)) (by omega) hp hs) rfl rfl ?_;rintro _ w8 ⟨a2,c2,hs2⟩
   rw[←Sp hy] at hs2
   have hv:=(ADT (n:=0) hy hp (by omega)).1
   refine Ae<|Ab<|Aa rfl<|Ak (.as (.bin rfl rfl rfl) (Cs (y:=((i+1:Nat):Int)) (by omega) (by omega)))<|Af rfl ?_
   exact Ae (fun a ka=>⟨(i+1,a2,c2),⟨by omega,hv,hs2⟩,by omega,ka.keep (Bf (by repeat (first|exact trivial|refine And.intro rfl ?_)))⟩)
  ·
   obtain rfl:i=l.length:=(by omega)
   have e0:=ABF A 513 l [] rfl
   rw[e0] at hp hs d
   have kc:=hs.o.form
   refine Co rfl<|Ab<|Ac<|Aa rfl<|Ba El rfl d rfl<|Ah rfl<|Ah rfl<|Ae<|Ab<|Bo (rs:=[.tmp 4,.tmp 5]) (vs:=[_,_]) rfl rfl ⟨rfl,rfl,trivial⟩ ?_
   obtain⟨_,c',e,k⟩:=kc
   cases e
   exact⟨hS,.inr ⟨hok,_,_,rfl,by rw[Aj] at k;exact k,hp,hs.o.low (show _≤E by omega)⟩⟩
theorem ABf(A:Ar)(na fa:Option Addr)(nc fc:Nat)(l:List Int)(m:Nat)(hm:m=l.length)(pa:Option Addr)(pc:Nat)(hl:l.length≤10000)(hli:∀x∈l,U64 x)(w:World)(hA:ArR w na fa A)(hP:Sl w pa 1 (l.map fun x=>[u6 x])):
  FC Tryz.prog 100 [arV na fa nc fc A,.slice pa m pc] w (fun v w'=>Sub w w'∧(¬AOk A∧v=.tuple #[.slice none 0 0,.int .i64 1] ∨
   AOk A∧∃a c,v=.tuple #[.slice a ((Dc A l).map fun x=>[i6 x]).length c,.int .i64 0]∧(Dc A l).length≤c∧Pl A (Dc A l)∧∀N:Nat→Prop,(∀k,N k→k<w.heap.size)→Imm N (fun u=>Sl u a 1 ((Dc A l).map fun x=>[i6 x])) w')) :=
 FC.mono (Zo A na fa nc fc l m hm pa pc hl hli w hA hP) fun v w' ⟨s,h⟩=>⟨s,h.imp id fun⟨h1,a,c,h2,h3,h4,h5⟩=>⟨h1,a,c,h2,h3,h4,fun N hN=>h5.imm fun k hk=>hN k hk⟩⟩
def Py(A:Ar)(p:Int):List Int:=(A.nodes.getD p.toNat (Eg 0)).kids
theorem Pa{A:Ar}{r:Int}{x:Node}(h:Ch A r=some x):Py A (Bk r)=x.kids:=by
 rw[Py,List.getD_eq_getElem?_getD,(Ls h).1];rfl
theorem Lv{A:Ar}{k:Nat}:∀(ks o:List Int),Pl A o→Pl A (ks.foldl (Dt A k) o)∧∃l,ks.foldl (Dt A k) o=o++l:=by
 intro ks
 induction ks with
 |nil=>intro o ho;exact⟨ho,[],by simp⟩
 |cons q ks ih =>
  intro o ho
  obtain⟨h1,l1,h2⟩:=On A k o q ho
  obtain⟨h3,l2,h4⟩:=ih _ h1
  exact⟨h3,l1++l2,by rw[List.foldl_cons,h4,h2,List.append_assoc]⟩
def Clo(A:Ar)(out res:List Int):Prop:=∀p∈res,p∉out→∀q∈Py A p,∀x,Ch A q=some x→Bk q∈res
theorem Wa{A:Ar}{k:Nat}(ih:∀(out:List Int) (r:Int),A.nodes.length<out.length+k→Pl A out→Clo A out (Dt A k out r)∧∀x,Ch A r=some x→Bk r∈Dt A k out r):
  ∀(ks o:List Int),A.nodes.length<o.length+k→Pl A o→Clo A o (ks.foldl (Dt A k) o)∧∀q∈ks,∀x,Ch A q=some x→Bk q∈ks.foldl (Dt A k) o:=by
 intro ks
 induction ks with
 |nil=>intro o _ _;exact⟨fun p hp hn=>absurd hp hn,fun q hq=>by simp at hq⟩
 |cons q ks ih2 =>
  intro o hk ho
  obtain⟨c1,m1⟩:=ih o q hk ho
  obtain⟨h1,l1,h2⟩:=On A k o q ho
  obtain⟨c2,m2⟩:=ih2 (Dt A k o q) (by rw[h2,Ag];omega) h1
  obtain⟨h3,l3,h4⟩:=Lv (k:=k) ks _ h1
  rw[List.foldl_cons]
  have up:∀p,p∈Dt A k o q→p∈ks.foldl (Dt A k) (Dt A k o q):=fun p hp=>by rw[h4];exact List.mem_append_left _ hp
  refine⟨fun p hp hn q' hq' x hx=>?_,fun q' hq' x hx=>?_⟩
  ·by_cases hp1:p∈Dt A k o q
   ·exact up _ (c1 p hp1 hn q' hq' x hx)
   ·exact c2 p hp hp1 q' hq' x hx
  ·rcases List.mem_cons.1 hq' with e|h
   ·subst e;exact up _ (m1 x hx)
   ·exact m2 q' h x hx
theorem Wc(A:Ar):∀(k:Nat) (out:List Int) (r:Int),A.nodes.length<out.length+k→Pl A out→Clo A out (Dt A k out r)∧∀x,Ch A r=some x→Bk r∈Dt A k out r
 |0,out,r,hk,hp=>absurd hp.len (by omega)
 |k+1,out,r,hk,hp=>by
  cases hg:Ch A r with
  |none=>rw[Lw hg];exact⟨fun p hp hn=>absurd hp hn,fun x h=>by cases h⟩
  |some x =>
   by_cases hm:Bk r∈out
   ·rw[Ml hg hm];exact⟨fun p hp hn=>absurd hp hn,fun _ _=>hm⟩
   ·rw[Mk hg hm]
    have hp2:=hp.add (Gb hg) hm
    obtain⟨c1,m1⟩:=Wa (Wc A k) x.kids _ (by rw[Ag];show _<_+1+k;omega) hp2
    obtain⟨h3,l3,h4⟩:=Lv (k:=k) x.kids _ hp2
    refine⟨fun p hp hn q hq y hy=>?_,fun _ _=>by rw[h4];simp⟩
    by_cases e:p=Bk r
    ·subst e
     rw[Pa hg] at hq
     exact m1 q hq y hy
    ·exact c1 p hp (fun h=>(List.mem_append.1 h).elim hn (fun h=>e (List.mem_singleton.1 h))) q hq y hy

inductive Rea (A:Ar) (P:Int→Prop):Int→Prop
 |root {r:Int} {x:Node}:P r→Ch A r=some x→Rea A P (Bk r)
 |kid {p q:Int} {x:Node}:Rea A P p→q∈Py A p→Ch A q=some x→Rea A P (Bk q)
theorem Vz{A:Ar}{P:Int→Prop}{k:Nat}(ih:∀(out:List Int) (r:Int),(∀p∈out,Rea A P p)→(P r∨∃p,Rea A P p∧r∈Py A p)→∀p∈Dt A k out r,Rea A P p):
  ∀(ks o:List Int),(∀p∈o,Rea A P p)→(∀r∈ks,P r∨∃p,Rea A P p∧r∈Py A p)→∀p∈ks.foldl (Dt A k) o,Rea A P p:=by
 intro ks
 induction ks with
 |nil=>intro o ho _;exact ho
 |cons q ks ih2=>intro o ho hk;exact ih2 _ (ih o q ho (hk q (by simp))) (fun r hr=>hk r (by simp[hr]))
theorem Wb(A:Ar)(P:Int→Prop):∀(k:Nat) (out:List Int) (r:Int),(∀p∈out,Rea A P p)→(P r∨∃p,Rea A P p∧r∈Py A p)→∀p∈Dt A k out r,Rea A P p
 |0,out,r,ho,_=>by rw[Dt];exact ho
 |k+1,out,r,ho,hr=>by
  cases hg:Ch A r with
  |none=>rw[Lw hg];exact ho
  |some x =>
   by_cases hm:Bk r∈out
   ·rw[Ml hg hm];exact ho
   ·rw[Mk hg hm]
    have hpr:Rea A P (Bk r):=hr.elim (fun h=>.root h hg) (fun⟨p,h1,h2⟩=>.kid h1 h2 hg)
    exact Vz (Wb A P k) x.kids _ (fun p hp=>(List.mem_append.1 hp).elim (ho p) (fun h=>by rw[List.mem_singleton] at h;exact h▸hpr)) (fun q hq=>.inr ⟨Bk r,hpr,by rw[Pa hg];exact hq⟩)
theorem Ou(A:Ar)(l:List Int):Pl A (Dc A l):=(Lv l [] (Pl.nil A)).1
theorem Wg{A:Ar}(hn:A.nodes.length≤512)(l:List Int)(p:Int):p∈Dc A l↔Rea A (· ∈ l) p:=by
 constructor
 ·exact Vz (Wb A _ 513) l [] (fun p hp=>by simp at hp) (fun r hr=>.inl hr) p
 ·obtain⟨c,m⟩:=Wa (Wc A 513) l [] (by simp;omega) (Pl.nil A)
  intro h
  induction h with
  |root h1 h2=>exact m _ h1 _ h2
  |kid h1 h2 h3 ih=>exact c _ ih (by simp) _ h2 _ h3
theorem Rea.node{A:Ar}{P:Int→Prop}{p:Int}(hp:Rea A P p):∃x,A.nodes[p.toNat]?=some x∧¬x.kind=0:=by
 cases hp with
 |root _ h2=>exact⟨_,Ls h2⟩
 |kid _ _ h3=>exact⟨_,Ls h3⟩
def AJG(g n v s a b:Int):Node:=⟨6,g,n,v,s,a,b,0,0,0,0,0,0,0,0,0⟩
def Pq(x:Node):Node:=AJG x.gen x.n x.v x.s x.k0 x.k1
def itN(x:Node):It:=⟨x.n,x.v⟩
inductive HF (A:Ar):Int→List Int→List It→Prop
 |nil:HF A 0 [] []
 |node {r:Int} {x:Node} {P Q:List Int} {L R:List It}:Ch A r=some x→Pq x=x→x.s=L.length+1→(∀y∈L,¬Fu y (itN x))→HF A x.k0 P L→HF A x.k1 Q R→HF A r (Bk r::(P++Q)) (itN x::(L++R))
theorem Xq{x y z:It}(h:¬Fu y x)(k:¬Fu z y):¬Fu z x:=by unfold Fu at *;omega
theorem HF.unique{A:Ar}{r:Int}{P:List Int}{L:List It}(h:HF A r P L):∀ {P':List Int} {L':List It},HF A r P' L'→P'=P∧L'=L:=by
 induction h with
 |nil =>
  intro P' L' h
  cases h with
  |nil=>exact⟨rfl,rfl⟩
  |node h1=>rw[Jp] at h1;cases h1
 | @node r x P Q L R h1 _ _ _ _ _ ih1 ih2 =>
  intro P' L' h
  cases h with
  |nil=>rw[Jp] at h1;cases h1
  | @node _ y P2 Q2 L2 R2 g1 _ _ _ g2 g3 =>
   rw[h1] at g1
   cases g1
   obtain⟨rfl,rfl⟩:=ih1 g2
   obtain⟨rfl,rfl⟩:=ih2 g3
   exact⟨rfl,rfl⟩
def hmF(A:Ar):Nat→Int→It→List Int→Int→Int→Int × List Int
 |0,_,_,out,_,_=>(-1,out)
 |k+1,r,b,out,sum,left=>if r=0 then(sum,out) else match Ch A r with
  |none=>(-1,out)
  |some x=>if left≤sum∨¬x.kind=6∨Bk r∈out∨Fu (itN x) b then(-1,out) else
   if(hmF A k x.k0 (itN x) (out++[Bk r]) 0 (left-sum-1)).1<0∨¬Pq x=x∨¬(hmF A k x.k0 (itN x) (out++[Bk r]) 0 (left-sum-1)).1+1=x.s then(-1,(hmF A k x.k0 (itN x) (out++[Bk r]) 0 (left-sum-1)).2) else
   hmF A k x.k1 b (hmF A k x.k0 (itN x) (out++[Bk r]) 0 (left-sum-1)).2 (sum+(hmF A k x.k0 (itN x) (out++[Bk r]) 0 (left-sum-1)).1+1) left
section
variable {A:Ar} {k:Nat} {r sum left m:Int} {b:It} {x:Node} {out o:List Int}
theorem ADD:hmF A (k+1) 0 b out sum left=(sum,out):=by rw[hmF];exact if_pos rfl
theorem Vt(hr:¬r=0)(h:Ch A r=none):hmF A (k+1) r b out sum left=(-1,out):=by rw[hmF,if_neg hr,h]
theorem Oh(hr:¬r=0)(h:Ch A r=some x)(hb:left≤sum∨¬x.kind=6∨Bk r∈out∨Fu (itN x) b):hmF A (k+1) r b out sum left=(-1,out):=by rw[hmF,if_neg hr,h];exact if_pos hb
theorem Qv(hr:¬r=0)(h:Ch A r=some x)(hb:¬(left≤sum∨¬x.kind=6∨Bk r∈out∨Fu (itN x) b))(e:hmF A k x.k0 (itN x) (out++[Bk r]) 0 (left-sum-1)=(m,o))(hp:m<0∨¬Pq x=x∨¬m+1=x.s):hmF A (k+1) r b out sum left=(-1,o):=by
 rw[hmF,if_neg hr,h];simp only[];rw[if_neg hb,e];exact if_pos hp
theorem Ri(hr:¬r=0)(h:Ch A r=some x)(hb:¬(left≤sum∨¬x.kind=6∨Bk r∈out∨Fu (itN x) b))(e:hmF A k x.k0 (itN x) (out++[Bk r]) 0 (left-sum-1)=(m,o))(hp:¬(m<0∨¬Pq x=x∨¬m+1=x.s)):hmF A (k+1) r b out sum left=hmF A k x.k1 b o (sum+m+1) left:=by
 rw[hmF,if_neg hr,h];simp only[];rw[if_neg hb,e];exact if_neg hp
end
theorem Vh(A:Ar):∀(k:Nat) (r:Int) (b:It) (out:List Int) (sum left:Int),0≤sum→sum≤left→Pl A out → -1≤(hmF A k r b out sum left).1∧(hmF A k r b out sum left).1≤left∧Pl A (hmF A k r b out sum left).2
 |0,r,b,out,sum,left,h0,h1,hp=>⟨by rw[hmF];exact Int.le_refl _,by rw[hmF];show(-1:Int)≤left;omega,by rw[hmF];exact hp⟩
 |k+1,r,b,out,sum,left,h0,h1,hp=>by
  by_cases hr:r=0
  ·rw[hr,ADD];exact⟨by show -1≤sum;omega,h1,hp⟩
  cases hg:Ch A r with
  |none=>rw[Vt hr hg];exact⟨Int.le_refl _,by show(-1:Int)≤left;omega,hp⟩
  |some x =>
   by_cases hb:left≤sum∨¬x.kind=6∨Bk r∈out∨Fu (itN x) b
   ·rw[Oh hr hg hb];exact⟨Int.le_refl _,by show(-1:Int)≤left;omega,hp⟩
   have hls:¬left≤sum:=fun e=>hb (.inl e)
   have hni:Bk r∉out:=fun e=>hb (.inr (.inr (.inl e)))
   have hp2:Pl A (out++[Bk r]):=hp.add (Gb hg) hni
   have i1:=Vh A k x.k0 (itN x) (out++[Bk r]) 0 (left-sum-1) (Int.le_refl _) (by omega) hp2
   obtain⟨⟨m,o⟩,e⟩:∃p,p=hmF A k x.k0 (itN x) (out++[Bk r]) 0 (left-sum-1):=⟨_,rfl⟩
   rw[←e] at i1
   simp only[] at i1
   by_cases hq:m<0∨¬Pq x=x∨¬m+1=x.s
   ·rw[Qv hr hg hb e.symm hq];exact⟨Int.le_refl _,by show(-1:Int)≤left;omega,i1.2.2⟩
   ·rw[Ri hr hg hb e.symm hq]
    have hm0:¬m<0:=fun h=>hq (.inl h)
    exact Vh A k x.k1 b o (sum+m+1) left (by omega) (by omega) i1.2.2
theorem Sx(A:Ar):∀(k:Nat) (r:Int) (b:It) (out:List Int) (sum left m:Int) (o:List Int),0≤sum→sum≤left→Pl A out→hmF A k r b out sum left=(m,o)→0≤m→∃P L,HF A r P L∧m=sum+L.length∧o=out++P∧(∀y∈L,¬Fu y b)
 |0,r,b,out,sum,left,m,o,_,_,_,h,hm=>by rw[hmF] at h;cases h;omega
 |k+1,r,b,out,sum,left,m,o,h0,h1,hp,h,hm=>by
  by_cases hr:r=0
  ·rw[hr,ADD] at h;cases h;exact⟨[],[],hr▸.nil,by simp,by simp,fun y hy=>by cases hy⟩
  cases hg:Ch A r with
  |none=>rw[Vt hr hg] at h;cases h;omega
  |some x =>
   by_cases hb:left≤sum∨¬x.kind=6∨Bk r∈out∨Fu (itN x) b
   ·rw[Oh hr hg hb] at h;cases h;omega
   have hls:¬left≤sum:=fun e=>hb (.inl e)
   have hni:Bk r∉out:=fun e=>hb (.inr (.inr (.inl e)))
   have hlx:¬Fu (itN x) b:=fun e=>hb (.inr (.inr (.inr e)))
   have hp2:Pl A (out++[Bk r]):=hp.add (Gb hg) hni
   have i1:=Vh A k x.k0 (itN x) (out++[Bk r]) 0 (left-sum-1) (Int.le_refl _) (by omega) hp2
   obtain⟨⟨m1,o1⟩,e⟩:∃p,p=hmF A k x.k0 (itN x) (out++[Bk r]) 0 (left-sum-1):=⟨_,rfl⟩
   rw[←e] at i1
   simp only[] at i1
   by_cases hq:m1<0∨¬Pq x=x∨¬m1+1=x.s
   ·rw[Qv hr hg hb e.symm hq] at h;cases h;omega
   rw[Ri hr hg hb e.symm hq] at h
   have hm0:¬m1<0:=fun h=>hq (.inl h)
   have hbare:Pq x=x:=Decidable.not_not.1 fun h=>hq (.inr (.inl h))
   have hs:m1+1=x.s:=Decidable.not_not.1 fun h=>hq (.inr (.inr h))
   obtain⟨P,L,hL,e1,e2,e3⟩:=Sx A k x.k0 (itN x) (out++[Bk r]) 0 (left-sum-1) m1 o1 (Int.le_refl _) (by omega) hp2 e.symm (by omega)
   obtain⟨Q,R,hR,e4,e5,e6⟩:=Sx A k x.k1 b o1 (sum+m1+1) left m o (by omega) (by omega) i1.2.2 h hm
   refine⟨_,_,.node hg hbare (by omega) e3 hL hR,by simp only[Al,Ag];omega,by rw[e5,e2];simp,fun y hy=>?_⟩
   rcases List.mem_cons.1 hy with rfl|hy
   ·exact hlx
   ·exact(List.mem_append.1 hy).elim (fun h=>Xq hlx (e3 y h)) (e6 y)
theorem AAo{A:Ar}{r:Int}{P:List Int}{L:List It}(h:HF A r P L):∀(k:Nat) (b:It) (out:List Int) (sum left:Int),0≤sum→sum+L.length≤left→left-sum<k→(out++P).Nodup→(∀y∈L,¬Fu y b)→hmF A k r b out sum left=(sum+L.length,out++P):=by
 induction h with
 |nil =>
  intro k b out sum left h0 h1 h2 _ _
  cases k with
  |zero=>simp at h1;omega
  |succ k=>rw[ADD];simp
 | @node r x P Q L R g1 g2 g3 g4 _ _ ih1 ih2 =>
  intro k b out sum left h0 h1 h2 hn hb
  simp only[Al,Ag] at h1
  cases k with
  |zero=>omega
  |succ k =>
   have hr:¬r=0:=fun e=>by rw[e,Jp] at g1;cases g1
   have hk:x.kind=6:=by rw[←g2];rfl
   have hni:Bk r∉out:=fun e=>by
    rw[List.nodup_append] at hn
    exact hn.2.2 _ e _ (by simp) rfl
   have hn1:(out++[Bk r]++P++Q).Nodup:=by simpa using hn
   have hok:¬(left≤sum∨¬x.kind=6∨Bk r∈out∨Fu (itN x) b):=by
    rintro(e|e|e|e)
    ·omega
    ·exact e hk
    ·exact hni e
    ·exact hb (itN x) (by simp) e
   have e1:=ih1 k (itN x) (out++[Bk r]) 0 (left-sum-1) (Int.le_refl _) (by omega) (by omega) (List.nodup_append.1 hn1).1 g4
   rw[Ri hr g1 hok e1 (by rintro(e|e|e);omega;exact e g2;omega)]
   rw[ih2 k b (out++[Bk r]++P) (sum+(0+(L.length:Int))+1) left (by omega) (by omega) (by omega) hn1 (fun y hy=>hb y (by simp[hy]))]
   simp only[Al,Ag,List.append_assoc,List.cons_append,List.nil_append]
   exact Prod.ext (by show _=sum+(((L.length+R.length+1:Nat)):Int);omega) rfl
def Pk(A:Ar)(r:Int):It:=match Ch A r with|some x=>itN x|none=>⟨0,0⟩
def Qr(A:Ar)(r:Int):Int:=match Ch A r with|some x=>x.k1|none=>0
structure IsP (A:Ar) (r:Int) (P:List Int) (L:List It):Prop where
 hf:HF A r P L
 nd:P.Nodup
 len:L.length≤200
 one:Qr A r=0
def Ky(A:Ar)(r:Int):Bool := !(decide ((hmF A 201 r (Pk A r) [] 0 200).1<0)||decide (¬Qr A r=0))
theorem HF.top{A:Ar}{r:Int}{P:List Int}{L:List It}(h:HF A r P L)(h1:Qr A r=0):∀y∈L,¬Fu y (Pk A r):=by
 cases h with
 |nil=>intro y hy;cases hy
 | @node _ x P Q L R g1 g2 g3 g4 hl hr =>
  have e1:Pk A r=itN x:=by unfold Pk;rw[g1]
  have e2:x.k1=0:=by unfold Qr at h1;rw[g1] at h1;exact h1
  rw[e1]
  rw[e2] at hr
  obtain⟨rfl,rfl⟩:=HF.unique .nil hr
  intro y hy
  rcases List.mem_cons.1 hy with rfl|hy
  ·unfold Fu;omega
  ·exact g4 y (by simpa using hy)
theorem AGp(A:Ar)(r:Int):Ky A r=true↔∃P L,IsP A r P L:=by
 unfold Ky
 constructor
 ·intro h
  obtain⟨⟨m,o⟩,e⟩:∃p,p=hmF A 201 r (Pk A r) [] 0 200:=⟨_,rfl⟩
  have h5:=Vh A 201 r (Pk A r) [] 0 200 (Int.le_refl _) (by omega) (Pl.nil A)
  rw[←e] at h h5
  simp only[Bool.not_eq_true',Bool.or_eq_false_iff,decide_eq_false_iff_not,Decidable.not_not] at h h5
  obtain⟨P,L,h1,h2,h3,h4⟩:=Sx A 201 r (Pk A r) [] 0 200 m o (Int.le_refl _) (by omega) (Pl.nil A) e.symm (by omega)
  refine⟨P,L,h1,?_,by omega,h.2⟩
  have:=h5.2.2.nd
  rw[h3] at this
  simpa using this
 ·rintro⟨P,L,h⟩
  rw[AAo h.hf 201 (Pk A r) [] 0 200 (Int.le_refl _) (by have:=h.len;omega) (by omega) (by simpa using h.nd) (h.hf.top h.one)]
  simp only[Bool.not_eq_true',Bool.or_eq_false_iff,decide_eq_false_iff_not,Decidable.not_not]
  exact⟨by show¬(0:Int)+L.length<0;omega,h.one⟩
theorem IsP.unique{A:Ar}{r:Int}{P P':List Int}{L L':List It}(h:IsP A r P L)(k:IsP A r P' L'):P'=P∧L'=L:=h.hf.unique k.hf
theorem IsP.zero(A:Ar):IsP A 0 [] []:=⟨.nil,List.nodup_nil,by simp,by unfold Qr;rw[Jp]⟩
def rdF(A:Ar):Nat→Int→List It
 |0,_=>[]
 |k+1,r=>match Ch A r with
  |none=>[]
  |some y=>if y.kind=3 then[⟨y.n,y.v⟩] else y.kids.flatMap (rdF A k)
theorem AAF{A:Ar}{k:Nat}{r:Int}(h:Ch A r=none):rdF A k r=[]:=by cases k with|zero=>rfl|succ k=>rw[rdF,h]
theorem Rd{A:Ar}{k:Nat}{r:Int}{x:It}(h:lfA A r x):rdF A (k+1) r=[x]:=by obtain⟨g,h⟩:=h;rw[rdF,h];rfl
theorem Rc{A:Ar}{k:Nat}{r:Int}{y:Node}(h:Ch A r=some y)(h3:¬y.kind=3):rdF A (k+1) r=y.kids.flatMap (rdF A k):=by rw[rdF,h];exact if_neg h3
theorem AL7{α:Type}{y:Node}(h:∀j,4≤j→j<9→y.kids.getD j 0=0)(f:Int→List α)(f0:f 0=[]):y.kids.flatMap f=f (y.kids.getD 0 0)++(f (y.kids.getD 1 0)++(f (y.kids.getD 2 0)++f (y.kids.getD 3 0))):=by
 have h4:y.k4=0:=h 4 (by omega) (by omega)
 have h5:y.k5=0:=h 5 (by omega) (by omega)
 have h6:y.k6=0:=h 6 (by omega) (by omega)
 have h7:y.k7=0:=h 7 (by omega) (by omega)
 have h8:y.k8=0:=h 8 (by omega) (by omega)
 simp only[Node.kids,List.flatMap_cons,List.flatMap_nil,h4,h5,h6,h7,h8,f0,List.append_nil,List.nil_append]
 rfl
theorem Yj{A:Ar}{k:Nat}{r:Int}{L:List It}(h:IsH A (k+1) r L)(hl:2≤L.length):∃y,Ch A r=some y∧y.kind=2∧y.s=L.length∧(∀i,i<4→IsH A k (y.kids.getD i 0) (ofL (9-k) i L))∧∀j,4≤j→j<9→y.kids.getD j 0=0:=by
 obtain⟨g,ks,h1,h2,h3⟩:=(Lr hl).1 h
 exact⟨_,h2,rfl,rfl,fun i hi=>by rw[No (by omega)];exact h3 i hi,fun j h4 h9=>by rw[No h9,List.getD_eq_getElem?_getD,List.getElem?_eq_none (by omega)];rfl⟩
theorem Oa{α:Type}{f:Int→List α}{g:It→α}:∀(ks:List Int) (m:List It),(∀i x,m[i]?=some x→f (ks.getD i 0)=[g x])→(∀i,m.length≤i→i<ks.length→f (ks.getD i 0)=[])→m.length≤ks.length→ks.flatMap f=m.map g
 | [],m,_,_,hl=>by rw[List.eq_nil_of_length_eq_zero (show m.length=0 by simpa using hl)];rfl
 |z::ks,[],h1,h2,_=>by
  have h0:=h2 0 (Nat.zero_le _) (by simp)
  have ih:=Oa ks [] (fun i x h=>by cases h) (fun i _ hi=>h2 (i+1) (Nat.zero_le _) (by simpa using hi)) (Nat.zero_le _) (g:=g)
  rw[List.flatMap_cons,ih]
  exact(congrArg (· ++ _) h0).trans rfl
 |z::ks,x::m,h1,h2,hl=>by
  have h0:=h1 0 x rfl
  have ih:=Oa ks m (fun i y hy=>h1 (i+1) y hy) (fun i h3 h4=>h2 (i+1) (by simpa using h3) (by simpa using h4)) (by simpa using hl)
  rw[List.flatMap_cons,ih]
  exact(congrArg (· ++ _) h0).trans rfl
theorem AGX{A:Ar}{f:Nat}{r:Int}{y:Node}{m:List It}(hy:Ch A r=some y)(h4:y.kind=4)(hm9:m.length≤9)(hlf:∀i x,m[i]?=some x→lfA A (y.kids.getD i 0) x)(hz:∀i,m.length≤i→i<9→y.kids.getD i 0=0):rdF A (f+2) r=m:=by
 rw[Rc hy (by omega),Oa (g:=id) y.kids m (fun i x hx=>Rd (hlf i x hx)) (fun i h1 h2=>by rw[hz i h1 h2];exact AAF (Sc A)) hm9,List.map_id]
theorem Qu{A:Ar}:∀ {k f:Nat} {r:Int} {L:List It},IsH A k r L→(rdF A (k+f+2) r).Perm L
 |k,f,r,L,h=>by
  rcases Jx L with rfl|⟨x,rfl⟩|h2
  ·rw[Jg.1 h,AAF (Sc A)]
  ·rw[Rd (Jf.1 h)]
  ·cases k with
   |zero =>
    obtain⟨y,m,q1,q2,_,q3,_,_,q6,q7,q8⟩:=Wz ((Jd h2).1 h) h2
    rw[AGX q1 q2 q6 q7 q8];exact q3
   |succ k =>
    obtain⟨y,q1,q2,_,q4,q5⟩:=Yj h h2
    rw[show k+1+f+2=(k+f+2)+1 by omega,Rc q1 (by omega),AL7 q5 _ (AAF (Sc A))]
    exact((Qu (f:=f) (q4 0 (by omega))).append ((Qu (f:=f) (q4 1 (by omega))).append ((Qu (f:=f) (q4 2 (by omega))).append (Qu (f:=f) (q4 3 (by omega)))))).trans (Sn (9-k) L)
section
variable {σ α:Type} {nx:σ→α→σ × Bool} {s:σ}
theorem Yr(z:α):Dj nx s [z]=nx s z:=by
 simp only[Dj]
 split
 ·rename_i h;exact Prod.ext rfl h.symm
 ·rename_i h;exact Prod.ext rfl (by simpa using h)
theorem Wh{ks:List α}{j:Nat}{z:α}(hz:ks[j]?=some z)(h:(Dj nx s (ks.take j)).2=true):Dj nx s (ks.take (j+1))=nx (Dj nx s (ks.take j)).1 z:=by
 rw[List.take_add_one,hz,Ov h];exact Yr z
theorem ACb{ks:List α}{j:Nat}(h:(Dj nx s (ks.take j)).2=false):Dj nx s ks=Dj nx s (ks.take j):=by
 conv=>lhs;rw[←List.take_append_drop j ks]
 exact AAW h
theorem Yq{cnt:σ→Nat}{lenK:α→Nat}(h:∀s x,cnt (nx s x).1≤cnt s+lenK x):∀(L:List α) (s:σ),cnt (Dj nx s L).1≤cnt s+(L.map lenK).sum
 | [],s=>Nat.le_add_right _ _
 |x::L,s=>by
  have h1:=h s x
  rw[Dj,List.map_cons,List.sum_cons]
  split
  ·have:=Yq h L (nx s x).1;omega
  ·simp only[];omega
theorem AGM{lenK:α→Nat}{ks:List α}{j:Nat}{z:α}(hz:ks[j]?=some z):((ks.take j).map lenK).sum+lenK z≤(ks.map lenK).sum:=by
 have e:(ks.map lenK).sum=((ks.take (j+1)).map lenK).sum+((ks.drop (j+1)).map lenK).sum:=by
  rw[←List.sum_append,←List.map_append,List.take_append_drop]
 rw[e,List.take_add_one,hz,List.map_append,List.sum_append]
 simp
end
theorem Qi{σ α β:Type}{step:σ→β→σ × Bool}(f:α→List β):∀(ks:List α) (s:σ),Dj (fun s z=>Dj step s (f z)) s ks=Dj step s (ks.flatMap f)
 | [],s=>rfl
 |z::ks,s=>by
  rw[List.flatMap_cons,Dj]
  by_cases h:(Dj step s (f z)).2=true
  ·rw[if_pos h,Ov h,Qi f ks]
  ·rw[if_neg h,AAW (by simpa using h)]
   exact Prod.ext rfl (by simpa using h)
def AKr{σ:Type}(g:FuncId)(cs:List Value)(ks:List Int)(cnt:σ→Nat)(N:Nat)(lenK:Int→Nat)(I:World→Prop)(H:σ→Bool→(Nat→Prop)→World→Prop)(nx:σ→Int→σ × Bool):Prop :=
 ∀z∈ks,∀(s:σ) (C M:Nat→Prop) (W:World),cnt s+lenK z≤N→Ft M I W→(∀k,M k→¬C k)→Ft C (H s true C) W→FC Tryz.prog g ([u6 z]++cs) W (fun v w'=>∃C',v=.bool (!(nx s z).2)∧Ft C' (H (nx s z).1 (nx s z).2 C') w'∧Agr C W w'∧Up C W C')
theorem AKA{σ:Type}(g:FuncId)(hg:calleeOK Tryz.prog g=true)(cs:List Value)(ks:List Int)(a:Option Addr)(c:Nat)(hk:ks.length≤1000)(cnt:σ→Nat)(N:Nat)(lenK:Int→Nat)(I:World→Prop)(H:σ→Bool→(Nat→Prop)→World→Prop)(nx:σ→Int→σ × Bool)(hc:∀s x,cnt (nx s x).1≤cnt s+lenK x)(hT:AKr g cs ks cnt N lenK I H nx)(hI:∀u,I u→Sl u a 1 (ks.map fun x=>[u6 x]))
  (s:σ) (C M:Nat→Prop) (w:World) (m:Nat) (hm:m=ks.length) (hN:cnt s+(ks.map lenK).sum≤N) (hM:Ft M I w) (hMC:∀k,M k→¬C k) (hH:Ft C (H s true C) w) :
  FC Tryz.prog 241 [.slice a m c,.func (.func g) #[] cs.toArray] w (fun v w'=>∃C' n,v=.int .i64 n∧(0≤n↔(Dj nx s ks).2=false)∧Ft C' (H (Dj nx s ks).1 (Dj nx s ks).2 C') w'∧Agr C w w'∧Up C w C'):=by
 subst hm
 have hlen:ks.length<9223372036854775807:=by omega
 refine As Tryz.func241 rfl Tryz.ntmps241 rfl ?_
 have G:Agr C w w:=Agr.refl _ _
 refine Ac<|Aa rfl<|Ah rfl<|Ae<|Ab<|Ac<|Ac<|Aa rfl<|Af rfl<|Cm Kw rfl<|Af rfl<|Ae<|Ab<|Bh<|Cw (α:=Nat × (Nat→Prop)) (fun x=>[(0,.slice a ks.length c),(1,.func (.func g) #[] cs.toArray),(7,.int .i64 (ks.length:Int)),(8,.int .i64 (x.1:Int))]) (fun x w1=>(x.1≤ks.length∧(Dj nx s (ks.take x.1)).2=true)∧Ft x.2 (H (Dj nx s (ks.take x.1)).1 true x.2) w1∧Ft M I w1∧(∀k,M k→¬x.2 k)∧Agr C w w1∧Up C w x.2) (fun x=>ks.length-x.1) (0,C) (Bf (by repeat (first|exact trivial|refine And.intro rfl ?_))) (⟨⟨Nat.zero_le _,rfl⟩,hH,hM,hMC,G,Up.refl _ _⟩) (fun x w1 hJ=>?_)
 obtain⟨j,Cj⟩:=x;obtain⟨⟨hj,ht⟩,hH,hM,hMC,G,up⟩:=hJ;simp only[] at hj ht hH hMC up;have hsl:=hI _ hM.now;have hsum:=Yq hc (ks.take j) s
 refine Ac<|Aa rfl<|Bc rfl rfl rfl<|Ae<|Ab<|Ac<|An rfl (fun h2=>?_) (fun h2=>?_)
 ·
  obtain⟨z,hz⟩:=Ce (l:=ks) (i:=j) (by omega)
  have hst:=AGM (lenK:=lenK) hz
  refine Ao<|Ab<|Ac<|Bh<|Ac<|Aa rfl<|Af rfl<|Ah rfl<|Ae<|Ab<|Ac<|Aa rfl<|Af rfl<|Af rfl<|Af rfl<|Ak (.indexS Kw rfl rfl (by omega) (hsl.is (i:=j) (by simp only[Aj];omega))) ?_;refine Ak (.load1 Dm rfl (hsl.one (enc:=u6) (i:=j) hz))<|Dl rfl rfl (us:=[]) (cs:=cs) hg (hT z (Au hz) _ Cj M w1 (by omega) hM hMC hH) rfl rfl ?_;rintro _ w3 ⟨C1,rfl,hH1,ag,up1⟩
  have hMC1:∀k,M k→¬C1 k:=fun k hk=>up1.not (hM.lt k hk) (hMC k hk)
  have hM:=hM.step ag hMC
  have up1:=up.trans (up1.le G.size)
  have G:=G.up up ag
  rw[←Wh hz ht] at hH1
  have hH:=hH1
  rw[←Wh hz ht]
  refine Ae<|Ab<|Db rfl (fun h5=>?_) (fun h5=>?_)
  ·
   have q1:(Dj nx s (ks.take (j+1))).2=false:=(by simpa using h5)
   have hpe:=ACb q1
   refine Ac<|Aa rfl<|Af rfl<|Ah rfl<|Ae<|Ab<|Bb 4 rfl rfl rfl ?_
   rw[hpe]
   exact⟨C1,(j:Int),rfl,⟨fun _=>q1,fun _=>by omega⟩,hH,G,up1⟩
  ·
   have q1:(Dj nx s (ks.take (j+1))).2=true:=(by simpa using h5)
   refine Ao<|Ab<|Aa rfl<|Ak (.as (.bin rfl rfl rfl) (Cs (y:=((j+1:Nat):Int)) (by omega) (by omega)))<|Af rfl ?_
   exact Ae (fun a ka=>⟨(j+1,C1),⟨⟨by simp only[];omega,q1⟩,(by rw[q1] at hH;exact hH),hM,hMC1,G,up1⟩,by omega,ka.keep (Bf (by repeat (first|exact trivial|refine And.intro rfl ?_)))⟩)
 ·
  obtain rfl:j=ks.length:=(by omega)
  rw[List.take_length] at ht hH
  refine Co rfl<|Ab<|Ac<|Aa rfl<|Ah rfl<|Ae<|Ab<|Bb 4 rfl rfl rfl ?_
  exact⟨Cj, -1,rfl,⟨fun h=>by omega,fun h=>by rw[ht] at h;cases h⟩,(by rw[ht];exact hH),G,up⟩
theorem AB0{σ:Type}(g:FuncId)(hg:calleeOK Tryz.prog g=true)(cs:List Value)(ks:List Int)(a:Option Addr)(c:Nat)(hk:ks.length≤1000)(cnt:σ→Nat)(N:Nat)(lenK:Int→Nat)(I:World→Prop)(H:σ→Bool→(Nat→Prop)→World→Prop)(nx:σ→Int→σ × Bool)(hc:∀s x,cnt (nx s x).1≤cnt s+lenK x)(hT:AKr g cs ks cnt N lenK I H nx)(hI:∀u,I u→Sl u a 1 (ks.map fun x=>[u6 x]))
  (s:σ) (C M:Nat→Prop) (w:World) (m:Nat) (hm:m=ks.length) (hN:cnt s+(ks.map lenK).sum≤N) (hM:Ft M I w) (hMC:∀k,M k→¬C k) (hH:Ft C (H s true C) w) :
  FC Tryz.prog 186 [.slice a m c,.func (.func g) #[] cs.toArray] w (fun v w'=>∃C',v=.bool (!(Dj nx s ks).2)∧Ft C' (H (Dj nx s ks).1 (Dj nx s ks).2 C') w'∧Agr C w w'∧Up C w C'):=by
 refine As Tryz.func186 rfl Tryz.ntmps186 rfl ?_
 refine Ac<|Aa rfl<|Ah rfl<|Ae<|Ab<|Ac<|Aa rfl<|Af rfl<|Af rfl<|Az rfl AIy (AKA g hg cs ks a c hk cnt N lenK I H nx hc hT hI s C M w m hm hN hM hMC hH) ?_;rintro _ w1 ⟨C1,n,rfl,hn,hH1,ag,up⟩;refine Ak (.as (v':=.bool (!(Dj nx s ks).2)) (.bin rfl rfl rfl) (by exact congrArg Value.bool (by rw[Bool.eq_iff_iff,decide_eq_true_iff,hn,Bool.not_eq_true'])))<|Ah rfl<|Ae<|Ab<|Bb 4 rfl rfl rfl ?_
 exact⟨C1,rfl,hH1,ag,up⟩
def PuI(na fa:Option Addr)(nc fc:Nat)(A:Ar)(l b3 b5 b7:Nat)(y:Node)(u:World):Prop :=
 ArR u na fa A∧Has u b3 [.slice na A.nodes.length nc,.slice fa A.free.length fc] 26∧Has u b5 [.func (.yield l) #[] #[]] 198∧Has u b7 y.cells 140
def PuT{σ:Type}(l:Nat)(H:σ→Bool→(Nat→Prop)→World→Prop)(step:σ→It→σ × Bool)(cnt:σ→Nat)(N:Nat)(A:Ar)(na fa:Option Addr)(nc fc:Nat)(r:Int)(L:List It):Prop :=
 ∀(s:σ) (C M:Nat→Prop) (w:World),cnt s+L.length≤N→Ft M (fun u=>ArR u na fa A) w→(∀k,M k→¬C k)→Ft C (H s true C) w →
  FC Tryz.prog 113 [arV na fa nc fc A,.int .u64 r,.func (.yield l) #[] #[]] w (fun v w'=>∃C',v=.bool (Dj step s L).2∧Ft C' (H (Dj step s L).1 (Dj step s L).2 C') w'∧Agr C w w'∧Up C w C')
theorem AG8{σ:Type}(l:Nat)(H:σ→Bool→(Nat→Prop)→World→Prop)(step:σ→It→σ × Bool)(cnt:σ→Nat)(N:Nat)(hc:∀s x,cnt (step s x).1≤cnt s+1)(hT:YT Tryz.prog l It.val It.ok cnt N H step)(A:Ar)(na fa:Option Addr)(nc fc:Nat)(b3 b5 b7:Nat)(y:Node)(z:Int)(L:List It)(hp:PuT l H step cnt N A na fa nc fc z L)(s:σ)(C M:Nat→Prop)(w:World)(hN:cnt s+L.length≤N)(hM:Ft M (PuI na fa nc fc A l b3 b5 b7 y) w)(hMC:∀k,M k→¬C k)(hH:Ft C (H s true C) w):
  FC Tryz.prog 187 ([u6 z]++[.pointer (some ⟨b3,0,none⟩),.pointer (some ⟨b5,0,none⟩)]) w (fun v w'=>∃C',v=.bool (!(Dj step s L).2)∧Ft C' (H (Dj step s L).1 (Dj step s L).2 C') w'∧Agr C w w'∧Up C w C'):=by
 obtain⟨hA,h3,h5,h7⟩:=hM.now
 refine As Tryz.func187 rfl Tryz.ntmps187 rfl ?_
 refine Ac<|Aa rfl<|Ah rfl<|Ae<|Ab<|Ac<|Aa rfl<|Ak (.loadR ([.slice na A.nodes.length nc,.slice fa A.free.length fc]) Cb rfl h3.row rfl)<|Af rfl<|Ba AIj rfl h5 rfl<|Az rfl AJD (hp s C M w hN (hM.imp fun u h=>h.1) hMC hH) ?_;rintro _ w1 ⟨C1,rfl,hH1,ag,up⟩;refine Ak (.not rfl)<|Ah rfl<|Ae<|Ab<|Bb 4 rfl rfl rfl ?_
 exact⟨C1,rfl,hH1,ag,up⟩
theorem AEl{σ:Type}(l:Nat)(H:σ→Bool→(Nat→Prop)→World→Prop)(step:σ→It→σ × Bool)(cnt:σ→Nat)(N:Nat)(hc:∀s x,cnt (step s x).1≤cnt s+1)(hT:YT Tryz.prog l It.val It.ok cnt N H step)(A:Ar)(na fa:Option Addr)(nc fc:Nat)(s0:Unit):PuT l H step cnt N A na fa nc fc 0 []:=by
 intro s C M w hN hA hMC hH
 refine Mc Tryz.func113 rfl Tryz.ntmps113 rfl ?_
 have G:Agr C w w:=Agr.refl _ _
 refine Ac<|Aa rfl<|Bu rfl rfl rfl (fun f d k h a c=>?_);have G:=G.trans c.agr;have hH:=hH.sub c
 have a:Has d f ([.slice na A.nodes.length nc,.slice fa A.free.length fc]) _:=a
 refine Bu rfl rfl rfl (fun m i j g e b=>?_);have G:=G.trans b.agr;have hH:=hH.sub b;refine Ah rfl<|Ae<|Ab<|Ac<|Ac<|Aa rfl<|Af rfl<|Bc rfl rfl rfl<|Ae<|Ab<|An rfl (fun h1=>?_) (fun h1=>?_)
 ·
  refine Ac<|Aa rfl<|Ah rfl<|Ae<|Ab<|Bb 6 rfl rfl rfl ?_
  exact⟨C,rfl,hH,G,Up.refl _ _⟩
 ·
  exact absurd rfl h1
theorem Xc{σ:Type}(l:Nat)(H:σ→Bool→(Nat→Prop)→World→Prop)(step:σ→It→σ × Bool)(cnt:σ→Nat)(N:Nat)(hc:∀s x,cnt (step s x).1≤cnt s+1)(hT:YT Tryz.prog l It.val It.ok cnt N H step)(A:Ar)(na fa:Option Addr)(nc fc:Nat)(r:Int)(hr:U64 r)(x:It)(hx:lfA A r x):PuT l H step cnt N A na fa nc fc r [x]:=by
 intro s C M w hNn hA hMC hH
 obtain⟨g,hg⟩:=hx
 have hyo:=hA.now.nok _ (Ek hg)
 have hr0:=Mg hg
 have hCw:∀k,C k→k<w.heap.size:=hH.lt
 rw[List.length_singleton] at hNn
 refine Mc Tryz.func113 rfl Tryz.ntmps113 rfl ?_
 have G:Agr C w w:=Agr.refl _ _
 refine Ac<|Aa rfl<|Bu rfl rfl rfl (fun q o D y c i=>?_);have G:=G.trans i.agr;have hA:=hA.sub i;have hH:=hH.sub i
 have c:Has o q ([.slice na A.nodes.length nc,.slice fa A.free.length fc]) _:=c
 refine Bu rfl rfl rfl (fun E m B u a f=>?_);have G:=G.trans f.agr;have hA:=hA.sub f;have hH:=hH.sub f;have c:=c.sub f;refine Ah rfl<|Ae<|Ab<|Ac<|Ac<|Aa rfl<|Af rfl<|Bc rfl rfl rfl<|Ae<|Ab<|An rfl (fun h1=>?_) (fun h1=>?_)
 ·
  exact absurd h1 hr0
 ·
  refine Ao<|Ab<|Ac<|Aa rfl<|Ak (.loadR ([.slice na A.nodes.length nc,.slice fa A.free.length fc]) Cb rfl c.row rfl)<|Af rfl<|Az rfl Ll (Jc A na fa nc fc r hr m hA.now) ?_;rintro _ w2 ⟨rfl,s3⟩;have G:=G.trans s3.agr;have hH:=hH.sub s3;have a:=a.sub s3;refine Ak (.as (v':=.tuple #[(hN 3 g x.k x.v 0 []).val,.int .i64 0]) (.move rfl) (by rw[Io hg]))<|Bz rfl rfl<|Bz rfl rfl<|Ay Dx rfl rfl (fun p z j t b h=>?_);have e:=a.ne j;have d:=hH.neNew j
  have geG_7:=Gi G j
  have G:=G.trans h.agr;have hH:=hH.sub h;have a:=a.sub h;refine At Ct rfl rfl rfl b (fun w4 z4 b a4=>?_)
  have G:=Dv G a4 geG_7
  have hH:=hH.updD a4 d;have a:=a.upd a4 e
  have b:Has w4 p ((hN 3 g x.k x.v 0 []).cells) _:=b.now (by kernel_rfl)
  refine Ah rfl<|Ae<|Ab<|Ac<|Ac<|Aa rfl<|Av Es rfl<|Ba sh3 rfl b rfl<|Ak (.as (v':=.bool true) (.bin rfl rfl rfl) (Cr (rfl)))<|Ae<|Ab<|Bm rfl<|Ac<|Aa rfl<|Ba AIj rfl a rfl<|Av Fl rfl ?_;refine Ba sh2 rfl b rfl<|Av Hv rfl<|Ba sh2 rfl b rfl<|Ak (.as (v':=x.val) (.buildS Rv AJW rfl rfl) (by rfl))<|ABk rfl rfl (hT s x C w4 ⟨hyo.n,hyo.v⟩ (by omega) hH) rfl rfl ?_;rintro _ w5 ⟨C2,rfl,hH2,ag2,up2⟩
  have up2:=up2.le G.size
  have G:=G.trans ag2;refine Ah rfl<|Ae<|Ab<|Bb 6 rfl rfl rfl ?_
  rw[Yr]
  exact⟨C2,rfl,hH2,G,up2⟩
theorem Xb{σ:Type}(l:Nat)(H:σ→Bool→(Nat→Prop)→World→Prop)(step:σ→It→σ × Bool)(cnt:σ→Nat)(N:Nat)(hc:∀s x,cnt (step s x).1≤cnt s+1)(hT:YT Tryz.prog l It.val It.ok cnt N H step)(A:Ar)(na fa:Option Addr)(nc fc:Nat)(r:Int)(hr:U64 r)(y:Node)(hy:Ch A r=some y)(h3:¬y.kind=3)(f:Int→List It)(hf:∀z∈y.kids,PuT l H step cnt N A na fa nc fc z (f z)):PuT l H step cnt N A na fa nc fc r (y.kids.flatMap f):=by
 intro s C M w hN hA hMC hH
 have hyo:=hA.now.nok _ (Ek hy)
 have hr0:=Mg hy
 have hCw:∀k,C k→k<w.heap.size:=hH.lt
 have hfl:(y.kids.flatMap f).length=(y.kids.map fun z=>(f z).length).sum:=by rw[List.length_flatMap]
 refine Mc Tryz.func113 rfl Tryz.ntmps113 rfl ?_
 have G:Agr C w w:=Agr.refl _ _
 refine Ac<|Aa rfl<|Bu rfl rfl rfl (fun p E O J a B=>?_);have G:=G.trans B.agr;have hA:=hA.sub B;have hH:=hH.sub B
 have a:Has E p ([.slice na A.nodes.length nc,.slice fa A.free.length fc]) _:=a
 refine Bu rfl rfl rfl (fun t D L I b q=>?_);have G:=G.trans q.agr;have hA:=hA.sub q;have hH:=hH.sub q;have a:=a.sub q;refine Ah rfl<|Ae<|Ab<|Ac<|Ac<|Aa rfl<|Af rfl<|Bc rfl rfl rfl<|Ae<|Ab<|An rfl (fun h1=>?_) (fun h1=>?_)
 ·
  exact absurd h1 hr0
 ·
  refine Ao<|Ab<|Ac<|Aa rfl<|Ak (.loadR ([.slice na A.nodes.length nc,.slice fa A.free.length fc]) Cb rfl a.row rfl)<|Af rfl<|Az rfl Ll (Jc A na fa nc fc r hr D hA.now) ?_;rintro _ w2 ⟨rfl,s3⟩;have G:=G.trans s3.agr;have hA:=hA.sub s3;have hH:=hH.sub s3;have a:=a.sub s3;have b:=b.sub s3;refine Ak (.as (v':=.tuple #[y.val,.int .i64 0]) (.move rfl) (by rw[Io hy]))<|Bz rfl rfl<|Bz rfl rfl<|Ay Dx rfl rfl (fun o K m F c j=>?_);have i:=a.ne m;have g:=b.ne m;have e:=hA.neNew m;have d:=hH.neNew m
  have geG_7:=Gi G m
  have G:=G.trans j.agr;have hA:=hA.sub j;have hH:=hH.sub j;have a:=a.sub j;have b:=b.sub j;refine At Ct rfl rfl rfl c (fun w4 z4 c a4=>?_)
  have G:=Dv G a4 geG_7
  have hA:=hA.updD a4 e;have hH:=hH.updD a4 d;have a:=a.upd a4 i;have b:=b.upd a4 g
  have c:Has w4 o (y.cells) _:=c.now (by kernel_rfl)
  refine Ah rfl<|Ae<|Ab<|Ac<|Ac<|Aa rfl<|Av Es rfl<|Ba sh3 rfl c rfl<|Ak (.as (v':=.bool false) (.bin rfl rfl rfl) (Bt (h3)))<|Ae<|Ab<|Bw rfl<|Ao<|Ab<|Ac<|Aa rfl ?_;refine Av Da rfl<|Ak (.sliceArr Eb rfl)<|Ak (.func (xs:=[]) (ys:=[_,_]) rfl rfl)<|Az rfl AI6 (AB0 187 ALn [.pointer (some ⟨p,0,none⟩),.pointer (some ⟨t,0,none⟩)] y.kids (some ⟨o,5,none⟩) 9 (Nat.le_of_ble_eq_true rfl) cnt N (fun z=>(f z).length) (PuI na fa nc fc A l p t o y) H (fun s z=>Dj step s (f z)) (fun s z=>Sk hc (f z) s) (fun z hz s C M W q1 q2 q3 q4=>AG8 l H step cnt N hc hT A na fa nc fc p t o y z (f z) (hf z hz) s C M W q1 q2 q3 q4) (fun u h=>Xg (enc:=u6) (l:=y.kids) (pre:=[i6 y.kind,i6 y.gen,i6 y.n,i6 y.v,i6 y.s]) (post:=[i6 y.pre,i6 y.suf]) h.2.2.2 rfl) s C (fun k=>M k∨k=p∨k=t∨k=o) w4 9 rfl (by omega) (hA.and (a.ft.and (b.ft.and c.ft))) (fun k hk hC=>by rcases hk with hk|hk|hk|hk;exact hMC k hk hC;all_goals (have:=hCw k hC;omega)) hH) ?_;rintro _ w5 ⟨C2,rfl,hH2,ag2,up2⟩
  have up2:=up2.le G.size
  have G:=G.trans ag2
  rw[Qi f] at hH2
  rw[Qi f]
  refine Ak (.not rfl)<|Ah rfl<|Ae<|Ab<|Bb 6 rfl rfl rfl ?_
  exact⟨C2,by rw[Bool.not_not];rfl,hH2,G,up2⟩
def Ko(A:Ar)(r:Int):List It:=rdF A 12 r
theorem Yn{A:Ar}{r:Int}{L:List It}(h:IsH A 10 r L):(Ko A r).Perm L:=Qu (k:=10) (f:=0) h
theorem Zk{σ:Type}(l:Nat)(H:σ→Bool→(Nat→Prop)→World→Prop)(step:σ→It→σ × Bool)(cnt:σ→Nat)(N:Nat)(hc:∀s x,cnt (step s x).1≤cnt s+1)(hT:YT Tryz.prog l It.val It.ok cnt N H step)(A:Ar)(na fa:Option Addr)(nc fc:Nat)(hn:∀x∈A.nodes,x.ok):∀(k:Nat) (r:Int) (L:List It),IsH A k r L→U64 r→PuT l H step cnt N A na fa nc fc r (rdF A (k+2) r)
 |k,r,L,h,hr=>by
  have zero:∀F,PuT l H step cnt N A na fa nc fc 0 (rdF A F 0):=fun F=>by
   rw[AAF (Sc A)];exact AEl l H step cnt N hc hT A na fa nc fc ()
  rcases Jx L with rfl|⟨x,rfl⟩|h2
  ·rw[Jg.1 h];exact zero _
  ·rw[Rd (Jf.1 h)];exact Xc l H step cnt N hc hT A na fa nc fc r hr x (Jf.1 h)
  ·cases k with
   |zero =>
    obtain⟨y,m,q1,q2,_,_,_,_,q6,q7,q8⟩:=Wz ((Jd h2).1 h) h2
    have hyo:=hn _ (Ek q1)
    rw[Rc q1 (by omega)]
    refine Xb l H step cnt N hc hT A na fa nc fc r hr y q1 (by omega) _ fun z hz=>?_
    obtain⟨j,hj⟩:=List.getElem?_of_mem hz
    have hj9:j<9:=Cc hj
    by_cases hjm:j<m.length
    ·obtain⟨x,hx⟩:=Ce (l:=m) hjm
     have h6:=q7 j x hx
     rw[Mf hj] at h6
     rw[Rd h6]
     exact Xc l H step cnt N hc hT A na fa nc fc z (hyo.kids z hz) x h6
    ·have h6:=q8 j (by omega) hj9
     rw[Mf hj] at h6
     rw[h6];exact zero _
   |succ k =>
    obtain⟨y,q1,q2,_,q4,q5⟩:=Yj h h2
    have hyo:=hn _ (Ek q1)
    rw[show k+1+2=(k+2)+1 by omega,Rc q1 (by omega)]
    refine Xb l H step cnt N hc hT A na fa nc fc r hr y q1 (by omega) _ fun z hz=>?_
    obtain⟨j,hj⟩:=List.getElem?_of_mem hz
    have hj9:j<9:=Cc hj
    by_cases hj4:j<4
    ·have h6:=q4 j hj4
     rw[Mf hj] at h6
     exact Zk l H step cnt N hc hT A na fa nc fc hn k z _ h6 (hyo.kids z hz)
    ·have h6:=q5 j (by omega) hj9
     rw[Mf hj] at h6
     rw[h6];exact zero _
theorem ACm{σ:Type}(l:Nat)(H:σ→Bool→(Nat→Prop)→World→Prop)(step:σ→It→σ × Bool)(cnt:σ→Nat)(N:Nat)(hc:∀s x,cnt (step s x).1≤cnt s+1)(hT:YT Tryz.prog l It.val It.ok cnt N H step)(A:Ar)(na fa:Option Addr)(nc fc:Nat)(r:Int)(hr:U64 r)(L:List It)(hL:IsH A 10 r L)(s:σ)(C M:Nat→Prop)(b2 b3:Nat)(w:World)(hN:cnt s+L.length≤N)(hA:Ft M (fun u=>ArR u na fa A) w)(hMC:∀k,M k→¬C k)(hH:Ft C (H s true C) w)
  (h2:Has w b2 [.slice na A.nodes.length nc,.slice fa A.free.length fc] 26) (h3:Has w b3 [.int .u64 r] 31) :
  FC Tryz.prog 112 [.func (.yield l) #[] #[],.pointer (some ⟨b2,0,none⟩),.pointer (some ⟨b3,0,none⟩)] w (fun _ w'=>∃C',Ft C' (H (Dj step s (Ko A r)).1 (Dj step s (Ko A r)).2 C') w'∧Agr C w w'∧Up C w C'):=by
 have hlen:=(Yn hL).length_eq
 refine As Tryz.func112 rfl Tryz.ntmps112 rfl ?_
 refine Aa rfl<|Ak (.loadR ([.slice na A.nodes.length nc,.slice fa A.free.length fc]) Cb rfl h2.row rfl)<|Ba Dm rfl h3 rfl<|Af rfl<|Az rfl AJD (Zk l H step cnt N hc hT A na fa nc fc hA.now.nok 10 r L hL hr s C M w (by show cnt s+(Ko A r).length≤N;omega) hA hMC hH) ?_;rintro _ w1 ⟨C1,rfl,hH1,ag,up⟩;refine Ae ?_
 refine fun a ka=>⟨ka.defers,_,Dg (rs:=[]) (vs:=[]) ka rfl trivial,?_⟩
 exact⟨C1,hH1,ag,up⟩
theorem AEj(A:Ar)(na fa:Option Addr)(nc fc:Nat)(r:Int)(w:World):
  FC Tryz.prog 53 [arV na fa nc fc A,.int .u64 r] w (fun v w'=>∃b2 b3,v=.func (.func 112) #[] #[.pointer (some ⟨b2,0,none⟩),.pointer (some ⟨b3,0,none⟩)]∧Has w' b2 [.slice na A.nodes.length nc,.slice fa A.free.length fc] 26∧Has w' b3 [.int .u64 r] 31∧Sub w w'):=by
 refine As Tryz.func53 rfl Tryz.ntmps53 rfl ?_
 have S:=Ax w
 refine Ac<|Aa rfl<|Bu rfl rfl rfl (fun d e l i a f=>?_);have S:=S.trans f
 have a:Has e d ([.slice na A.nodes.length nc,.slice fa A.free.length fc]) _:=a
 refine Bu rfl rfl rfl (fun g j k h b c=>?_);have S:=S.trans c;have a:=a.sub c;refine Ah rfl<|Ae<|Ab<|Ac<|Aa rfl<|Ak (.func (xs:=[]) (ys:=[_,_]) rfl rfl)<|Ah rfl<|Ae<|Ab<|Bb 4 rfl rfl rfl ?_
 exact⟨d,g,rfl,a,b,S⟩
def AAw(s:List It)(x:It):List It × Bool:=(s++[x],true)
theorem ABB:∀(l s:List It),Dj AAw s l=(s++l,true)
 | [],s=>by rw[List.append_nil];rfl
 |x::l,s=>by rw[ADO rfl,ABB l];simp[AAw]
theorem AD7(s:List It)(x:It):(AAw s x).1.length≤s.length+1:=by simp[AAw]
def HCol(l:Nat)(rL:Loop)(b2 base:Nat)(rows:List It)(b:Bool)(C:Nat→Prop)(W:World):Prop :=
 ∃v,(Lp l (Uu rL 0 b) W∧Has W b2 [v] 42∧Ows base W 51 2 v (rows.map It.cells))∧(∀k,ob v=some k→k≠l∧k≠b2)∧∀k,C k↔(k=l∨k=b2∨ob v=some k)
theorem HCol.ft{l:Nat}{rL:Loop}{b2 base:Nat}{rows:List It}{b:Bool}{C:Nat→Prop}{W:World}{v:Value}(hC:∀k,C k↔(k=l∨k=b2∨ob v=some k))
  (h1:Lp l (Uu rL 0 b) W) (h2:Has W b2 [v] 42) (h5:Ows base W 51 2 v (rows.map It.cells)) (hob:∀k,ob v=some k→k≠l∧k≠b2) :
  Ft C (HCol l rL b2 base rows b C) W:=by
 refine⟨fun k hk=>?_,fun u a=>⟨v,⟨h1.step a (fun hn=>hn ((hC _).2 (.inl rfl))),h2.step a (fun hn=>hn ((hC _).2 (.inr (.inl rfl)))),h5.step a (fun k hk hn=>hn ((hC k).2 (.inr (.inr hk))))⟩,hob,hC⟩⟩
 rcases(hC k).1 hk with rfl|rfl|h
 ·exact h1.lt
 ·exact h2.lt
 ·exact(h5.ge k h).2
theorem AB2(A:Ar)(na fa:Option Addr)(nc fc:Nat)(r:Int)(hr:U64 r)(L:List It)(hTT:IsH A 10 r L)(hl:L.length≤200)(bA bR:Nat)(w:World)(hA:ArR w na fa A)(hbA:Has w bA [.slice na A.nodes.length nc,.slice fa A.free.length fc] 26)(hbR:Has w bR [.int .u64 r] 31):
  FC Tryz.prog 111 [.slice none 0 0,.func (.func 112) #[] #[.pointer (some ⟨bA,0,none⟩),.pointer (some ⟨bR,0,none⟩)]] w (fun v w'=>Sub w w'∧∃a c,v=.slice a ((Ko A r).map It.cells).length c∧Ows w.heap.size w' 51 2 (.slice a ((Ko A r).map It.cells).length c) ((Ko A r).map It.cells)):=by
 refine Zv Tryz.func111 rfl Tryz.ntmps111 rfl ?_
 have S:=Ax w
 refine Ac<|Aa rfl<|Bu rfl rfl rfl (fun B M ac aa b Q=>?_);have S:=S.trans Q;refine Ah rfl<|Ae<|Ab<|Ac<|Ac<|Aa rfl<|Af rfl<|Ae<|Ab<|ABn (cs:=[_,_]) rfl AL1 ?_
 intro rL W1 hst hpe hps hasg hbd hk1 s1 z1 hL hD
 obtain⟨b_D,eD⟩:∃D,D=M.heap.size:=⟨_,rfl⟩
 rw[←eD] at hk1 z1 hL hD ⊢
 obtain⟨b_l,el⟩:∃l,l=b_D+1:=⟨_,rfl⟩
 rw[←el] at hk1 hL ⊢
 have n_D_l:b_D≠b_l:=by omega
 have ge_D:_≤b_D:=Ad S.size (by omega)
 have ge_l:_≤b_l:=Ad S.size (by omega)
 have H:B≠b_D:=fun e=>by have:=b.lt;omega
 have d:B≠b_l:=fun e=>by have:=b.lt;omega
 have S:=S.trans s1;have b:=b.sub s1
 rw[AFo (id:=0) hst hpe] at hL
 have hY:YT Tryz.prog b_l It.val It.ok List.length 200 (HCol b_l rL B w.heap.size) (AAw):=by
  intro s x C W hx hcn hH
  obtain⟨v,⟨hL,b,o⟩,hob,hC⟩:=hH.now
  have szB:w.heap.size≤W.heap.size:=(by have:=hL.lt;omega)
  have G:Agr (fun k=>k=b_l∨k=B∨ob v=some k) W W:=Agr.refl _ _
  refine FY.intro (m:=13) (F:=upd _ (some 7) x.val) [0] hL rfl (by show 1=rL.params.size;rw[hps];rfl) (AFu hps hk1 rfl) ?_
  show RC _ _ rL.assign _ _ _
  rw[hasg]
  refine Aa rfl<|Ay Rv rfl rfl (fun V ab J Z f E=>?_);have q:=hL.ne J;have z:=b.ne J;have t:=o.neNew J;have hL:=hL.sub E;have b:=b.sub E;have o:=o.sub E
  have geG_5:=Gi G J
  have G:=G.trans E.agr;have szB:=Ad szB E.size;refine At Ub rfl rfl rfl f (fun w1 z1 f a1=>?_);have hL:=hL.upd a1 q;have b:=b.upd a1 z;have o:=o.updD a1 t
  have G:=Dv G a1 geG_5
  have szB:=Ad szB a1.size
  have f:Has w1 V (x.cells) _:=f.now (by kernel_rfl)
  refine Ae (ABp hL ?_)
  intro w2 a2 z2 hL
  have b:=b.step a2 (fun e=>d e);have o:=o.step a2 (fun k hk e=>(fun k hk=>(hob k hk).1) k hk e);have G:=G.trans (a2.mono fun k _ e=>.inl e);have szB:=Ad szB a2.size;have f:=f.step a2 (fun e=>q.symm e)
  show RC _ _ rL.body _ _ _
  rw[hbd]
  refine Bh<|Aa rfl<|Ba Qp rfl b rfl<|Ak (.loadR (x.cells) Ub rfl f.row rfl)<|Bi Kx _ Rv rfl rfl rfl rfl rfl rfl rfl (fun X O T K y p=>?_);have b:=b.sub p;have o:=o.sub p;have G:=G.trans p.agr;have szB:=Ad szB p.size;have f:=f.sub p;have hL:=hL.sub p
  have ltb_2_11:=b.lt
  have szG_11:=G.size
  have ltb_5_11:=f.lt
  have ltb_l_11:=hL.lt
  have ltb_10_11:=y.lt
  refine De (base:=w.heap.size) (rows:=s.map It.cells) (news:=[_]) Kx Rv rfl rfl rfl rfl (.inl o) (Dr y) rfl (by intro r hr;rw[List.mem_singleton] at hr;subst hr;rfl) rfl (by(try simp only[Aj,Am,Ag,Al]);omega) (by(try simp only[Aj,Am,Ag,Al]);omega) (by omega) rfl rfl (fun P N hc_11 I n ob_11=>?_)
  have o11:=I (.inl (by simp))
  rw[show _++[_]=((s++[x]).map It.cells) from by rw[List.map_append];rfl] at o11
  have i:=Ng ob_11 (fun k hk=>(hob k hk).2) b.lt;have g:=Ng ob_11 (fun k hk=>(hob k hk).1) hL.lt;have b:=b.step n (fun e=>(fun k hk=>(hob k hk).2) _ e.1 rfl);have G:=G.trans (n.mono fun k _ e=>.inr (.inr e.1));have szB:=Ad szB n.size;have hL:=hL.step n (fun e=>(fun k hk=>(hob k hk).1) _ e.1 rfl)
  obtain⟨Y,U,rfl,R⟩:=o11.form
  refine At Qp rfl rfl rfl b (fun w3 z3 b a3=>?_);have G:=G.trans (a3.mono fun k _ e=>.inr (.inl e));have szB:=Ad szB a3.size;have hL:=hL.upd a3 d.symm;have o11:=o11.updD a3 i;refine Ae (Ur (j:=none) hL ?_)
  intro w4 a4 z4 hL
  have b:=b.step a4 (fun e=>d e);have G:=G.trans (a4.mono fun k _ e=>.inl e);have szB:=Ad szB a4.size;have o11:=o11.step a4 (fun k hk e=>g k hk e)
  -- round end 1
  refine⟨_,rfl,HCol.ft (fun _=>Iff.rfl) hL b o11 (fun k hk=>⟨g k hk,i k hk⟩),G.mono fun k _ e=>(hC k).2 e,fun k hk=>?_⟩
  rcases hk with e|e|e
  ·exact .inl ((hC k).2 (.inl e))
  ·exact .inl ((hC k).2 (.inr (.inl e)))
  ·rcases ob_11 with h|⟨c,h,h3⟩
   ·exact .inl ((hC k).2 (.inr (.inr (h▸e))))
   ·rw[h] at e;cases e;exact .inr (Ad szG_11 h3)
 refine FC.mono (ACm b_l _ _ _ _ AD7 hY A na fa nc fc r hr L hTT [] (fun k=>k=b_l∨k=B∨ob (.slice none 0 0)=some k) (· < w.heap.size) bA bR W1 (by simpa using hl) ((Hm fun u s=>hA.sub s).sub S) (fun k hk e=>by rcases e with e|e|e<;>first|(cases e;done)|omega) (HCol.ft (fun _=>Iff.rfl) hL b (Ows.nil _ _ _ _) (fun k e=>by cases e)) ((hbA.sub S)) ((hbR.sub S))) ?_
 rintro _ W2 ⟨C2,hH,ag,up⟩
 rw[ABB] at hH
 obtain⟨v,⟨hL,b,o⟩,hob,hC⟩:=hH.now
 have hDC:¬(b_D=b_l∨b_D=B∨ob (.slice none 0 0)=some b_D):=(fun e=>by rcases e with e|e|e<;>first|(cases e;done)|omega)
 have S:=S.agrN ag (fun k e=>by rcases e with e|e|e<;>first|(cases e;done)|omega)
 have hDn:¬C2 b_D:=up.not hD.lt hDC
 have hD:=hD.step ag hDC
 have hoD:∀k,ob v=some k→k≠b_D:=fun k hk e=>hDn (e▸(hC k).2 (.inr (.inr hk)))
 obtain⟨a1,c1,rfl,_⟩:=o.form
 refine⟨_,hL,ADM,fun W3 a3 z3=>.inl ⟨ADL,ABq ?_⟩⟩
 have S:=S.agrN a3 (fun k e=>e▸ge_l)
 have o:=o.step a3 (fun k hk e=>(fun k hk=>(hob k hk).1) k hk e);have b:=b.step a3 (fun e=>d e);have hD:=hD.step a3 (fun e=>n_D_l e);refine Ac<|Aa rfl<|Ba Qp rfl b rfl<|Ah rfl<|Ae<|Ab<|ABo (rs:=[.tmp 4]) (vs:=[_]) rfl rfl (fun _=>⟨rfl,trivial⟩) hD (fun w5 a5 z5=>?_)
 have S:=S.agrN a5 (fun k e=>e▸ge_D)
 have o:=o.step a5 (fun k hk e=>hoD k hk e)
 exact⟨S,a1,c1,rfl,o⟩
theorem AEt(A:Ar)(na fa:Option Addr)(nc fc:Nat)(r:Int)(hr:U64 r)(L:List It)(hL:IsH A 10 r L)(hl:L.length≤200)(bA bR:Nat)(w:World)(hA:ArR w na fa A)(hbA:Has w bA [.slice na A.nodes.length nc,.slice fa A.free.length fc] 26)(hbR:Has w bR [.int .u64 r] 31):
  FC Tryz.prog 52 [.func (.func 112) #[] #[.pointer (some ⟨bA,0,none⟩),.pointer (some ⟨bR,0,none⟩)]] w (fun v w'=>Sub w w'∧∃a c,v=.slice a ((Ko A r).map It.cells).length c∧Ows w.heap.size w' 51 2 (.slice a ((Ko A r).map It.cells).length c) ((Ko A r).map It.cells)):=by
 refine As Tryz.func52 rfl Tryz.ntmps52 rfl ?_
 have S:=Ax w
 refine Ac<|Aa rfl<|Ah rfl<|Ae<|Ab<|Ac<|Aa rfl<|Af rfl<|Az rfl AL2 (AB2 A na fa nc fc r hr L hL hl bA bR w (hA.sub S) (hbA.sub S) (hbR.sub S)) ?_;rintro _ w1 ⟨s2,a1,c1,rfl,o⟩
 have o:=o.low S.size
 have S:=S.trans s2;refine Ah rfl<|Ae<|Ab<|Bb 2 rfl rfl rfl ?_
 exact⟨S,a1,c1,rfl,o⟩
def Jk(g v s a b:Int):Node:=⟨5,g,0,v,s,a,b,0,0,0,0,0,0,0,0,0⟩
inductive IsR (A:Ar):Int→List Int→List Int→Prop
 |nil:IsR A 0 [] []
 |node {r g v a b:Int} {L R P Q:List Int}:Ch A r=some (Jk g v ((L.length:Int)+R.length+1) a b)→IsR A a L P→IsR A b R Q→(Bk r::(P++Q)).Nodup→IsR A r (L++v::R) (Bk r::(P++Q))
section
variable {A B:Ar} {r:Int} {V P:List Int}
theorem Oi(A:Ar):Ch A 0=none:=by
 cases h:Ch A 0 with
 |none=>rfl
 |some x =>
  have h2:=(Gb h).1
  rw[Wj (fun hn:Hu 0=>by have:=(Yt 0).1 hn;exact this.1 rfl)] at h2
  omega
theorem IsR.zero(h:IsR A 0 V P):V=[]∧P=[]:=by
 cases h with
 |nil=>exact⟨rfl,rfl⟩
 |node h1=>rw[Oi] at h1;cases h1
theorem IsR.unique(h:IsR A r V P):∀ {V' P':List Int},IsR A r V' P'→V'=V∧P'=P:=by
 induction h with
 |nil=>intro V' P' h;exact h.zero
 | @node r g v a b L R P Q h1 h2 h3 h4 ih1 ih2 =>
  intro V' P' h
  cases h with
  |nil=>rw[Oi] at h1;cases h1
  |node k1 k2 k3 k4 =>
   rw[h1] at k1
   simp only[Option.some.injEq,Jk,Node.mk.injEq] at k1
   obtain⟨_,_,_,e1,_,e2,e3,_⟩:=k1
   subst e2 e3
   obtain⟨rfl,rfl⟩:=ih1 k2
   obtain⟨rfl,rfl⟩:=ih2 k3
   rw[e1]
   exact⟨rfl,rfl⟩
theorem IsR.len(h:IsR A r V P):P.length=V.length:=by
 induction h with
 |nil=>rfl
 |node _ _ _ _ ih1 ih2=>simp only[Al,Ag,ih1,ih2];omega
theorem IsR.nodup(h:IsR A r V P):P.Nodup:=by
 cases h with
 |nil=>exact List.nodup_nil
 |node _ _ _ h=>exact h
theorem IsR.ext(h:IsR A r V P)(e:Ext A B):IsR B r V P:=by
 induction h with
 |nil=>exact .nil
 |node h1 _ _ h4 ih1 ih2=>exact .node (e.get h1) ih1 ih2 h4
theorem IsR.rng(h:IsR A r V P):∀p∈P,0≤p∧p<A.nodes.length:=by
 induction h with
 |nil=>intro p hp;cases hp
 |node h1 _ _ _ ih1 ih2 =>
  intro p hp
  rcases List.mem_cons.1 hp with rfl|hp
  ·exact Gb h1
  ·exact(List.mem_append.1 hp).elim (ih1 p) (ih2 p)
theorem IsR.used(h:IsR A r V P)(hA:AOk A):∀p∈P,¬p∈A.free:=by
 induction h with
 |nil=>intro p hp;cases hp
 |node h1 _ _ _ ih1 ih2 =>
  intro p hp
  rcases List.mem_cons.1 hp with rfl|hp
  ·exact AEc hA h1
  ·exact(List.mem_append.1 hp).elim (ih1 p) (ih2 p)
theorem IsR.right(h:IsR A r V P):Ff r=true:=by
 cases h with
 |nil=>exact(Ib 0).2 (.inl rfl)
 |node h1 =>
  have h2:=(Gb h1).1
  refine Classical.byContradiction fun e=>?_
  rw[Wj (fun hn:Hu r=>e hn.2)] at h2
  omega
theorem IsR.size(h:IsR A r V P):Ey A r=V.length:=by
 cases h with
 |nil=>unfold Ey;rw[Oi];rfl
 |node h1=>unfold Ey;rw[h1];simp only[Jk,Ag,Al];omega
theorem IsR.ne(h:IsR A r V P)(hr:¬r=0):∃(x:Node) (L R P1 P2:List Int),V=L++x.v::R∧P=Bk r::(P1++P2)∧Ch A r=some x∧x=Jk x.gen x.v ((L.length:Int)+R.length+1) x.k0 x.k1∧IsR A x.k0 L P1∧IsR A x.k1 R P2∧(Bk r::(P1++P2)).Nodup:=by
 cases h with
 |nil=>exact absurd rfl hr
 |node h1 h2 h3 h4=>exact⟨_,_,_,_,_,rfl,rfl,h1,rfl,h2,h3,h4⟩
theorem IsR.pos(h:IsR A r V P)(hr:¬r=0):0<V.length:=by
 obtain⟨x,L,R,P1,P2,rfl,_⟩:=h.ne hr
 simp only[Ag,Al];omega
end
def Nl(y:Node):Node:=⟨y.kind,y.gen,0,y.v,y.s,y.k0,y.k1,0,0,0,0,0,0,0,0,0⟩
theorem AEI{y:Node}(h:y.kind=5):Nl y=y↔y=Jk y.gen y.v y.s y.k0 y.k1:=by
 unfold Nl Jk;rw[h];exact eq_comm
def Em(A:Ar):Nat→Int→List Bool→Int→Int × List Bool
 |0,r,seen,_=>(if r=0 then 0 else -1,seen)
 |k+1,r,seen,left =>
  if r=0 then(0,seen) else match Ch A r with
  |none=>(-1,seen)
  |some y =>
   if left≤0∨¬y.kind=5∨seen.getD (Bk r).toNat false=true then(-1,seen) else
   if(Em A k y.k0 (seen.set (Bk r).toNat true) (left-1)).1<0∨¬Nl y=y then(-1,(Em A k y.k0 (seen.set (Bk r).toNat true) (left-1)).2) else
   if(Em A k y.k1 (Em A k y.k0 (seen.set (Bk r).toNat true) (left-1)).2 (left-1-(Em A k y.k0 (seen.set (Bk r).toNat true) (left-1)).1)).1<0 ∨
    ¬(Em A k y.k0 (seen.set (Bk r).toNat true) (left-1)).1+(Em A k y.k1 (Em A k y.k0 (seen.set (Bk r).toNat true) (left-1)).2 (left-1-(Em A k y.k0 (seen.set (Bk r).toNat true) (left-1)).1)).1+1=y.s
   then(-1,(Em A k y.k1 (Em A k y.k0 (seen.set (Bk r).toNat true) (left-1)).2 (left-1-(Em A k y.k0 (seen.set (Bk r).toNat true) (left-1)).1)).2)
   else((Em A k y.k0 (seen.set (Bk r).toNat true) (left-1)).1+(Em A k y.k1 (Em A k y.k0 (seen.set (Bk r).toNat true) (left-1)).2 (left-1-(Em A k y.k0 (seen.set (Bk r).toNat true) (left-1)).1)).1+1,
    (Em A k y.k1 (Em A k y.k0 (seen.set (Bk r).toNat true) (left-1)).2 (left-1-(Em A k y.k0 (seen.set (Bk r).toNat true) (left-1)).1)).2)
section
variable {A:Ar} {k:Nat} {r left:Int} {seen:List Bool} {y:Node}
theorem ACJ(A:Ar)(k:Nat)(seen:List Bool)(left:Int):Em A k 0 seen left=(0,seen):=by cases k<;>simp[Em]
theorem AAY(h0:¬r=0)(h:Ch A r=none):Em A (k+1) r seen left=(-1,seen):=by rw[Em,if_neg h0,h]
theorem Nv(h0:¬r=0)(h:Ch A r=some y)(hc:left≤0∨¬y.kind=5∨seen.getD (Bk r).toNat false=true):Em A (k+1) r seen left=(-1,seen):=by rw[Em,if_neg h0,h];exact if_pos hc
theorem Oy{m1:Int × List Bool}(h0:¬r=0)(h:Ch A r=some y)(hc:¬(left≤0∨¬y.kind=5∨seen.getD (Bk r).toNat false=true))(hm:Em A k y.k0 (seen.set (Bk r).toNat true) (left-1)=m1)(h2:m1.1<0∨¬Nl y=y):
  Em A (k+1) r seen left=(-1,m1.2):=by
 rw[Em,if_neg h0,h];simp only[];rw[if_neg hc,hm,if_pos h2]
theorem Ox{m1 m2:Int × List Bool}(h0:¬r=0)(h:Ch A r=some y)(hc:¬(left≤0∨¬y.kind=5∨seen.getD (Bk r).toNat false=true))(hm:Em A k y.k0 (seen.set (Bk r).toNat true) (left-1)=m1)(h2:¬(m1.1<0∨¬Nl y=y))
  (hm2:Em A k y.k1 m1.2 (left-1-m1.1)=m2) (h3:m2.1<0∨¬m1.1+m2.1+1=y.s):Em A (k+1) r seen left=(-1,m2.2):=by
 rw[Em,if_neg h0,h];simp only[];rw[if_neg hc,hm,if_neg h2,hm2,if_pos h3]
theorem Ss{m1 m2:Int × List Bool}(h0:¬r=0)(h:Ch A r=some y)(hc:¬(left≤0∨¬y.kind=5∨seen.getD (Bk r).toNat false=true))(hm:Em A k y.k0 (seen.set (Bk r).toNat true) (left-1)=m1)(h2:¬(m1.1<0∨¬Nl y=y))
  (hm2:Em A k y.k1 m1.2 (left-1-m1.1)=m2) (h3:¬(m2.1<0∨¬m1.1+m2.1+1=y.s)):Em A (k+1) r seen left=(m1.1+m2.1+1,m2.2):=by
 rw[Em,if_neg h0,h];simp only[];rw[if_neg hc,hm,if_neg h2,hm2,if_neg h3]
end
def Hp(seen:List Bool)(P:List Int):List Bool:=P.foldl (fun s p=>s.set p.toNat true) seen
theorem We:∀(P:List Int) (seen:List Bool),(Hp seen P).length=seen.length
 | [],_=>rfl
 |p::P,seen=>by rw[Hp,List.foldl_cons];exact(We P _).trans (List.length_set)
theorem ACW(seen:List Bool)(P Q:List Int):Hp seen (P++Q)=Hp (Hp seen P) Q:=List.foldl_append
theorem Uh{seen:List Bool}{i j:Nat}(h:i≠j):(seen.set i true).getD j false=seen.getD j false:=by
 rw[List.getD_eq_getElem?_getD,List.getD_eq_getElem?_getD,List.getElem?_set_ne h]
theorem AAV{seen:List Bool}{i:Nat}(h:i<seen.length):(seen.set i true).getD i false=true:=by
 rw[List.getD_eq_getElem?_getD,List.getElem?_set_self h];rfl
theorem Iq:∀(P:List Int) (seen:List Bool) (q:Int),0≤q→(∀p∈P,0≤p)→¬q∈P→(Hp seen P).getD q.toNat false=seen.getD q.toNat false
 | [],_,_,_,_,_=>rfl
 |p::P,seen,q,hq,hp,hn=>by
  rw[Hp,List.foldl_cons]
  have h1:=hp p List.mem_cons_self
  have hne:p.toNat≠q.toNat:=fun e=>hn (by rw[show q=p by omega];exact List.mem_cons_self)
  rw[←Uh (seen:=seen) hne]
  exact Iq P _ q hq (fun x hx=>hp x (List.mem_cons_of_mem _ hx)) (fun h=>hn (List.mem_cons_of_mem _ h))
theorem Yl:∀(P:List Int) (seen:List Bool) (q:Int),(∀p∈P,0≤p∧p<seen.length)→q∈P→(Hp seen P).getD q.toNat false=true
 | [],_,_,_,h=>by cases h
 |p::P,seen,q,hp,h=>by
  rw[Hp,List.foldl_cons]
  have h1:=hp p List.mem_cons_self
  by_cases hq:q∈P
  ·exact Yl P _ q (fun x hx=>by rw[List.length_set];exact hp x (List.mem_cons_of_mem _ hx)) hq
  ·rcases List.mem_cons.1 h with e|h
   ·subst e
    exact(Iq P _ q h1.1 (fun x hx=>(hp x (List.mem_cons_of_mem _ hx)).1) hq).trans (AAV (by omega))
   ·exact absurd h hq
theorem Vq{A:Ar}{r:Int}{V P:List Int}(h:IsR A r V P):∀(k:Nat) (seen:List Bool) (left:Int),(P.length:Int)≤left→left<k→(∀p∈P,seen.getD p.toNat false=false)→Em A k r seen left=((P.length:Int),Hp seen P):=by
 induction h with
 |nil=>intro k seen left _ _ _;rw[ACJ];rfl
 | @node r g v a b L R P Q h1 h2 h3 h4 ih1 ih2 =>
  intro k seen left hl hk hs
  simp only[Al,Ag] at hl
  obtain⟨k,rfl⟩:∃k',k=k'+1:=⟨k-1,by omega⟩
  have h0:¬r=0:=fun e=>by rw[e,Oi] at h1;cases h1
  obtain⟨hn1,hn2⟩:=List.nodup_cons.1 h4
  obtain⟨hnP,hnQ,hPQ⟩:=List.nodup_append.1 hn2
  have hat:=Gb h1
  have hP:=h2.rng
  have hQ:=h3.rng
  have hs1:∀p∈P++Q,(seen.set (Bk r).toNat true).getD p.toNat false=false:=by
   intro p hp
   have hp0:0≤p:=((List.mem_append.1 hp).elim (fun h=>(hP p h).1) (fun h=>(hQ p h).1))
   rw[Uh (fun e=>hn1 (by rw[show Bk r=p by omega];exact hp))]
   exact hs p (List.mem_cons_of_mem _ hp)
  have e1:=ih1 k (seen.set (Bk r).toNat true) (left-1) (by omega) (by omega) (fun p hp=>hs1 p (List.mem_append_left _ hp))
  have e2:=ih2 k (Hp (seen.set (Bk r).toNat true) P) (left-1-P.length) (by omega) (by omega) (fun q hq=>by
   rw[Iq P _ q (hQ q hq).1 (fun p hp=>(hP p hp).1) (fun hqp=>hPQ q hqp q hq rfl)]
   exact hs1 q (List.mem_append_right _ hq))
  have hl1:=h2.len
  have hl2:=h3.len
  rw[Ss h0 h1 (fun hc=>by
   rcases hc with hc|hc|hc
   ·omega
   ·exact hc rfl
   ·rw[hs _ List.mem_cons_self] at hc;cases hc) e1 (fun hc=>hc.elim (fun h=>by simp only[] at h;omega) (fun h=>h rfl)) e2 (fun hc=>by
    simp only[Jk] at hc
    omega)]
  simp only[Al,Ag,Prod.mk.injEq]
  refine⟨by omega,?_⟩
  show Hp (Hp (seen.set (Bk r).toNat true) P) Q=Hp seen (Bk r::(P++Q))
  rw[←ACW];rfl
theorem AAZ{A:Ar}:∀(k:Nat) (r:Int) (seen:List Bool) (left:Int),0≤left→left<k→A.nodes.length≤seen.length→0≤(Em A k r seen left).1→∃V P,IsR A r V P∧(P.length:Int)≤left∧∀p∈P,seen.getD p.toNat false=false
 |0,_,_,_,h1,h2,_,_=>absurd h1 (by omega)
 |k+1,r,seen,left,h1,h2,hlen,h=>by
  by_cases h0:r=0
  ·subst h0;exact⟨[],[],.nil,h1,by simp⟩
  ·cases hg:Ch A r with
   |none=>rw[AAY h0 hg] at h;exact absurd h (show¬(0:Int) ≤ -1 by decide)
   |some y =>
    by_cases hc:left≤0∨¬y.kind=5∨seen.getD (Bk r).toNat false=true
    ·rw[Nv h0 hg hc] at h;exact absurd h (show¬(0:Int) ≤ -1 by decide)
    ·obtain⟨m1,hm1⟩:∃m,Em A k y.k0 (seen.set (Bk r).toNat true) (left-1)=m:=⟨_,rfl⟩
     by_cases hc2:m1.1<0∨¬Nl y=y
     ·rw[Oy h0 hg hc hm1 hc2] at h;exact absurd h (show¬(0:Int) ≤ -1 by decide)
     ·have hat:=Gb hg
      have hm0:0≤m1.1:=Int.not_lt.1 fun e=>hc2 (.inl e)
      have hbare:Nl y=y:=Classical.not_not.1 fun e=>hc2 (.inr e)
      have hl0:¬left≤0:=fun e=>hc (.inl e)
      have hkind:y.kind=5:=Classical.not_not.1 fun e=>hc (.inr (.inl e))
      have hun:seen.getD (Bk r).toNat false=false:=by
       cases hq:seen.getD (Bk r).toNat false with
       |false=>rfl
       |true=>exact absurd (.inr (.inr hq)) hc
      obtain⟨L,P,hL,hPl,hPs⟩:=AAZ k y.k0 (seen.set (Bk r).toNat true) (left-1) (by omega) (by omega) (by rw[List.length_set];exact hlen) (by rw[hm1];exact hm0)
      have e1:=Vq hL k (seen.set (Bk r).toNat true) (left-1) hPl (by omega) hPs
      rw[hm1] at e1
      subst e1
      simp only[] at hm0 hc2
      obtain⟨m2,hm2⟩:∃m,Em A k y.k1 (Hp (seen.set (Bk r).toNat true) P) (left-1-(P.length:Int))=m:=⟨_,rfl⟩
      by_cases hc3:m2.1<0∨¬(P.length:Int)+m2.1+1=y.s
      ·rw[Ox h0 hg hc hm1 hc2 hm2 hc3] at h;exact absurd h (show¬(0:Int) ≤ -1 by decide)
      ·have hm0':0≤m2.1:=Int.not_lt.1 fun e=>hc3 (.inl e)
       have hsum:(P.length:Int)+m2.1+1=y.s:=Classical.not_not.1 fun e=>hc3 (.inr e)
       obtain⟨R,Q,hR,hQl,hQs⟩:=AAZ k y.k1 (Hp (seen.set (Bk r).toNat true) P) (left-1-(P.length:Int)) (by omega) (by omega) (by rw[We,List.length_set];exact hlen) (by rw[hm2];exact hm0')
       have e2:=Vq hR k _ _ hQl (by omega) hQs
       rw[hm2] at e2
       subst e2
       simp only[] at hsum
       have hP:=hL.rng
       have hQ:=hR.rng
       have hatP:¬Bk r∈P:=fun hin=>by
        have:=hPs _ hin
        rw[AAV (by omega)] at this;cases this
       have hPQ:∀q∈Q,¬q∈P:=fun q hq hqp=>by
        have:=hQs q hq
        rw[Yl P _ q (fun p hp=>by rw[List.length_set];have:=hP p hp;omega) hqp] at this;cases this
       have hatQ:¬Bk r∈Q:=fun hin=>by
        have:=hQs _ hin
        rw[Iq P _ _ hat.1 (fun p hp=>(hP p hp).1) hatP,AAV (by omega)] at this;cases this
       have hy:=(AEI hkind).1 hbare
       have hl1:=hL.len
       have hl2:=hR.len
       refine⟨_,_,.node (g:=y.gen) (v:=y.v) (a:=y.k0) (b:=y.k1) (by rw[hg,hy,←hsum];simp only[Jk,hl1,hl2]) hL hR ?_,?_,?_⟩
       ·refine List.nodup_cons.2 ⟨fun hin=>(List.mem_append.1 hin).elim hatP hatQ,List.nodup_append.2 ⟨hL.nodup,hR.nodup,fun p hp q hq e=>hPQ q hq (e▸hp)⟩⟩
       ·simp only[Al,Ag];omega
       ·intro p hp
        rcases List.mem_cons.1 hp with rfl|hp
        ·exact hun
        ·rcases List.mem_append.1 hp with hp|hp
         ·have:=hPs p hp
          rwa [Uh (fun e=>hatP (by rw[show Bk r=p by have:=hP p hp;omega];exact hp))] at this
         ·have:=hQs p hp
          rw[Iq P _ p (hQ p hp).1 (fun x hx=>(hP x hx).1) (hPQ p hp)] at this
          rwa [Uh (fun e=>hatQ (by rw[show Bk r=p by have:=hQ p hp;omega];exact hp))] at this
def isRow(A:Ar)(r:Int):Prop:=AOk A∧∃V P,IsR A r V P∧V.length≤200
theorem Yx{A:Ar}{r:Int}(hA:AOk A):0≤(Em A 201 r (List.replicate A.nodes.length false) 200).1↔isRow A r:=by
 constructor
 ·intro h
  obtain⟨V,P,h1,h2,_⟩:=AAZ 201 r _ 200 (by decide) (by decide) (by rw[List.length_replicate];exact Nat.le_refl _) h
  exact⟨hA,V,P,h1,by have:=h1.len;omega⟩
 ·rintro⟨_,V,P,h1,h2⟩
  rw[Vq h1 201 _ 200 (by have:=h1.len;omega) (by decide) (fun p hp=>by rw[List.getD_eq_getElem?_getD,List.getElem?_replicate];split<;>rfl)]
  exact Int.natCast_nonneg _
noncomputable def isRowB (A:Ar) (r:Int):Bool:=@decide (isRow A r) (Classical.propDecidable _)
theorem Kk(A:Ar)(r:Int):isRowB A r=true↔isRow A r:=by unfold isRowB;exact @decide_eq_true_iff _ (Classical.propDecidable _)
theorem Qj{A:Ar}{r:Int}(h:isRow A r):isRowB A r=true:=(Kk A r).2 h
theorem AEU{A:Ar}{r:Int}(h:¬isRow A r):isRowB A r=false:=by rw[Bool.eq_false_iff];exact fun e=>h ((Kk A r).1 e)
def p0:Ph:=⟨none,0,none,0,none,0,none,0⟩
def m0:Mo:=⟨[],[],[],[]⟩
theorem AKn:MoS p0 m0:=⟨Nat.le_refl _,Nat.le_refl _,Nat.le_refl _,Nat.le_refl _,Nat.zero_le _,Nat.zero_le _,Nat.zero_le _,Nat.zero_le _⟩
theorem ADv(p:Ph)(m:Mo)(hs:MoS p m)(q:Ph)(n:Mo)(ht:MoS q n)(w:World)(hm:MoR w p m)(hn:MoR w q n):
  FC Tryz.prog 42 [moV p m,moV q n] w (Val (.bool (decide (m.map=n.map∧m.tab=n.tab∧m.row=n.row∧m.heap=n.heap))) w):=by
 have l1:=hs.l1
 have l2:=hs.l2
 have l3:=hs.l3
 have l4:=hs.l4
 refine As Tryz.func42 rfl Tryz.ntmps42 rfl ?_
 have S:=Ax w
 refine Ac<|Aa rfl<|Bu rfl rfl rfl (fun j f r l a g=>?_);have S:=S.trans g
 have a:Has f j ([.slice p.a1 m.map.length p.c1,.slice p.a2 m.tab.length p.c2,.slice p.a3 m.row.length p.c3,.slice p.a4 m.heap.length p.c4]) _:=a
 refine Bu rfl rfl rfl (fun i c o k b d=>?_);have S:=S.trans d;have a:=a.sub d
 have b:Has c i ([.slice q.a1 n.map.length q.c1,.slice q.a2 n.tab.length q.c2,.slice q.a3 n.row.length q.c3,.slice q.a4 n.heap.length q.c4]) _:=b
 refine Ah rfl<|Ae<|Ab<|Ac<|Aa rfl<|Av AF2 rfl<|Ba Qp rfl a rfl<|Av AF2 rfl<|Ba Qp rfl b rfl<|Az rfl AJZ (AAg m.map n.map p.a1 q.a1 p.c1 q.c1 _ _ rfl rfl c (hm.sub S).h1 (hn.sub S).h1 (by omega)) ?_;rintro _ w1 ⟨rfl,s2⟩;have S:=S.trans s2;have a:=a.sub s2;have b:=b.sub s2;refine Af rfl<|Bn 10 rfl (fun h3=>?_) (fun h3=>?_)
 ·
  have g10:m.map=n.map:=h3
  refine Av AF1 rfl<|Ba Qp rfl a rfl<|Av AF1 rfl<|Ba Qp rfl b rfl<|Az rfl AJZ (AAg m.tab n.tab p.a2 q.a2 p.c2 q.c2 _ _ rfl rfl w1 (hm.sub S).h2 (hn.sub S).h2 (by omega)) ?_;rintro _ w4 ⟨rfl,s5⟩;have S:=S.trans s5;have a:=a.sub s5;have b:=b.sub s5;refine Br rfl rfl<|Af rfl<|Bn 17 rfl (fun h6=>?_) (fun h6=>?_)
  ·
   have g17:m.tab=n.tab:=h6
   refine Av AF0 rfl<|Ba AE9 rfl a rfl<|Av AF0 rfl<|Ba AE9 rfl b rfl<|Az rfl AMT (AEr m.row n.row p.a3 q.a3 p.c3 q.c3 _ _ rfl rfl w4 (hm.sub S).h3 (hn.sub S).h3 (by omega)) ?_;rintro _ w7 ⟨rfl,s8⟩;have S:=S.trans s8;have a:=a.sub s8;have b:=b.sub s8;refine Br rfl rfl<|Af rfl<|Bn 24 rfl (fun h9=>?_) (fun h9=>?_)
   ·
    have g24:m.row=n.row:=h9
    refine Av AFz rfl<|Ba Qp rfl a rfl<|Av AFz rfl<|Ba Qp rfl b rfl<|Az rfl AJZ (AAg m.heap n.heap p.a4 q.a4 p.c4 q.c4 _ _ rfl rfl w7 (hm.sub S).h4 (hn.sub S).h4 (by omega)) ?_;rintro _ w10 ⟨rfl,s11⟩;have S:=S.trans s11;refine Br rfl rfl<|Ah rfl<|Ae<|Ab<|Bb 4 rfl rfl rfl ?_
    refine⟨congrArg Value.bool ?_,S⟩
    first|exact(decide_eq_false (fun e=>g10 e.1)).symm|exact(decide_eq_false (fun e=>g17 e.2.1)).symm|exact(decide_eq_false (fun e=>g24 e.2.2.1)).symm|exact decide_eq_decide.2 ⟨fun h=>⟨g10,g17,g24,h⟩,fun h=>h.2.2.2⟩
   ·
    have g24:¬m.row=n.row:=h9
    refine Bd 5 rfl<|Bq rfl rfl<|Ah rfl<|Ae<|Ab<|Bb 4 rfl rfl rfl ?_
    refine⟨congrArg Value.bool ?_,S⟩
    first|exact(decide_eq_false (fun e=>g10 e.1)).symm|exact(decide_eq_false (fun e=>g17 e.2.1)).symm|exact(decide_eq_false (fun e=>g24 e.2.2.1)).symm|exact decide_eq_decide.2 ⟨fun h=>⟨g10,g17,g24,h⟩,fun h=>h.2.2.2⟩
  ·
   have g17:¬m.tab=n.tab:=h6
   refine Bd 5 rfl<|Bq rfl rfl<|Af rfl<|Bd 5 rfl<|Bq rfl rfl<|Ah rfl<|Ae<|Ab<|Bb 4 rfl rfl rfl ?_
   refine⟨congrArg Value.bool ?_,S⟩
   first|exact(decide_eq_false (fun e=>g10 e.1)).symm|exact(decide_eq_false (fun e=>g17 e.2.1)).symm|exact(decide_eq_false (fun e=>g24 e.2.2.1)).symm|exact decide_eq_decide.2 ⟨fun h=>⟨g10,g17,g24,h⟩,fun h=>h.2.2.2⟩
 ·
  have g10:¬m.map=n.map:=h3
  refine Bd 5 rfl<|Bq rfl rfl<|Af rfl<|Bd 5 rfl<|Bq rfl rfl<|Af rfl<|Bd 5 rfl<|Bq rfl rfl<|Ah rfl<|Ae<|Ab<|Bb 4 rfl rfl rfl ?_
  refine⟨congrArg Value.bool ?_,S⟩
  first|exact(decide_eq_false (fun e=>g10 e.1)).symm|exact(decide_eq_false (fun e=>g17 e.2.1)).symm|exact(decide_eq_false (fun e=>g24 e.2.2.1)).symm|exact decide_eq_decide.2 ⟨fun h=>⟨g10,g17,g24,h⟩,fun h=>h.2.2.2⟩
def Yf(x:It):Prop := -1073741824≤x.k∧x.k≤1073741824
def AMp(l:List It):Prop:=l.Pairwise fun x y=>¬Fu y x
structure IsC (A:Ar) (R:Rt) (m:Mo):Prop where
 ok:AOk A
 map:IsT A R.m m.map
 mapl:m.map.length≤200
 tab:∃T,IsH A 10 R.t T∧Ap T∧T.length≤200∧m.tab.Perm T
 tabs:Srt m.tab
 row:∃P,IsR A R.r m.row P
 rowl:m.row.length≤200
 heap:∃P L,IsP A R.h P L∧m.heap.Perm L
 heaps:AMp m.heap
 keys:∀x∈m.map++(m.tab++m.heap),Yf x
theorem IsC.isMap{A R m}(h:IsC A R m):isMap A R.m:=⟨h.ok,m.map,h.map,h.mapl⟩
theorem IsC.isTab{A R m}(h:IsC A R m):isTab A R.t:=let ⟨T,h1,h2,h3,_⟩:=h.tab;⟨h.ok,T,h1,h2,h3⟩
theorem IsC.isRow{A R m}(h:IsC A R m):isRow A R.r:=let ⟨P,h1⟩:=h.row;⟨h.ok,m.row,P,h1,h.rowl⟩
theorem AA4:∀ {l m:List It},Srt l→Srt m→l.Perm m→l=m
 | [],m,_,_,h=>(List.nil_perm.1 h).symm
 |x::l,[],_,_,h=>absurd h.length_eq (by simp)
 |x::l,y::m,h1,h2,h=>by
  have q1:=List.pairwise_cons.1 h1
  have q2:=List.pairwise_cons.1 h2
  have e:x=y:=by
   have hx:x∈y::m:=h.mem_iff.1 (by simp)
   have hy:y∈x::l:=h.mem_iff.2 (by simp)
   rcases List.mem_cons.1 hx with e|hx
   ·exact e
   ·rcases List.mem_cons.1 hy with e|hy
    ·exact e.symm
    ·have:=q1.1 y hy
     have:=q2.1 x hx
     omega
  subst e
  rw[AA4 q1.2 q2.2 h.cons_inv]
theorem IsC.zero{A:Ar}(h:AOk A):IsC A rt0 m0 :=
 ⟨h,.nil,by decide,⟨[],Jg.2 rfl,List.Pairwise.nil,by decide,.nil⟩,List.Pairwise.nil,⟨[],.nil⟩,by decide,⟨[],[],IsP.zero A,.nil⟩,List.Pairwise.nil,fun x hx=>by cases hx⟩
def szW(A:Ar)(a b:Int):Int:=IntKind.i64.wrap (IntKind.i64.wrap (1+Ey A a)+Ey A b)
def wN(A:Ar)(v a b:Int):Node:=Jk 0 v (szW A a b) a b
theorem AJk{A:Ar}{v a b:Int}(hA:AOk A)(h1:Ff a=true)(h2:Ff b=true):Ez A (wN A v a b):=by
 refine⟨hA,(by decide:(1:Int)≤5),(by decide:(5:Int)≤100),?_⟩
 have h3:Ff 0=true:=(Ib 0).2 (.inl rfl)
 rw[Ga]
 refine⟨by simp[x0,wN,Jk],?_⟩
 simp[x0,wN,Jk,Node.kids,h1,h2,h3]
structure Gr (n:Nat) (s s':St):Prop where
 gs:Gs n s s'
 fr:Fr s.1 s'.1
theorem Gr.refl{s:St}(h:AOk s.1):Gr 0 s s:=⟨Gs.refl h,fun _ h=>h⟩
theorem Gr.mono{n m:Nat}{s s':St}(h:Gr n s s')(hn:n≤m):Gr m s s':=⟨h.gs.mono hn,h.fr⟩
theorem Gr.trans{n m:Nat}{a b c:St}(h:Gr n a b)(k:Gr m b c):Gr (n+m) a c:=⟨h.gs.trans k.gs,fun p hp=>h.fr p (k.fr p hp)⟩
theorem Om{s s':St}{v a b r:Int}(h:MkX s (wN s.1 v a b) s' r)(hA:AOk s.1)(hr:s.2=0→Ff a=true∧Ff b=true):Gr 1 s s' :=
 ⟨h.gs hA (fun h0=>AJk hA (hr h0).1 (hr h0).2),h.fr⟩
section
variable {A0:Ar} {s s1 s2:St} {v a b r r1 r2 r3:Int} {V L R P Q P1 P2:List Int}
theorem Vg(hm:MkX s (wN s.1 v a b) s1 r)(hA:AOk s.1)(h0:s1.2=0)(ha:IsR s.1 a L P)(hb:IsR s.1 b R Q)(hd:∀p∈P,¬p∈Q)(hl:L.length+R.length≤1000000):
  IsR s1.1 r (L++v::R) (Bk r::(P++Q))∧Bk r∈s.1.free∧¬Bk r∈s1.1.free:=by
 obtain⟨h1,hmay,hf,hg,hE⟩:=hm.get h0
 obtain⟨hp1,hp2⟩:=hm.place h0
 refine⟨.node (g:=Ln s.1 (En s.1)) (a:=a) (b:=b) ?_ (ha.ext hE) (hb.ext hE) ?_,hp1,hp2⟩
 ·rw[hg]
  have hz:szW s.1 a b=(L.length:Int)+R.length+1:=by
   unfold szW
   rw[ha.size,hb.size]
   have e1:IntKind.i64.wrap (1+(L.length:Int))=1+L.length:=wrap_i64 (by omega)
   have e2:IntKind.i64.wrap (1+(L.length:Int)+R.length)=1+L.length+R.length:=wrap_i64 (by omega)
   rw[e1,e2];omega
  simp only[wN,Jk,hz]
 ·refine List.nodup_cons.2 ⟨fun hin=>(List.mem_append.1 hin).elim (fun h=>ha.used hA _ h hp1) (fun h=>hb.used hA _ h hp1),List.nodup_append.2 ⟨ha.nodup,hb.nodup,fun p hp q hq e=>hd p hp (e▸hq)⟩⟩
def Wv(s s':St)(r:Int)(V P:List Int):Prop:=∃M,IsR s'.1 r V M∧∀p∈M,p∈P∨p∈s.1.free∧¬p∈s'.1.free
theorem Wv.right(h:Wv s s1 r V P):Ff r=true:=by obtain⟨M,h,_⟩:=h;exact h.right
theorem AHw{x:Node}(hA0:AOk A0)(hE:Ext A0 s.1)(hfr:Fr A0 s.1)(h1:IsR A0 x.k0 L P1)(h2:IsR A0 x.k1 R P2)(hn:(Bk a::(P1++P2)).Nodup)(hd:∀p∈Bk a::(P1++P2),¬p∈Q)(hl:L.length+R.length+V.length≤100000)
  (hg:Gr (R.length+V.length) s s1) (hi:s1.2=0→Wv s s1 r1 (R++V) (P2++Q)) (hm:MkX s1 (wN s1.1 x.v x.k0 r1) s2 r3) :
  Gr ((L++x.v::R).length+V.length) s s2∧(s2.2=0→Wv s s2 r3 ((L++x.v::R)++V) ((Bk a::(P1++P2))++Q)):=by
 have h1':=h1.ext (hE.trans hg.gs.ext)
 have g1:=Om hm hg.gs.ok (fun h=>⟨h1'.right,(hi h).right⟩)
 refine⟨(hg.trans g1).mono (by simp only[Ag,Al];omega),fun h=>?_⟩
 obtain⟨M,hM,hMp⟩:=hi (g1.gs.back h)
 obtain⟨hn1,hn2⟩:=List.nodup_cons.1 hn
 obtain⟨_,_,hPP⟩:=List.nodup_append.1 hn2
 have hdM:∀p∈P1,¬p∈M:=fun p hp hpM=>by
  rcases hMp p hpM with h|⟨h,_⟩
  ·rcases List.mem_append.1 h with h|h
   ·exact hPP p hp p h rfl
   ·exact hd p (by simp[hp]) h
  ·exact h1.used hA0 p hp (hfr p h)
 obtain⟨k1,k2,k3⟩:=Vg hm hg.gs.ok h h1' hM hdM (by simp only[Ag];omega)
 refine⟨_,by rw[List.append_assoc,List.cons_append];exact k1,fun p hp=>?_⟩
 rcases List.mem_cons.1 hp with rfl|hp
 ·exact .inr ⟨hg.fr _ k2,k3⟩
 ·rcases List.mem_append.1 hp with hp|hp
  ·exact .inl (by simp[hp])
  ·rcases hMp p hp with h|⟨h,h2⟩
   ·rcases List.mem_append.1 h with h|h
    ·exact .inl (by simp[h])
    ·exact .inl (by simp[h])
   ·exact .inr ⟨h,fun e=>h2 (g1.fr _ e)⟩
theorem AHv{x:Node}(hA0:AOk A0)(hE:Ext A0 s.1)(hfr:Fr A0 s.1)(h1:IsR A0 x.k0 L P1)(h2:IsR A0 x.k1 R P2)(hn:(Bk b::(P1++P2)).Nodup)(hd:∀p∈Q,¬p∈Bk b::(P1++P2))(hl:L.length+R.length+V.length≤100000)
  (hg:Gr (V.length+L.length) s s1) (hi:s1.2=0→Wv s s1 r1 (V++L) (Q++P1)) (hm:MkX s1 (wN s1.1 x.v r1 x.k1) s2 r3) :
  Gr (V.length+(L++x.v::R).length) s s2∧(s2.2=0→Wv s s2 r3 (V++(L++x.v::R)) (Q++(Bk b::(P1++P2)))):=by
 have h2':=h2.ext (hE.trans hg.gs.ext)
 have g1:=Om hm hg.gs.ok (fun h=>⟨(hi h).right,h2'.right⟩)
 refine⟨(hg.trans g1).mono (by simp only[Ag,Al];omega),fun h=>?_⟩
 obtain⟨M,hM,hMp⟩:=hi (g1.gs.back h)
 obtain⟨hn1,hn2⟩:=List.nodup_cons.1 hn
 obtain⟨_,_,hPP⟩:=List.nodup_append.1 hn2
 have hdM:∀p∈M,¬p∈P2:=fun p hpM hp=>by
  rcases hMp p hpM with h|⟨h,_⟩
  ·rcases List.mem_append.1 h with h|h
   ·exact hd p h (by simp[hp])
   ·exact hPP p h p hp rfl
  ·exact h2.used hA0 p hp (hfr p h)
 obtain⟨k1,k2,k3⟩:=Vg hm hg.gs.ok h hM h2' hdM (by simp only[Ag];omega)
 refine⟨_,by rw[←List.append_assoc];exact k1,fun p hp=>?_⟩
 rcases List.mem_cons.1 hp with rfl|hp
 ·exact .inr ⟨hg.fr _ k2,k3⟩
 ·rcases List.mem_append.1 hp with hp|hp
  ·rcases hMp p hp with h|⟨h,h2⟩
   ·rcases List.mem_append.1 h with h|h
    ·exact .inl (by simp[h])
    ·exact .inl (by simp[h])
   ·exact .inr ⟨h,fun e=>h2 (g1.fr _ e)⟩
  ·exact .inl (by simp[hp])
def Wv2(s s':St)(r1 r2:Int)(V1 V2 P:List Int):Prop:=∃M N,IsR s'.1 r1 V1 M∧IsR s'.1 r2 V2 N∧(∀p∈M,¬p∈N)∧∀p∈M++N,p∈P∨p∈s.1.free∧¬p∈s'.1.free
theorem Wv2.right1{V1 V2:List Int}(h:Wv2 s s1 r1 r2 V1 V2 P):Ff r1=true:=by obtain⟨M,N,h,_⟩:=h;exact h.right
theorem Wv2.right2{V1 V2:List Int}(h:Wv2 s s1 r1 r2 V1 V2 P):Ff r2=true:=by obtain⟨M,N,_,h,_⟩:=h;exact h.right
theorem AMC{x:Node}{n:Nat}(hA0:AOk A0)(hE:Ext A0 s.1)(hfr:Fr A0 s.1)(h1:IsR A0 x.k0 L P1)(h2:IsR A0 x.k1 R P2)(hn:(Bk a::(P1++P2)).Nodup)(hl:(L++x.v::R).length≤100000)(hle:n≤L.length)
  (hg:Gr L.length s s1) (hi:s1.2=0→Wv2 s s1 r1 r2 (L.take n) (L.drop n) P1) (hm:MkX s1 (wN s1.1 x.v r2 x.k1) s2 r3) :
  Gr (L++x.v::R).length s s2∧(s2.2=0→Wv2 s s2 r1 r3 ((L++x.v::R).take n) ((L++x.v::R).drop n) (Bk a::(P1++P2))):=by
 have h2':=h2.ext (hE.trans hg.gs.ext)
 have g1:=Om hm hg.gs.ok (fun h=>⟨(hi h).right2,h2'.right⟩)
 refine⟨(hg.trans g1).mono (by simp only[Ag,Al];omega),fun h=>?_⟩
 obtain⟨M,N,hM,hN,hMN,hp⟩:=hi (g1.gs.back h)
 obtain⟨hn1,hn2⟩:=List.nodup_cons.1 hn
 obtain⟨_,_,hPP⟩:=List.nodup_append.1 hn2
 have hP2:∀p∈M++N,¬p∈P2:=fun p hpM hp2=>by
  rcases hp p hpM with h|⟨h,_⟩
  ·exact hPP p h p hp2 rfl
  ·exact h2.used hA0 p hp2 (hfr p h)
 obtain⟨k1,k2,k3⟩:=Vg hm hg.gs.ok h hN h2' (fun p hpN=>hP2 p (List.mem_append_right _ hpN)) (by simp only[Ag,Al,List.length_drop] at hl ⊢;omega)
 rw[List.take_append_of_le_length hle,List.drop_append_of_le_length hle]
 refine⟨M,_,hM.ext g1.gs.ext,k1,fun p hpM hin=>?_,fun p hin=>?_⟩
 ·rcases List.mem_cons.1 hin with rfl|hin
  ·exact hM.used hg.gs.ok _ hpM k2
  ·rcases List.mem_append.1 hin with hin|hin
   ·exact hMN p hpM hin
   ·exact hP2 p (List.mem_append_left _ hpM) hin
 ·have hold:p∈M++N→p∈Bk a::(P1++P2)∨p∈s.1.free∧¬p∈s2.1.free:=fun h=>(hp p h).imp (fun h=>by simp[h]) (fun h=>⟨h.1,fun e=>h.2 (g1.fr _ e)⟩)
  rcases List.mem_append.1 hin with hin|hin
  ·exact hold (List.mem_append_left _ hin)
  ·rcases List.mem_cons.1 hin with rfl|hin
   ·exact .inr ⟨hg.fr _ k2,k3⟩
   ·rcases List.mem_append.1 hin with hin|hin
    ·exact hold (List.mem_append_right _ hin)
    ·exact .inl (by simp[hin])
theorem AMB{x:Node}{n m:Nat}(hA0:AOk A0)(hE:Ext A0 s.1)(hfr:Fr A0 s.1)(h1:IsR A0 x.k0 L P1)(h2:IsR A0 x.k1 R P2)(hn:(Bk a::(P1++P2)).Nodup)(hl:(L++x.v::R).length≤100000)(hle:n=L.length+1+m)
  (hg:Gr R.length s s1) (hi:s1.2=0→Wv2 s s1 r1 r2 (R.take m) (R.drop m) P2) (hm:MkX s1 (wN s1.1 x.v x.k0 r1) s2 r3) :
  Gr (L++x.v::R).length s s2∧(s2.2=0→Wv2 s s2 r3 r2 ((L++x.v::R).take n) ((L++x.v::R).drop n) (Bk a::(P1++P2))):=by
 have h1':=h1.ext (hE.trans hg.gs.ext)
 have g1:=Om hm hg.gs.ok (fun h=>⟨h1'.right,(hi h).right1⟩)
 refine⟨(hg.trans g1).mono (by simp only[Ag,Al];omega),fun h=>?_⟩
 obtain⟨M,N,hM,hN,hMN,hp⟩:=hi (g1.gs.back h)
 obtain⟨hn1,hn2⟩:=List.nodup_cons.1 hn
 obtain⟨_,_,hPP⟩:=List.nodup_append.1 hn2
 have hP1:∀p∈M++N,¬p∈P1:=fun p hpM hp1=>by
  rcases hp p hpM with h|⟨h,_⟩
  ·exact hPP p hp1 p h rfl
  ·exact h1.used hA0 p hp1 (hfr p h)
 obtain⟨k1,k2,k3⟩:=Vg hm hg.gs.ok h h1' hM (fun p hp1 hpM=>hP1 p (List.mem_append_left _ hpM) hp1) (by simp only[Ag,Al,List.length_take] at hl ⊢;omega)
 have et:(L++x.v::R).take n=L++x.v::R.take m:=by
  rw[hle,show L++x.v::R=(L++[x.v])++R by simp,show L.length+1+m=(L++[x.v]).length+m by simp,List.take_length_add_append];simp
 have ed:(L++x.v::R).drop n=R.drop m:=by
  rw[hle,show L++x.v::R=(L++[x.v])++R by simp,show L.length+1+m=(L++[x.v]).length+m by simp,List.drop_length_add_append]
 rw[et,ed]
 refine⟨_,N,k1,hN.ext g1.gs.ext,fun p hin hpN=>?_,fun p hin=>?_⟩
 ·rcases List.mem_cons.1 hin with rfl|hin
  ·exact hN.used hg.gs.ok _ hpN k2
  ·rcases List.mem_append.1 hin with hin|hin
   ·exact hP1 p (List.mem_append_right _ hpN) hin
   ·exact hMN p hin hpN
 ·have hold:p∈M++N→p∈Bk a::(P1++P2)∨p∈s.1.free∧¬p∈s2.1.free:=fun h=>(hp p h).imp (fun h=>by simp[h]) (fun h=>⟨h.1,fun e=>h.2 (g1.fr _ e)⟩)
  rcases List.mem_append.1 hin with hin|hin
  ·rcases List.mem_cons.1 hin with rfl|hin
   ·exact .inr ⟨hg.fr _ k2,k3⟩
   ·rcases List.mem_append.1 hin with hin|hin
    ·exact .inl (by simp[hin])
    ·exact hold (List.mem_append_left _ hin)
  ·exact hold (List.mem_append_right _ hin)
end
abbrev Wo(b:Nat)(s:St)(C:Nat→Prop)(u:World):Prop:=FoG 182 b s C u
theorem Jb(b:Nat)(s:St)(C:Nat→Prop)(r:Int)(hr:U64 r)(w:World)(hF:Ft C (Wo b s C) w):
  FC Tryz.prog 99 [.pointer (some ⟨b,0,none⟩),.int .u64 r] w (Val (getN s.1 r).val w):=by
 obtain⟨hCb,na,fa,nc,fc,M,hbf,hnc,hfc,hA,hMb,hMC⟩:=hF.now
 obtain⟨e,hgv⟩:=ACK s.1 r
 have hA:=hA.now
 refine As Tryz.func99 rfl Tryz.ntmps99 rfl ?_
 have S:=Ax w
 refine Ac<|Aa rfl<|Ay Dx rfl rfl (fun n k l p a i=>?_);have g:=S.le l;have S:=S.trans i;have hbf:=hbf.sub i;refine Ae<|Ab<|Ac<|Aa rfl<|Af rfl<|Ak (.nilCheck rfl)<|Av Mi rfl<|Ak (.loadR (wvA na fa nc fc s.1) Cb rfl (Fg (xs:=wvA na fa nc fc s.1) (ys:=[.int .i64 s.2]) hbf) rfl)<|Af rfl<|Az rfl Ll (Jc s.1 na fa nc fc r hr k (hA.sub S)) ?_;rintro _ w1 ⟨rfl,s2⟩;have S:=S.trans s2;have a:=a.sub s2;refine Ak (.as (v':=.tuple #[(getN s.1 r).val,.int .i64 e]) (.move rfl) (by rw[hgv]))<|Bz rfl rfl<|Bz rfl rfl<|Ay Dx rfl rfl (fun m q j o c h=>?_);have f:=S.le j;have d:=a.ne j;have S:=S.trans h;have a:=a.sub h;refine At Ct rfl rfl rfl c (fun w3 z3 c a3=>?_);have S:=S.upd a3 f;have a:=a.upd a3 d
 have c:Has w3 m ((getN s.1 r).cells) _:=c.now (by kernel_rfl)
 refine Ah rfl<|Ae<|Ab<|Ac<|Aa rfl<|Ak (.loadR ((getN s.1 r).cells) Ct rfl c.row rfl)<|At Ct rfl rfl rfl a (fun w4 z4 a a4=>?_);have S:=S.upd a4 g
 have a:Has w4 n ((getN s.1 r).cells) _:=a.now (by kernel_rfl)
 refine Ae<|Ab<|Bo (rs:=[.cell 4 140]) (vs:=[_]) rfl rfl ⟨⟨_,rfl,.inr ⟨(getN s.1 r).cells,Ct,a.row,rfl⟩⟩,trivial⟩ ?_
 exact⟨rfl,S⟩
theorem AK3{A:Ar}{v x y:Int}(hv:I64 v)(hx:U64 x)(hy:U64 y):(wN A v x y).ok:=by
 have hz:U64 0:=by unfold U64;decide
 have hi:I64 0:=by unfold I64;decide
 refine⟨by unfold I64;show _≤(5:Int)∧(5:Int)≤_;omega,hi,hi,hv,by unfold I64;show _≤IntKind.i64.wrap _∧IntKind.i64.wrap _≤_;rw[IntKind.wrap_i64];omega,?_,hi,hi⟩
 intro k hk
 simp only[wN,Jk,Node.kids,List.mem_cons,List.not_mem_nil,or_false] at hk
 rcases hk with rfl|rfl|rfl|rfl|rfl|rfl|rfl|rfl|rfl<;>assumption
theorem Ol(bf:Nat)(s:St)(C:Nat→Prop)(v x y:Int)(hv:I64 v)(hx:U64 x)(hy:U64 y)(w:World)(hF:Ft C (Wo bf s C) w):
  FC Tryz.prog 144 [.pointer (some ⟨bf,0,none⟩),.int .i64 v,.int .u64 x,.int .u64 y] w (fun u w'=>∃s' r C',u=.int .u64 r∧MkX s (wN s.1 v x y) s' r∧Ft C' (Wo bf s' C') w'∧Agr (· = bf) w w'∧Up C w C'):=by
 obtain⟨hCb,na,fa,nc,fc,M,hbf,hnc,hfc,hA,hMb,hMC⟩:=hF.now
 obtain⟨A,bad⟩:=s
 simp only[] at hbf hnc hfc hA
 have dA:∀k,M k→k≠bf:=fun k hk e=>hMb (e▸hk)
 refine As Tryz.func144 rfl Tryz.ntmps144 rfl ?_
 have G:Agr (· = bf) w w:=Agr.refl _ _
 refine Ac<|Aa rfl<|Ah rfl<|Ae<|Ab<|Ac<|Ac<|Aa rfl<|Af rfl<|Ak (.nilCheck rfl)<|Av Mh rfl<|Ba AB8 rfl hbf rfl<|Bc rfl rfl rfl<|Ae<|Ab<|An rfl (fun h1=>?_) (fun h1=>?_)
 ·
  have hbad:¬bad=0:=h1
  refine Ac<|Aa rfl<|Ah rfl<|Ae<|Ab<|Bb 8 rfl rfl rfl ?_
  exact⟨(A,bad),0,C,rfl,.inl ⟨hbad,rfl,rfl⟩,hF,G,Up.refl _ _⟩
 ·
  have hbad:bad=0:=Decidable.not_not.1 h1
  refine Ao<|Ab<|Ac<|Aa rfl<|Af rfl<|Af rfl<|Af rfl<|Az rfl Sa (Jb bf (A,bad) C x hx w hF) ?_;rintro _ w2 ⟨rfl,s3⟩;have G:=G.trans s3.agr;have hbf:=hbf.sub s3;have hA:=hA.sub s3;have hF:=hF.sub s3;refine Ak (.as (v':=.int .i64 (Ey A x)) (.fieldV Tryz.underlying140 rfl sh2 rfl rfl) (by show Value.int .i64 (getN A x).s=_;rw[Qa]))<|Bc rfl rfl rfl<|Af rfl<|Af rfl<|Az rfl Sa (Jb bf (A,bad) C y hy w2 hF) ?_;rintro _ w4 ⟨rfl,s5⟩;have G:=G.trans s5.agr;have hbf:=hbf.sub s5;have hA:=hA.sub s5;refine Ak (.as (v':=.int .i64 (Ey A y)) (.fieldV Tryz.underlying140 rfl sh2 rfl rfl) (by show Value.int .i64 (getN A y).s=_;rw[Qa]))<|Bc rfl rfl rfl<|Ak (.buildS Dx Mv rfl rfl)<|Ay Dx rfl rfl (fun z E t D c q=>?_);have l:=hbf.ne t;have h:=hA.neNew t
  have geG_9:=Gi G t
  have G:=G.trans q.agr;have hbf:=hbf.sub q;have hA:=hA.sub q;refine At Ct rfl rfl rfl c (fun w6 z6 c a6=>?_)
  have G:=Dv G a6 geG_9
  have hbf:=hbf.upd a6 l;have hA:=hA.updD a6 h
  have c:Has w6 z ((Jk 0 v (szW A x y) 0 0).cells) _:=c.now (by kernel_rfl)
  refine Ae<|Ab<|Ac<|Aa rfl<|Af rfl<|Af rfl<|Av Da rfl<|Ak (.indexArr Eb rfl rfl (by omega))<|At Dm rfl rfl rfl c (fun w7 z7 c a7=>?_)
  have G:=Dv G a7 geG_9
  have hbf:=hbf.upd a7 l;have hA:=hA.updD a7 h
  have c:Has w7 z ((Jk 0 v (szW A x y) x 0).cells) _:=c
  refine Av Da rfl<|Ak (.indexArr Eb rfl rfl (by omega))<|At Dm rfl rfl rfl c (fun w8 z8 c a8=>?_)
  have G:=Dv G a8 geG_9
  have hbf:=hbf.upd a8 l;have hA:=hA.updD a8 h
  have c:Has w8 z ((wN A v x y).cells) _:=c
  have hxo:(wN A v x y).ok:=AK3 hv hx hy
  refine Ae<|Ab<|Ac<|Bs (fun k=>False) [11] w8.heap.size 14 rfl rfl mxo (fun w9 s10=>?_);have ltD_bf:=hbf.lt;have n:=c.lt;have szD:=Nat.le_refl w8.heap.size;have G:=G.trans s10.agr;have hbf:=hbf.sub s10;have hA:=hA.sub s10;have c:=c.sub s10;have szD:=Ad szD s10.size;refine Bp 0 rfl rfl<|Ci 1 rfl rfl<|Bl 2 rfl Mi rfl<|Bg 3 rfl (fun w' s'=>.loadR (wvA na fa nc fc A) Cb rfl (Fg (xs:=wvA na fa nc fc A) (ys:=[.int .i64 bad]) (hbf.step s' (nE id ltD_bf))) rfl)<|Bg 4 rfl (fun w' s'=>.loadR ((wN A v x y).cells) Ct rfl (c.step s' (nE id n)).row rfl)<|Ej [5,10] (by kernel_rfl) rfl (Ca rfl ?_ (Ca rfl ?_ (Do)))
  ·
   refine Az rfl AI3 (ADu A na fa nc fc (wN A v x y) hxo w9 hA.now hfc) ?_;rintro _ w11 ⟨s12,hr2⟩
   obtain⟨nb,fb,ncb,fcb,B,rB,eB,rfl,hnB,hfB,hiB,he0,he1⟩:=Yu hr2
   have szGM:=G.size;have d_hB_bf:=AJf (w':=w11) dA hbf.lt
   have hB:=hA.ans hiB s12
   have G:=G.trans s12.agr;have hbf:=hbf.sub s12;have hA:=hA.sub s12;have szD:=Ad szD s12.size;refine Be s12.agr<|Bp 6 rfl rfl<|Fv 7 rfl rfl rfl<|Fv 8 rfl rfl rfl<|Fv 9 rfl rfl rfl<|Aq 10 rfl<|Ay Fy rfl rfl (fun m o i p a g=>?_)
   have j:w8.heap.size≤m:=by rw[i];exact szD
   have d:=hbf.ne i;have b:=hA.neNew i;have f:=hB.neNew i
   have geG_10:=Gi G i
   have G:=G.trans g.agr;have hbf:=hbf.sub g;have hA:=hA.sub g;have szD:=Ad szD g.size;have hB:=hB.sub g;refine Be g.agr<|Aq 11 rfl<|At Cb rfl rfl rfl a (fun w13 z13 a a13=>?_)
   have G:=Dv G a13 geG_10
   have hbf:=hbf.upd a13 d;have hA:=hA.updD a13 b;have szD:=Ad szD a13.size;have hB:=hB.updD a13 f
   have a:Has w13 m ([.slice nb B.nodes.length ncb,.slice fb B.free.length fcb]) _:=a.now (by kernel_rfl)
   refine Cv rfl (a13.mono fun k _ e=>e▸(.inr j))<|Cu 12 rfl rfl<|Cu 13 rfl rfl<|Cp<|Ab<|Ac<|Ac<|Aa rfl<|Af rfl<|Af rfl<|Ak (.nilCheck rfl)<|Av Mh rfl<|At AB8 rfl rfl rfl hbf (fun w14 z14 hbf a14=>?_);have G:=G.trans a14;have hA:=hA.updD a14 dA;have hB:=hB.updD a14 d_hB_bf;have a:=a.upd a14 d.symm
   have hbf:Has w14 bf (wvC na fa nc fc A eB) _:=hbf
   refine Ae<|Ab<|Ac<|Aa rfl<|Af rfl<|Bc rfl rfl rfl<|Ae<|Ab<|An rfl (fun h15=>?_) (fun h15=>?_)
   ·
    have he:=h15
    refine Ac<|Aa rfl<|Ah rfl<|Ae<|Ab<|Bb 8 rfl rfl rfl ?_
    obtain⟨rfl,rfl,hcs⟩:=he1 he
    refine⟨(A,eB),0,_,rfl,.inr (.inr ?_),FoG.ft hbf hnc hfc hA hMb,G,fun k hk=>.inl (hk.elim (fun e=>e▸hCb) (hMC k))⟩
    rcases hcs with⟨h1,h2⟩|⟨h1,h2,h3⟩
    ·exact .inr ⟨hbad,h1,by rw[h2],rfl⟩
    ·exact .inl ⟨hbad,h1,h2,by rw[h3],rfl⟩
   ·
    have he:eB=0:=Decidable.not_not.1 h15
    refine Ao<|Ab<|Ac<|Aa rfl<|Af rfl<|Ak (.loadR ([.slice nb B.nodes.length ncb,.slice fb B.free.length fcb]) Cb rfl a.row rfl)<|Ak (.nilCheck rfl)<|Av Mi rfl<|At Cb rfl rfl rfl hbf (fun w16 z16 hbf a16=>?_);have G:=G.trans a16;have hA:=hA.updD a16 dA;have hB:=hB.updD a16 d_hB_bf;have a:=a.upd a16 d.symm
    have hbf:Has w16 bf (wvC nb fb ncb fcb B eB) _:=hbf
    refine Ae<|Ab<|Ac<|Aa rfl<|Af rfl<|Ah rfl<|Ae<|Ab<|Bb 8 rfl rfl rfl ?_
    obtain⟨h1,h2,h3,h4⟩:=he0 he
    exact⟨(B,eB),rB,_,rfl,.inr (.inl ⟨hbad,h1,h2,by rw[he,h3],h4⟩),FoG.ft hbf hnB hfB hB (fun e=>d_hB_bf _ e rfl),G,fun k hk=>hk.elim (fun e=>.inl (e▸hCb)) (fun e=>e.elim (fun e=>.inl (hMC k e)) (fun e=>.inr (Ad szGM e.1)))⟩
  ·
   refine Ay Fy rfl rfl (fun m o i p a g=>?_)
   have j:w8.heap.size≤m:=by rw[i];exact szD
   have d:=hbf.ne i;have b:=hA.neNew i
   have geG_10:=Gi G i
   have G:=G.trans g.agr;have hbf:=hbf.sub g;have hA:=hA.sub g;refine Be g.agr<|Aq 5 rfl<|Az rfl AI3 (ADu A na fa nc fc (wN A v x y) hxo o hA.now hfc) ?_;rintro _ w17 ⟨s18,hr2⟩
   obtain⟨nb,fb,ncb,fcb,B,rB,eB,rfl,hnB,hfB,hiB,he0,he1⟩:=Yu hr2
   have szGM:=G.size;have d_hB_bf:=AJf (w':=w17) dA hbf.lt;have f:=AJf (w':=w17) b a.lt
   have hB:=hA.ans hiB s18
   have G:=G.trans s18.agr;have hbf:=hbf.sub s18;have hA:=hA.sub s18;have a:=a.sub s18;refine Be s18.agr<|Bp 6 rfl rfl<|Fv 7 rfl rfl rfl<|Fv 8 rfl rfl rfl<|Fv 9 rfl rfl rfl<|Aq 11 rfl<|At Cb rfl rfl rfl a (fun w19 z19 a a19=>?_)
   have G:=Dv G a19 geG_10
   have hbf:=hbf.upd a19 d;have hA:=hA.updD a19 b;have hB:=hB.updD a19 f
   have a:Has w19 m ([.slice nb B.nodes.length ncb,.slice fb B.free.length fcb]) _:=a.now (by kernel_rfl)
   refine Cv rfl (a19.mono fun k _ e=>e▸(.inr j))<|Cu 12 rfl rfl<|Cu 13 rfl rfl<|Cp<|Ab<|Ac<|Ac<|Aa rfl<|Af rfl<|Af rfl<|Ak (.nilCheck rfl)<|Av Mh rfl<|At AB8 rfl rfl rfl hbf (fun w20 z20 hbf a20=>?_);have G:=G.trans a20;have hA:=hA.updD a20 dA;have a:=a.upd a20 d.symm;have hB:=hB.updD a20 d_hB_bf
   have hbf:Has w20 bf (wvC na fa nc fc A eB) _:=hbf
   refine Ae<|Ab<|Ac<|Aa rfl<|Af rfl<|Bc rfl rfl rfl<|Ae<|Ab<|An rfl (fun h21=>?_) (fun h21=>?_)
   ·
    have he:=h21
    refine Ac<|Aa rfl<|Ah rfl<|Ae<|Ab<|Bb 8 rfl rfl rfl ?_
    obtain⟨rfl,rfl,hcs⟩:=he1 he
    refine⟨(A,eB),0,_,rfl,.inr (.inr ?_),FoG.ft hbf hnc hfc hA hMb,G,fun k hk=>.inl (hk.elim (fun e=>e▸hCb) (hMC k))⟩
    rcases hcs with⟨h1,h2⟩|⟨h1,h2,h3⟩
    ·exact .inr ⟨hbad,h1,by rw[h2],rfl⟩
    ·exact .inl ⟨hbad,h1,h2,by rw[h3],rfl⟩
   ·
    have he:eB=0:=Decidable.not_not.1 h21
    refine Ao<|Ab<|Ac<|Aa rfl<|Af rfl<|Ak (.loadR ([.slice nb B.nodes.length ncb,.slice fb B.free.length fcb]) Cb rfl a.row rfl)<|Ak (.nilCheck rfl)<|Av Mi rfl<|At Cb rfl rfl rfl hbf (fun w22 z22 hbf a22=>?_);have G:=G.trans a22;have hB:=hB.updD a22 d_hB_bf
    have hbf:Has w22 bf (wvC nb fb ncb fcb B eB) _:=hbf
    refine Ae<|Ab<|Ac<|Aa rfl<|Af rfl<|Ah rfl<|Ae<|Ab<|Bb 8 rfl rfl rfl ?_
    obtain⟨h1,h2,h3,h4⟩:=he0 he
    exact⟨(B,eB),rB,_,rfl,.inr (.inl ⟨hbad,h1,h2,by rw[he,h3],h4⟩),FoG.ft hbf hnB hfB hB (fun e=>d_hB_bf _ e rfl),G,fun k hk=>hk.elim (fun e=>.inl (e▸hCb)) (fun e=>e.elim (fun e=>.inl (hMC k e)) (fun e=>.inr (Ad szGM e.1)))⟩
def WoP(bf n:Nat)(s:St)(C:Nat→Prop)(w:World)(J:St→Value→Prop)(v:Value)(w':World):Prop :=
 ∃s' C',Gr n s s'∧J s' v∧Ft C' (Wo bf s' C') w'∧Agr (· = bf) w w'∧Up C w C'
set_option maxHeartbeats 1000000 in
theorem ABT(bf:Nat)(A0:Ar)(hA0:AOk A0):∀(n:Nat) (a b:Int) (V U P Q:List Int) (s:St) (C:Nat→Prop) (w:World),V.length+U.length≤n→n≤1000→IsR A0 a V P→IsR A0 b U Q→(∀p∈P,¬p∈Q)→Ext A0 s.1→Fr A0 s.1→AOk s.1→U64 a→U64 b→Ft C (Wo bf s C) w →
  FC Tryz.prog 213 [.pointer (some ⟨bf,0,none⟩),.int .u64 a,.int .u64 b] w (WoP bf (V.length+U.length) s C w fun s' v=>∃r,v=.int .u64 r∧U64 r∧(s'.2=0→Wv s s' r (V++U) (P++Q))):=by
 intro n
 induction n with
 |zero =>
  intro a b V U P Q s C w hn _ hV hU hd hE hfr hA hua hub hF
  obtain⟨hCb,na,fa,nc,fc,M,hbf,hnc,hfc,hA',hMb,hMC⟩:=hF.now
  have ha:a=0:=Classical.byContradiction fun e=>by have:=hV.pos e;omega
  obtain⟨rfl,rfl⟩:=(ha▸hV).zero
  refine As Tryz.func213 rfl Tryz.ntmps213 rfl ?_
  have G:Agr (· = bf) w w:=Agr.refl _ _
  refine Ac<|Aa rfl<|Ah rfl<|Ae<|Ab<|Ac<|Bh<|Ac<|Aa rfl<|Af rfl<|Ak (.nilCheck rfl)<|Av Mh rfl<|Ba AB8 rfl hbf rfl<|Bc rfl rfl rfl<|Af rfl<|Bn 17 rfl (fun h1=>?_) (fun h1=>?_)
  ·
   have hbad:¬s.2=0:=h1
   refine Bd 2 rfl<|Br rfl rfl<|Ah rfl<|Ae<|Ab<|Bm rfl<|Ac<|Aa rfl<|Af rfl<|Ah rfl<|Ae<|Ab<|Bb 6 rfl rfl rfl ?_
   exact⟨s,C,(Gr.refl hA).mono (Nat.zero_le _),⟨b,rfl,hub,fun _=>⟨Q,hU.ext hE,fun p hp=>.inl hp⟩⟩,hF,G,Up.refl _ _⟩
  ·
   have hbad:s.2=0:=Decidable.not_not.1 h1
   refine Af rfl<|Bc rfl rfl rfl<|Bq rfl rfl<|Ah rfl<|Ae<|Ab<|An rfl (fun h2=>?_) (fun h2=>?_)
   ·
    refine Ac<|Aa rfl<|Af rfl<|Ah rfl<|Ae<|Ab<|Bb 6 rfl rfl rfl ?_
    exact⟨s,C,(Gr.refl hA).mono (Nat.zero_le _),⟨b,rfl,hub,fun _=>⟨Q,hU.ext hE,fun p hp=>.inl hp⟩⟩,hF,G,Up.refl _ _⟩
   ·
    exact absurd ha h2
 |succ n ih =>
  intro a b V U P Q s C w hn hn2 hV hU hd hE hfr hA hua hub hF
  obtain⟨hCb,na,fa,nc,fc,M,hbf,hnc,hfc,hA',hMb,hMC⟩:=hF.now
  refine As Tryz.func213 rfl Tryz.ntmps213 rfl ?_
  have G:Agr (· = bf) w w:=Agr.refl _ _
  refine Ac<|Aa rfl<|Ah rfl<|Ae<|Ab<|Ac<|Bh<|Ac<|Aa rfl<|Af rfl<|Ak (.nilCheck rfl)<|Av Mh rfl<|Ba AB8 rfl hbf rfl<|Bc rfl rfl rfl<|Af rfl<|Bn 17 rfl (fun h1=>?_) (fun h1=>?_)
  ·
   have hbad:¬s.2=0:=h1
   refine Bd 2 rfl<|Br rfl rfl<|Ah rfl<|Ae<|Ab<|Bm rfl<|Ac<|Aa rfl<|Af rfl<|Ah rfl<|Ae<|Ab<|Bb 6 rfl rfl rfl ?_
   exact⟨s,C,(Gr.refl hA).mono (Nat.zero_le _),⟨b,rfl,hub,fun h=>absurd h hbad⟩,hF,G,Up.refl _ _⟩
  ·
   have hbad:s.2=0:=Decidable.not_not.1 h1
   refine Af rfl<|Bc rfl rfl rfl<|Bq rfl rfl<|Ah rfl<|Ae<|Ab<|An rfl (fun h2=>?_) (fun h2=>?_)
   ·
    have ha:a=0:=h2
    refine Ac<|Aa rfl<|Af rfl<|Ah rfl<|Ae<|Ab<|Bb 6 rfl rfl rfl ?_
    rw[ha] at hV
    obtain⟨rfl,rfl⟩:=hV.zero
    exact⟨s,C,(Gr.refl hA).mono (Nat.zero_le _),⟨b,rfl,hub,fun _=>⟨Q,hU.ext hE,fun p hp=>.inl hp⟩⟩,hF,G,Up.refl _ _⟩
   ·
    have ha:¬a=0:=h2
    refine Ac<|Aa rfl<|Af rfl<|Bc rfl rfl rfl<|Ah rfl<|Ae<|Ab<|An rfl (fun h3=>?_) (fun h3=>?_)
    ·
     have hb:b=0:=h3
     refine Ac<|Aa rfl<|Af rfl<|Ah rfl<|Ae<|Ab<|Bb 6 rfl rfl rfl ?_
     rw[hb] at hU
     obtain⟨rfl,rfl⟩:=hU.zero
     exact⟨s,C,(Gr.refl hA).mono (Nat.zero_le _),⟨a,rfl,hua,fun _=>⟨P,by rw[List.append_nil];exact hV.ext hE,fun p hp=>.inl (by simp[hp])⟩⟩,hF,G,Up.refl _ _⟩
    ·
     have hb:¬b=0:=h3
     obtain⟨x,L1,R1,P1,P2,rfl,rfl,hx,hxe,e2,e3,e4⟩:=hV.ne ha
     obtain⟨y,L2,R2,Q1,Q2,rfl,rfl,hy,hye,f2,f3,f4⟩:=hU.ne hb
     have hx:=hE.get hx
     have hy:=hE.get hy
     have hgx:=Jl hx
     have hgy:=Jl hy
     have hxo:=hF.now.nok x (Ek hx)
     have hyo:=hF.now.nok y (Ek hy)
     have hk0:U64 x.k0:=hxo.kids _ (by simp[Node.kids])
     have hk1:U64 x.k1:=hxo.kids _ (by simp[Node.kids])
     have hj0:U64 y.k0:=hyo.kids _ (by simp[Node.kids])
     have hj1:U64 y.k1:=hyo.kids _ (by simp[Node.kids])
     have hn3:=hn
     simp only[Ag,Al] at hn3
     have hxs:x.s=(L1.length:Int)+R1.length+1:=congrArg Node.s hxe
     have hys:y.s=(L2.length:Int)+R2.length+1:=congrArg Node.s hye
     have hpm:Ui x.s y.s:=(by unfold Ui;omega)
     refine Ao<|Ab<|Ac<|Aa rfl<|Af rfl<|Af rfl<|Az rfl Sa ((hgx▸Jb bf s C a hua w hF)) ?_;rintro _ w4 ⟨rfl,s5⟩;have G:=G.trans s5.agr;have hF:=hF.sub s5;refine Af rfl<|Af rfl<|Az rfl Sa ((hgy▸Jb bf s C b hub w4 hF)) ?_;rintro _ w6 ⟨rfl,s7⟩;have G:=G.trans s7.agr;have hF:=hF.sub s7;refine Ay Dx rfl rfl (fun z E t B d q=>?_);have j:=hF.neNew t
     have geG_7:=Gi G t
     have G:=G.trans q.agr;have hF:=hF.sub q
     have n7f:z≠bf:=fun e=>j bf hCb e.symm
     refine Ay Dx rfl rfl (fun u D o A c m=>?_);have l:=d.ne o;have i:=hF.neNew o
     have geG_8:=Gi G o
     have G:=G.trans m.agr;have hF:=hF.sub m;have d:=d.sub m
     have n8f:u≠bf:=fun e=>i bf hCb e.symm
     refine At Ct rfl rfl rfl d (fun w8 z8 d a8=>?_)
     have G:=Dv G a8 geG_7
     have hF:=hF.updD a8 j;have c:=c.upd a8 l.symm
     have d:Has w8 z (x.cells) _:=d.now (by kernel_rfl)
     refine At Ct rfl rfl rfl c (fun w9 z9 c a9=>?_)
     have G:=Dv G a9 geG_8
     have hF:=hF.updD a9 i;have d:=d.upd a9 l
     have c:Has w9 u (y.cells) _:=c.now (by kernel_rfl)
     refine Ae<|Ab<|Ac<|Ac<|Aa rfl<|Av Hg rfl<|Ba sh2 rfl d rfl<|Av Hg rfl<|Ba sh2 rfl c rfl<|Az rfl ALV (AJ8 x.s y.s hpm w9) ?_;rintro _ w10 ⟨rfl,s11⟩;have G:=G.trans s11.agr;have hF:=hF.sub s11;have d:=d.sub s11;have c:=c.sub s11;refine Af rfl<|Bz rfl rfl<|Bz rfl rfl<|Ah rfl<|Ah rfl<|Ae<|Ab<|Ac<|Aa rfl<|Af rfl<|Ae<|Ab<|Db rfl (fun h12=>?_) (fun h12=>?_)
     ·
      refine Ac<|Bs (fun k=>k=bf) [11,12] w10.heap.size 14 rfl rfl mxo (fun w13 s14=>?_);have g:=d.lt;have f:=c.lt;have G:=G.trans s14.agr;have hF:=hF.sub s14;have d:=d.sub s14;have c:=c.sub s14;refine Bp 0 rfl rfl<|Bl 1 rfl Hv rfl<|Ck 2 rfl sh2 rfl d (nE n7f g) rfl<|Bl 3 rfl Da rfl<|Bg 4 rfl (fun _ _=>.indexArr Eb rfl rfl (by omega))<|Ck 5 rfl Dm rfl d (nE n7f g) rfl<|Bp 6 rfl rfl<|Bl 7 rfl Da rfl<|Bg 8 rfl (fun _ _=>.indexArr Eb rfl rfl (by omega))<|Ck 9 rfl Dm rfl d (nE n7f g) rfl<|Bp 10 rfl rfl<|Aq 11 rfl<|Az rfl AC6 (ih x.k1 b R1 (L2++y.v::R2) P2 (Bk b::(Q1++Q2)) s C w13 (by simp only[Ag,Al];omega) (by omega) e3 hU (fun p hp=>hd p (by simp[hp])) hE hfr hA hk1 hub hF) ?_;rintro _ w15 ⟨s1,C1,hg,⟨r1,rfl,hu1,hi⟩,hF1,ag,up⟩
      have up:=up.le G.size
      have G:=G.trans ag;have c:=c.upd ag n8f
      have hF:=hF1
      refine Cv rfl (ag.mono fun k _ e=>.inl e)<|Aq 12 rfl<|Az rfl Ye (Ol bf s1 C1 x.v x.k0 r1 hxo.v hk0 hu1 w15 hF) ?_;rintro _ w17 ⟨s2,r3,C2,rfl,hm,hF2,ag2,up2⟩
      have up2:=up.trans (up2.le G.size)
      have G:=G.trans ag2;have c:=c.upd ag2 n8f
      have hF:=hF2
      refine Cv rfl (ag2.mono fun k _ e=>.inl e)<|Cu 13 rfl rfl<|Cp<|Ab<|Bb 6 rfl rfl rfl ?_
      obtain⟨p1,p2⟩:=AHw hA0 hE hfr e2 e3 e4 hd (by simp only[Ag,Al];omega) hg hi hm
      exact⟨s2,C2,p1,⟨r3,rfl,hm.u64,p2⟩,hF,G,up2⟩
     ·
      refine Ao<|Ab<|Ac<|Bs (fun k=>k=bf) [8,12] w10.heap.size 14 rfl rfl mxo (fun w19 s20=>?_);have f:=c.lt;have G:=G.trans s20.agr;have hF:=hF.sub s20;have c:=c.sub s20;refine Bp 0 rfl rfl<|Bl 1 rfl Hv rfl<|Ck 2 rfl sh2 rfl c (nE n8f f) rfl<|Bp 3 rfl rfl<|Bp 4 rfl rfl<|Bl 5 rfl Da rfl<|Bg 6 rfl (fun _ _=>.indexArr Eb rfl rfl (by omega))<|Ck 7 rfl Dm rfl c (nE n8f f) rfl<|Bl 9 rfl Da rfl<|Bg 10 rfl (fun _ _=>.indexArr Eb rfl rfl (by omega))<|Ck 11 rfl Dm rfl c (nE n8f f) rfl<|Aq 8 rfl<|Az rfl AC6 (ih a y.k0 (L1++x.v::R1) L2 (Bk a::(P1++P2)) Q1 s C w19 (by simp only[Ag,Al];omega) (by omega) hV f2 (fun p hp h=>hd p hp (by simp[h])) hE hfr hA hua hj0 hF) ?_;rintro _ w21 ⟨s1,C1,hg,⟨r1,rfl,hu1,hi⟩,hF1,ag,up⟩
      have up:=up.le G.size
      have G:=G.trans ag
      have hF:=hF1
      refine Cv rfl (ag.mono fun k _ e=>.inl e)<|Aq 12 rfl<|Az rfl Ye (Ol bf s1 C1 y.v r1 y.k1 hyo.v hu1 hj1 w21 hF) ?_;rintro _ w23 ⟨s2,r3,C2,rfl,hm,hF2,ag2,up2⟩
      have up2:=up.trans (up2.le G.size)
      have G:=G.trans ag2
      have hF:=hF2
      refine Cv rfl (ag2.mono fun k _ e=>.inl e)<|Cu 13 rfl rfl<|Cp<|Ab<|Bb 6 rfl rfl rfl ?_
      obtain⟨p1,p2⟩:=AHv hA0 hE hfr f2 f3 f4 hd (by simp only[Ag,Al];omega) hg hi hm
      exact⟨s2,C2,p1,⟨r3,rfl,hm.u64,p2⟩,hF,G,up2⟩
theorem AF7(bf:Nat)(A0:Ar)(hA0:AOk A0){r:Int}{V P:List Int}(hV:IsR A0 r V P):∀(n:Nat) (s:St) (C:Nat→Prop) (w:World),n≤V.length→V.length≤1000→Ext A0 s.1→Fr A0 s.1→AOk s.1→U64 r→Ft C (Wo bf s C) w →
  FC Tryz.prog 146 [.pointer (some ⟨bf,0,none⟩),.int .u64 r,.int .i64 (n:Int)] w (WoP bf V.length s C w fun s' v=>∃r1 r2,v=.tuple #[.int .u64 r1,.int .u64 r2]∧U64 r1∧U64 r2∧(s'.2=0→Wv2 s s' r1 r2 (V.take n) (V.drop n) P)):=by
 induction hV with
 |nil =>
  intro n s C w hn hl hE hfr hA hr hF
  obtain rfl:n=0:=by simpa using hn
  refine As Tryz.func146 rfl Tryz.ntmps146 rfl ?_
  have G:Agr (· = bf) w w:=Agr.refl _ _
  refine Ac<|Aa rfl<|Ah rfl<|Ah rfl<|Ae<|Ab<|Ac<|Ac<|Aa rfl<|Af rfl<|Bc rfl rfl rfl<|Af rfl<|Bn 16 rfl (fun h1=>?_) (fun h1=>?_)
  ·
   refine Bd 5 rfl<|Br rfl rfl<|Ae<|Ab<|Bm rfl<|Ac<|Aa rfl<|Ah rfl<|Ah rfl<|Ae<|Ab<|Bo (rs:=[.tmp 6,.tmp 7]) (vs:=[_,_]) rfl rfl ⟨rfl,rfl,trivial⟩ ?_
   exact⟨s,C,Gr.refl hA,⟨0,0,rfl,zu0,zu0,fun _=>⟨[],[],.nil,.nil,by simp,by simp⟩⟩,hF,G,Up.refl _ _⟩
  ·
   exact absurd rfl h1
 | @node r g v a b L R P Q t1 t2 t3 t4 ih1 ih2 =>
  intro n s C w hn hl hE hfr hA hr hF
  obtain⟨x,hx,hxv,hxa,hxb⟩:∃x,Ch A0 r=some x∧x.v=v∧x.k0=a∧x.k1=b:=⟨_,t1,rfl,rfl,rfl⟩
  have hx:=hE.get hx
  have hgx:=Jl hx
  obtain⟨hCb,na,fa,nc,fc,M,hbf,hnc,hfc,hA',hMb,hMC⟩:=hF.now
  have hxo:=hF.now.nok x (Ek hx)
  have hr0:¬r=0:=fun e=>by rw[e,Oi] at hx;cases hx
  have hk0:U64 x.k0:=hxo.kids _ (by simp[Node.kids])
  have hk1:U64 x.k1:=hxo.kids _ (by simp[Node.kids])
  clear t1
  have hl2:=hl
  have hn2:=hn
  rw[Ag,Al] at hl2 hn2
  subst hxv hxa hxb
  have hsz:=(t2.ext hE).size
  refine As Tryz.func146 rfl Tryz.ntmps146 rfl ?_
  have G:Agr (· = bf) w w:=Agr.refl _ _
  refine Ac<|Aa rfl<|Ah rfl<|Ah rfl<|Ae<|Ab<|Ac<|Ac<|Aa rfl<|Af rfl<|Bc rfl rfl rfl<|Af rfl<|Bn 16 rfl (fun h1=>?_) (fun h1=>?_)
  ·
   exact absurd h1 hr0
  ·
   refine Af rfl<|Ak (.nilCheck rfl)<|Av Mh rfl<|Ba AB8 rfl hbf rfl<|Bc rfl rfl rfl<|Bq rfl rfl<|Ae<|Ab<|An rfl (fun h2=>?_) (fun h2=>?_)
   ·
    have hbad:¬s.2=0:=h2
    refine Ac<|Aa rfl<|Ah rfl<|Ah rfl<|Ae<|Ab<|Bo (rs:=[.tmp 6,.tmp 7]) (vs:=[_,_]) rfl rfl ⟨rfl,rfl,trivial⟩ ?_
    exact⟨s,C,(Gr.refl hA).mono (Nat.zero_le _),⟨0,0,rfl,zu0,zu0,fun h=>absurd h hbad⟩,hF,G,Up.refl _ _⟩
   ·
    have hbad:s.2=0:=Decidable.not_not.1 h2
    refine Ao<|Ab<|Ac<|Aa rfl<|Af rfl<|Af rfl<|Az rfl Sa ((hgx▸Jb bf s C r hr w hF)) ?_;rintro _ w3 ⟨rfl,s4⟩;have G:=G.trans s4.agr;have hF:=hF.sub s4;refine Ay Dx rfl rfl (fun j l i k c f=>?_);have d:=hF.neNew i
    have geG_8:=Gi G i
    have G:=G.trans f.agr;have hF:=hF.sub f
    have n8f:j≠bf:=fun e=>d bf hCb e.symm
    refine At Ct rfl rfl rfl c (fun w5 z5 c a5=>?_)
    have G:=Dv G a5 geG_8
    have hF:=hF.updD a5 d
    have c:Has w5 j (x.cells) _:=c.now (by kernel_rfl)
    refine Ae<|Ab<|Ac<|Aa rfl<|Af rfl<|Av Da rfl<|Ak (.indexArr Eb rfl rfl (by omega))<|Ba Dm rfl c rfl<|Az rfl Sa (Jb bf s C x.k0 hk0 w5 hF) ?_;rintro _ w6 ⟨rfl,s7⟩;have G:=G.trans s7.agr;have hF:=hF.sub s7;have c:=c.sub s7;refine Ak (.as (v':=.int .i64 (L.length:Int)) (.fieldV Tryz.underlying140 rfl sh2 rfl rfl) (by show Value.int .i64 (getN s.1 x.k0).s=_;rw[Qa,hsz]))<|Ah rfl<|Ae<|Ab<|Ac<|Ac<|Aa rfl<|Af rfl<|Af rfl<|Bc rfl rfl rfl<|Ae<|Ab<|An rfl (fun h8=>?_) (fun h8=>?_)
    ·
     have hle:n≤L.length:=(by omega)
     refine Ac<|Aa rfl<|Af rfl<|Av Da rfl<|Ak (.indexArr Eb rfl rfl (by omega))<|Ba Dm rfl c rfl<|Af rfl<|Az rfl AC8 (ih1 n s C w6 hle (by omega) hE hfr hA hk0 hF) ?_;rintro _ w9 ⟨s1,C1,hg,⟨r1,r2,rfl,hu1,hu2,hi⟩,hF1,ag,up⟩
     have up:=up.le G.size
     have G:=G.trans ag;have c:=c.upd ag n8f
     have hF:=hF1
     refine Af rfl<|Bz rfl rfl<|Bz rfl rfl<|Ah rfl<|Ah rfl<|Ae<|Ab<|Ac<|Aa rfl<|Af rfl<|Af rfl<|Av Hv rfl<|Ba sh2 rfl c rfl<|Af rfl<|Av Da rfl<|Ak (.indexArr Eb rfl rfl (by omega)) ?_;refine Ba Dm rfl c rfl<|Az rfl Ye (Ol bf s1 C1 x.v r2 x.k1 hxo.v hu2 hk1 w9 hF) ?_;rintro _ w11 ⟨s2,r3,C2,rfl,hm,hF2,ag2,up2⟩
     have up2:=up.trans (up2.le G.size)
     have G:=G.trans ag2;have c:=c.upd ag2 n8f
     have hF:=hF2
     refine Ah rfl<|Ah rfl<|Ae<|Ab<|Bo (rs:=[.tmp 6,.tmp 7]) (vs:=[_,_]) rfl rfl ⟨rfl,rfl,trivial⟩ ?_
     obtain⟨p1,p2⟩:=AMC hA0 hE hfr t2 t3 t4 (Ad hl (by decide)) hle hg hi hm
     exact⟨s2,C2,p1,⟨r1,r3,rfl,hu1,hm.u64,p2⟩,hF,G,up2⟩
    ·
     have hgt:¬n≤L.length:=(by omega)
     obtain⟨m,hm0⟩:∃m,n=L.length+1+m:=⟨n-(L.length+1),by omega⟩
     refine Ao<|Ab<|Ac<|Aa rfl<|Af rfl<|Av Da rfl<|Ak (.indexArr Eb rfl rfl (by omega))<|Ba Dm rfl c rfl<|Af rfl<|Af rfl<|Ak (.as (.bin rfl rfl rfl) (Cs (y:=(n:Int)-L.length) (by rfl) (by omega)))<|Ak (.as (.bin rfl rfl rfl) (Cs (y:=(m:Int)) (by omega) (by omega)))<|Az rfl AC8 (ih2 m s C w6 (by omega) (by omega) hE hfr hA hk1 hF) ?_;rintro _ w13 ⟨s1,C1,hg,⟨r1,r2,rfl,hu1,hu2,hi⟩,hF1,ag,up⟩
     have up:=up.le G.size
     have G:=G.trans ag;have c:=c.upd ag n8f
     have hF:=hF1
     refine Af rfl<|Bz rfl rfl<|Bz rfl rfl<|Ah rfl<|Ah rfl<|Ae<|Ab<|Ac<|Aa rfl<|Af rfl<|Av Hv rfl<|Ba sh2 rfl c rfl<|Av Da rfl<|Ak (.indexArr Eb rfl rfl (by omega))<|Ba Dm rfl c rfl<|Af rfl ?_;refine Az rfl Ye (Ol bf s1 C1 x.v x.k0 r1 hxo.v hk0 hu1 w13 hF) ?_;rintro _ w15 ⟨s2,r3,C2,rfl,hm,hF2,ag2,up2⟩
     have up2:=up.trans (up2.le G.size)
     have G:=G.trans ag2
     have hF:=hF2
     refine Af rfl<|Ah rfl<|Ah rfl<|Ae<|Ab<|Bo (rs:=[.tmp 6,.tmp 7]) (vs:=[_,_]) rfl rfl ⟨rfl,rfl,trivial⟩ ?_
     obtain⟨p1,p2⟩:=AMB hA0 hE hfr t2 t3 t4 (Ad hl (by decide)) hm0 hg hi hm
     exact⟨s2,C2,p1,⟨r3,r2,rfl,hm.u64,hu2,p2⟩,hF,G,up2⟩
def rB(y:Node)(a b:Int):Node:=⟨y.kind,y.gen,0,y.v,y.s,a,b,0,0,0,0,0,0,0,0,0⟩
theorem Rf(A:Ar):∀(k:Nat) (r:Int) (seen:List Bool) (left:Int),0≤left → -1≤(Em A k r seen left).1∧(Em A k r seen left).1≤left∧(Em A k r seen left).2.length=seen.length
 |0,r,seen,left,h=>by rw[Em];split<;>exact⟨by omega,by omega,rfl⟩
 |k+1,r,seen,left,h=>by
  by_cases h0:r=0
  ·subst h0;rw[ACJ];exact⟨by omega,h,rfl⟩
  ·cases hg:Ch A r with
   |none=>rw[AAY h0 hg];exact⟨by omega,by omega,rfl⟩
   |some y =>
    by_cases hc:left≤0∨¬y.kind=5∨seen.getD (Bk r).toNat false=true
    ·rw[Nv h0 hg hc];exact⟨by omega,by omega,rfl⟩
    ·obtain⟨m1,hm1⟩:∃m,Em A k y.k0 (seen.set (Bk r).toNat true) (left-1)=m:=⟨_,rfl⟩
     have hl0:¬left≤0:=fun e=>hc (.inl e)
     have h1:=Rf A k y.k0 (seen.set (Bk r).toNat true) (left-1) (by omega)
     rw[hm1,List.length_set] at h1
     by_cases hc2:m1.1<0∨¬Nl y=y
     ·rw[Oy h0 hg hc hm1 hc2];exact⟨by omega,by omega,h1.2.2⟩
     ·obtain⟨m2,hm2⟩:∃m,Em A k y.k1 m1.2 (left-1-m1.1)=m:=⟨_,rfl⟩
      have h2:=Rf A k y.k1 m1.2 (left-1-m1.1) (by omega)
      rw[hm2,h1.2.2] at h2
      have hm0:0≤m1.1:=Int.not_lt.1 fun e=>hc2 (.inl e)
      by_cases hc3:m2.1<0∨¬m1.1+m2.1+1=y.s
      ·rw[Ox h0 hg hc hm1 hc2 hm2 hc3];exact⟨by omega,by omega,h2.2.2⟩
      ·rw[Ss h0 hg hc hm1 hc2 hm2 hc3];exact⟨by simp only[];omega,by simp only[];omega,h2.2.2⟩
theorem AGQ{seen:List Bool}{p:Int}(h:0≤p∧p<seen.length):(seen.map Value.bool)[p.toNat]?=some (.bool (seen.getD p.toNat false)):=by
 rw[List.getElem?_map,List.getD_eq_getElem?_getD,List.getElem?_eq_getElem (by omega)];rfl
set_option maxHeartbeats 4000000 in
theorem AKK(A:Ar)(na fa:Option Addr)(nc fc:Nat)(bad:Int)(bf bs:Nat)(hfs:bf≠bs)(M:Nat→Prop)(hMs:∀k,M k→k≠bs)(hmost:A.nodes.length≤512):∀(k:Nat) (r:Int) (seen:List Bool) (left:Int) (w:World),U64 r→0≤left→left<k→left≤200→seen.length=A.nodes.length→Has w bf (wvC na fa nc fc A bad) 182→Has w bs (seen.map Value.bool) 4→Ft M (fun u=>ArR u na fa A) w →
  FC Tryz.prog 229 [.pointer (some ⟨bf,0,none⟩),.int .u64 r,.slice (some ⟨bs,0,none⟩) A.nodes.length A.nodes.length,.int .i64 left] w (fun v w'=>v=.int .i64 (Em A k r seen left).1∧Has w' bs ((Em A k r seen left).2.map Value.bool) 4∧Agr (· = bs) w w'):=by
 intro k
 induction k with
 |zero=>intro r seen left w _ h1 h2;omega
 |succ k ih =>
 intro r seen left w hr hl0 hlk hl hsl hbf hs hA
 obtain⟨y,e,hgv,hgs,hgn⟩:=Mq A r
 have nfs:=hfs
 refine As Tryz.func229 rfl Tryz.ntmps229 rfl ?_
 have G:Agr (· = bs) w w:=Agr.refl _ _
 refine Ac<|Aa rfl<|Ah rfl<|Ae<|Ab<|Ac<|Ac<|Aa rfl<|Af rfl<|Bc rfl rfl rfl<|Ae<|Ab<|An rfl (fun h1=>?_) (fun h1=>?_)
 ·
  have hres:Em A (k+1) r seen left=(0,seen):=(by rw[h1,ACJ])
  refine Ac<|Aa rfl<|Ah rfl<|Ae<|Ab<|Bb 8 rfl rfl rfl ?_
  rw[hres]
  exact⟨rfl,hs,G⟩
 ·
  have hr0:=h1
  refine Ao<|Ab<|Ac<|Aa rfl<|Af rfl<|Ak (.nilCheck rfl)<|Av Mi rfl<|Ak (.loadR ([.slice na A.nodes.length nc,.slice fa A.free.length fc]) Cb rfl (Fg (xs:=wvA na fa nc fc A) (ys:=[.int .i64 bad]) hbf) rfl)<|Af rfl<|Az rfl Ll (Jc A na fa nc fc r hr w hA.now) ?_;rintro _ w2 ⟨rfl,s3⟩;have G:=G.trans s3.agr;have hbf:=hbf.sub s3;have hs:=hs.sub s3;have hA:=hA.sub s3;refine Ak (.as (v':=.tuple #[y.val,.int .i64 e]) (.move rfl) (by rw[hgv]))<|Bz rfl rfl<|Bz rfl rfl<|Ay Dx rfl rfl (fun B F z E b t=>?_);have s:=hbf.ne z;have j:=hs.ne z;have p:=hA.neNew z
  have geG_9:=Gi G z
  have G:=G.trans t.agr;have hbf:=hbf.sub t;have hs:=hs.sub t;have hA:=hA.sub t;refine At Ct rfl rfl rfl b (fun w4 z4 b a4=>?_)
  have G:=Dv G a4 geG_9
  have hbf:=hbf.upd a4 s;have hs:=hs.upd a4 j;have hA:=hA.updD a4 p
  have b:Has w4 B (y.cells) _:=b.now (by kernel_rfl)
  refine Ah rfl<|Ae<|Ab<|Ac<|Ac<|Aa rfl<|Af rfl<|Bc rfl rfl rfl<|Af rfl<|Bn 27 rfl (fun h5=>?_) (fun h5=>?_)
  ·
   have hres:Em A (k+1) r seen left=(-1,seen):=(by cases hg:Ch A r with|none=>exact AAY hr0 hg|some x=>exact absurd (hgs x hg).2 h5)
   refine Bd 2 rfl<|Br rfl rfl<|Af rfl<|Bd 3 rfl<|Br rfl rfl<|Af rfl<|Bd 5 rfl<|Br rfl rfl<|Ae<|Ab<|Bm rfl<|Ac<|Aa rfl<|Ah rfl<|Ae (Ab ?_);refine Bb 8 rfl rfl rfl ?_
   rw[hres]
   exact⟨rfl,hs,G⟩
  ·
   have hy:Ch A r=some y:=(by cases hg:Ch A r with|none=>have:=(hgn hg).2;omega|some x=>rw[(hgs x hg).1])
   have hrg:=Gb hy
   have hyo:=hA.now.nok y (Ek hy)
   refine Af rfl<|Bc rfl rfl rfl<|Bq rfl rfl<|Af rfl<|Bn 31 rfl (fun h6=>?_) (fun h6=>?_)
   ·
    have hres:=Nv (k:=k) (seen:=seen) hr0 hy (.inl h6)
    refine Bd 3 rfl<|Br rfl rfl<|Af rfl<|Bd 5 rfl<|Br rfl rfl<|Ae<|Ab<|Bm rfl<|Ac<|Aa rfl<|Ah rfl<|Ae<|Ab<|Bb 8 rfl rfl rfl ?_
    rw[hres]
    exact⟨rfl,hs,G⟩
   ·
    have p31:=h6
    refine Av Es rfl<|Ba sh3 rfl b rfl<|Bc rfl rfl rfl<|Bq rfl rfl<|Af rfl<|Bn 36 rfl (fun h7=>?_) (fun h7=>?_)
    ·
     have hres:=Nv (k:=k) (seen:=seen) (left:=left) hr0 hy (.inr (.inl h7))
     refine Bd 5 rfl<|Br rfl rfl<|Ae<|Ab<|Bm rfl<|Ac<|Aa rfl<|Ah rfl<|Ae<|Ab<|Bb 8 rfl rfl rfl ?_
     rw[hres]
     exact⟨rfl,hs,G⟩
    ·
     have p36:=h7
     refine Af rfl<|Af rfl<|Az rfl Yd (Je r hr w4) ?_;rintro _ w8 ⟨rfl,s9⟩;have G:=G.trans s9.agr;have hbf:=hbf.sub s9;have hs:=hs.sub s9;have hA:=hA.sub s9;have b:=b.sub s9;refine Ak (.indexO Jr rfl rfl (by omega))<|Ak (.load1 sh4 rfl (hs.cell (v:=.bool (seen.getD (Bk r).toNat false)) (by rw[Nat.mul_one,Nat.zero_add];exact AGQ (by omega))))<|Bq rfl rfl<|Ae<|Ab<|Db rfl (fun h10=>?_) (fun h10=>?_)
     ·
      have hres:=Nv (k:=k) (seen:=seen) (left:=left) hr0 hy (.inr (.inr h10))
      refine Ac<|Aa rfl<|Ah rfl<|Ae<|Ab<|Bb 8 rfl rfl rfl ?_
      rw[hres]
      exact⟨rfl,hs,G⟩
     ·
      have hnb:¬(left≤0∨¬y.kind=5∨seen.getD (Bk r).toNat false=true):=(fun e=>e.elim p31 (fun e=>e.elim p36 (fun e=>by have h2:=h10;rw[e] at h2;cases h2)))
      have hk5:y.kind=5:=Decidable.not_not.1 (fun e=>hnb (.inr (.inl e)))
      refine Ao<|Ab<|Ac<|Aa rfl<|Af rfl<|Af rfl<|Az rfl Yd (Je r hr w8) ?_;rintro _ w11 ⟨rfl,s12⟩;have G:=G.trans s12.agr;have hbf:=hbf.sub s12;have hs:=hs.sub s12;have hA:=hA.sub s12;have b:=b.sub s12;refine Ak (.indexO Jr rfl rfl (by omega))<|Cg sh4 rfl rfl rfl hs (by show 0+(Bk r).toNat*1+1≤_;rw[Aj];omega) (by rfl) rfl (fun w13 z13 hs a13=>?_);have G:=G.trans a13;have hbf:=hbf.upd a13 nfs;have hA:=hA.updD a13 hMs;have b:=b.upd a13 j.symm
      have hs:=(Ro (enc:=Value.bool) (i:=(Bk r).toNat) (x:=true) (by rw[Nat.zero_add,Nat.mul_one] at hs;exact hs))
      refine Ae<|Ab<|Ac<|Aa rfl<|Av Es rfl<|Ba sh3 rfl b rfl<|Av Gv rfl<|Ba sh3 rfl b rfl<|Av Hv rfl<|Ba sh2 rfl b rfl<|Av Hg rfl<|Ba sh2 rfl b rfl<|Ak (.buildS Dx Mv rfl rfl)<|Ay Dx rfl rfl (fun q D o C c n=>?_);have h:=hbf.ne o;have g:=hs.ne o;have d:=b.ne o;have f:=hA.neNew o
      have geG_11:=Gi G o
      have G:=G.trans n.agr;have hbf:=hbf.sub n;have hs:=hs.sub n;have hA:=hA.sub n;have b:=b.sub n;refine At Ct rfl rfl rfl c (fun w14 z14 c a14=>?_)
      have G:=Dv G a14 geG_11
      have hbf:=hbf.upd a14 h;have hs:=hs.upd a14 g;have hA:=hA.updD a14 f;have b:=b.upd a14 d
      have c:Has w14 q ((rB y 0 0).cells) _:=c.now (by kernel_rfl)
      refine Ae<|Ab<|Hi (α:=Unit) (fun _=>[(0,.pointer (some ⟨bf,0,none⟩)),(2,.slice (some ⟨bs,0,none⟩) A.nodes.length A.nodes.length),(3,.int .i64 left),(9,.pointer (some ⟨B,0,none⟩)),(11,.pointer (some ⟨q,0,none⟩))]) (fun _ w15=>Has w15 bf (wvC na fa nc fc A bad) 182∧Has w15 bs ((seen.set (Bk r).toNat true).map Value.bool) 4∧Has w15 B y.cells 140∧Has w15 q (rB y y.k0 y.k1).cells 140∧Ft M (fun u=>ArR u na fa A) w15∧Agr (· = bs) w w15) ?_ (fun _ w15 hJ=>?_)
      ·
       refine Bs (fun k=>k=q) [8,11] w14.heap.size 12 rfl rfl mxo (fun w16 s17=>?_);have l:=b.lt;have G:=G.trans s17.agr;have hbf:=hbf.sub s17;have hs:=hs.sub s17;have hA:=hA.sub s17;have b:=b.sub s17;have c:=c.sub s17;refine Bl 0 rfl Da rfl<|Bg 1 rfl (fun _ _=>.indexArr Eb rfl rfl (by omega))<|Ck 2 rfl Dm rfl b (nE d l) rfl<|Bl 3 rfl Da rfl<|Bg 4 rfl (fun _ _=>.indexArr Eb rfl rfl (by omega))<|Ck 5 rfl Dm rfl b (nE d l) rfl<|Bl 6 rfl Da rfl<|Bg 7 rfl (fun _ _=>.indexArr Eb rfl rfl (by omega))<|Bl 9 rfl Da rfl<|Aq 8 rfl<|At Dm rfl rfl rfl c (fun w18 z18 c a18=>?_)
       have G:=Dv G a18 geG_11
       have hbf:=hbf.upd a18 h;have hs:=hs.upd a18 g;have hA:=hA.updD a18 f;have b:=b.upd a18 d;refine Cq rfl a18 (rfl)<|Bg 10 rfl (fun _ _=>.indexArr Eb rfl rfl (by omega))<|Aq 11 rfl<|At Dm rfl rfl rfl c (fun w19 z19 c a19=>?_)
       have G:=Dv G a19 geG_11
       have hbf:=hbf.upd a19 h;have hs:=hs.upd a19 g;have hA:=hA.updD a19 f;have b:=b.upd a19 d;refine Cq rfl a19 (rfl) ?_
       exact Fb (by kernel_rfl) (fun a ka=>⟨(),⟨hbf,hs,b,c,hA,G⟩,ka.keep (Bf (by repeat (first|exact trivial|refine And.intro rfl ?_)))⟩)
      obtain⟨hbf,hs,b,c,hA,G⟩:=hJ
      refine Ac<|Aa rfl<|Af rfl<|Av Da rfl<|Ak (.indexArr Eb rfl rfl (by omega))<|Ba Dm rfl b rfl<|Af rfl<|Af rfl<|Ak (.as (.bin rfl rfl rfl) (Cs (y:=left-1) (by rfl) (by omega)))<|Az rfl AFZ (ih y.k0 (seen.set (Bk r).toNat true) (left-1) w15 (hyo.kids _ (by simp[Node.kids])) (by omega) (by omega) (by omega) (by rw[List.length_set];exact hsl) hbf hs hA) ?_;rintro vr w20 ⟨hv,hs1,ag⟩;have G:=G.trans ag;have hbf:=hbf.upd ag nfs;have b:=b.upd ag j.symm;have c:=c.upd ag g.symm;have hA:=hA.updD ag hMs
      have hs:=hs1
      obtain⟨m1,hm1⟩:∃m,Em A k y.k0 (seen.set (Bk r).toNat true) (left-1)=m:=⟨_,rfl⟩
      have hml:=Rf A k y.k0 (seen.set (Bk r).toNat true) (left-1) (by omega)
      rw[hm1,List.length_set] at hml
      rw[hm1] at hv hs
      subst hv
      refine Ah rfl<|Ae<|Ab<|Ac<|Ac<|Aa rfl<|Af rfl<|Bc rfl rfl rfl<|Af rfl<|Bn 76 rfl (fun h22=>?_) (fun h22=>?_)
      ·
       have hres:=Oy hr0 hy hnb hm1 (.inl h22)
       refine Bd 3 rfl<|Br rfl rfl<|Ae<|Ab<|Bm rfl<|Ac<|Aa rfl<|Ah rfl<|Ae<|Ab<|Bb 8 rfl rfl rfl ?_
       rw[hres]
       exact⟨rfl,hs,G⟩
      ·
       have hp0:=h22
       refine Ak (.loadR (y.cells) Ct rfl b.row rfl)<|Ak (.loadR ((rB y y.k0 y.k1).cells) Ct rfl c.row rfl)<|Ak (.neS (xs:=y.cells) (ys:=(rB y y.k0 y.k1).cells) Vb Vc Ct rfl rfl rfl rfl rfl)<|Bq rfl rfl<|Ae<|Ab<|Db rfl (fun h23=>?_) (fun h23=>?_)
       ·
        have hres:=Oy hr0 hy hnb hm1 (.inr (fun e=>by have h2:=h23;rw[Gl,decide_eq_true (show y=rB y y.k0 y.k1 from e.symm)] at h2;cases h2))
        refine Ac<|Aa rfl<|Ah rfl<|Ae<|Ab<|Bb 8 rfl rfl rfl ?_
        rw[hres]
        exact⟨rfl,hs,G⟩
       ·
        have hbr:Nl y=y:=(by have h2:=h23;rw[Gl] at h2;simp only[Bool.not_eq_false',decide_eq_true_eq] at h2;exact h2.symm)
        have hc2:¬(m1.1<0∨¬Nl y=y):=(fun e=>e.elim hp0 (fun e=>e hbr))
        refine Ao<|Ab<|Ac<|Aa rfl<|Af rfl<|Av Da rfl<|Ak (.indexArr Eb rfl rfl (by omega))<|Ba Dm rfl b rfl<|Af rfl<|Af rfl<|Ak (.as (.bin rfl rfl rfl) (Cs (y:=left-1) (by rfl) (by omega)))<|Af rfl<|Ak (.as (.bin rfl rfl rfl) (Cs (y:=left-1-m1.1) (by rfl) (by omega)))<|Az rfl AFZ (ih y.k1 m1.2 (left-1-m1.1) w20 (hyo.kids _ (by simp[Node.kids])) (by omega) (by omega) (by omega) (by omega) hbf hs hA) ?_;rintro vr w24 ⟨hv,hs1,ag⟩;have G:=G.trans ag;have b:=b.upd ag j.symm
        have hs:=hs1
        obtain⟨m2,hm2⟩:∃m,Em A k y.k1 m1.2 (left-1-m1.1)=m:=⟨_,rfl⟩
        have hml2:=Rf A k y.k1 m1.2 (left-1-m1.1) (by omega)
        rw[hm2] at hml2 hv hs
        subst hv
        refine Ah rfl<|Ae<|Ab<|Ac<|Ac<|Aa rfl<|Af rfl<|Bc rfl rfl rfl<|Af rfl<|Bn 93 rfl (fun h26=>?_) (fun h26=>?_)
        ·
         have hres:=Ox hr0 hy hnb hm1 hc2 hm2 (.inl h26)
         refine Bd 7 rfl<|Br rfl rfl<|Ae<|Ab<|Bm rfl<|Ac<|Aa rfl<|Ah rfl<|Ae<|Ab<|Bb 8 rfl rfl rfl ?_
         rw[hres]
         exact⟨rfl,hs,G⟩
        ·
         have hq0:=h26
         refine Af rfl<|Af rfl<|Ak (.as (.bin rfl rfl rfl) (Cs (y:=m1.1+m2.1) (by rfl) (by omega)))<|Ak (.as (.bin rfl rfl rfl) (Cs (y:=m1.1+m2.1+1) (by rfl) (by omega)))<|Av Hg rfl<|Ba sh2 rfl b rfl<|Bc rfl rfl rfl<|Bq rfl rfl<|Ae<|Ab<|An rfl (fun h27=>?_) (fun h27=>?_)
         ·
          have hres:=Ox hr0 hy hnb hm1 hc2 hm2 (.inr h27)
          refine Ac<|Aa rfl<|Ah rfl<|Ae<|Ab<|Bb 8 rfl rfl rfl ?_
          rw[hres]
          exact⟨rfl,hs,G⟩
         ·
          have hres:=Ss hr0 hy hnb hm1 hc2 hm2 (fun e=>e.elim hq0 (fun e=>e (Decidable.not_not.1 h27)))
          refine Ao<|Ab<|Ac<|Aa rfl<|Af rfl<|Af rfl<|Ak (.as (.bin rfl rfl rfl) (Cs (y:=m1.1+m2.1) (by rfl) (by omega)))<|Ak (.as (.bin rfl rfl rfl) (Cs (y:=m1.1+m2.1+1) (by rfl) (by omega)))<|Ah rfl<|Ae<|Ab<|Bb 8 rfl rfl rfl ?_
          rw[hres]
          exact⟨rfl,hs,G⟩
noncomputable def allRows (A:Ar) (l:List Int):Bool:=aokB A&&l.all (isRowB A)
theorem AGj{A:Ar}{r:Int}(hA:AOk A)(h:(Em A 201 r (List.replicate A.nodes.length false) 200).1<0):isRowB A r=false:=AEU (fun e=>by have:=(Yx hA).2 e;omega)
theorem AGi{A:Ar}{r:Int}(hA:AOk A)(h:¬(Em A 201 r (List.replicate A.nodes.length false) 200).1<0):isRowB A r=true:=Qj ((Yx hA).1 (by omega))
theorem AIY{α:Type}{p:α→Bool}{l:List α}{i:Nat}{x:α}(h:l[i]?=some x)(hp:(l.take i).all p=true)(hx:p x=true):(l.take (i+1)).all p=true:=by
 rw[List.take_add_one,h,List.all_append,hp];simp[hx]
theorem AMH{α:Type}{p:α→Bool}{l:List α}{i:Nat}{x:α}(h:l[i]?=some x)(hx:p x=false):l.all p=false:=by
 rw[List.all_eq_false];exact⟨x,Au h,by rw[hx];simp⟩
theorem ABY(A:Ar)(na fa:Option Addr)(nc fc:Nat)(hnc:A.nodes.length≤nc)(hfc:A.free.length≤fc)(l:List Int)(m:Nat)(hm:m=l.length)(pa:Option Addr)(pc:Nat)(hl:l.length≤10000)(hli:∀x∈l,U64 x)(w:World)(hA:ArR w na fa A)(hP:Sl w pa 1 (l.map fun x=>[u6 x])):
  FC Tryz.prog 167 [arV na fa nc fc A,.slice pa m pc] w (Val (.bool (allRows A l)) w):=by
 subst hm
 have hN:=hA.nodes
 have hFr:=hA.free
 have hF:Ft (· < w.heap.size) (fun u=>ArR u na fa A) w:=Hm fun u s=>hA.sub s
 refine As Tryz.func167 rfl Tryz.ntmps167 rfl ?_
 have S:=Ax w
 refine Ac<|Aa rfl<|Bu rfl rfl rfl (fun v C G F c D=>?_);have S:=S.trans D
 have c:Has C v ([.slice na A.nodes.length nc,.slice fa A.free.length fc]) _:=c
 refine Ah rfl<|Ae<|Ab<|Ac<|Aa rfl<|Ak (.loadR ([.slice na A.nodes.length nc,.slice fa A.free.length fc]) Cb rfl c.row rfl)<|Ak (.buildS AFJ AFS rfl rfl)<|Bu rfl rfl rfl (fun g p E B b q=>?_);have S:=S.trans q;have c:=c.sub q
 have b:Has p g (wvC na fa nc fc A 0) 182:=b
 refine Ah rfl<|Ae<|Ab<|Ac<|Ac<|Aa rfl<|Ak (.loadR ([.slice na A.nodes.length nc,.slice fa A.free.length fc]) Cb rfl c.row rfl)<|Az rfl Uy (Kh A na fa nc fc p (hA.sub S)) ?_;rintro _ w1 ⟨rfl,s2⟩;have S:=S.trans s2;have c:=c.sub s2;have b:=b.sub s2;refine Ak (.not rfl)<|Ae<|Ab<|Db rfl (fun h3=>?_) (fun h3=>?_)
 ·
  have hno:aokB A=false:=(by simpa using h3)
  refine Ac<|Aa rfl<|Ah rfl<|Ae<|Ab<|Bb 4 rfl rfl rfl ?_
  rw[allRows,hno]
  exact⟨rfl,S⟩
 ·
  have hokb:aokB A=true:=(by simpa using h3)
  have hok:AOk A:=(Hd A).1 hokb
  have hmost:=hok.most
  refine Ao<|Ab<|Ac<|Ac<|Aa rfl<|Af rfl<|Cm Kw rfl<|Af rfl<|Ae<|Ab<|Bh<|Cw (α:=Nat) (fun i=>[(2,.pointer (some ⟨v,0,none⟩)),(5,.pointer (some ⟨g,0,none⟩)),(14,.slice pa l.length pc),(15,.int .i64 (l.length:Int)),(16,.int .i64 (i:Int))]) (fun i w4=>i≤l.length∧(l.take i).all (isRowB A)=true∧Has w4 v [.slice na A.nodes.length nc,.slice fa A.free.length fc] 26∧Has w4 g (wvC na fa nc fc A 0) 182∧Sub w w4) (fun i=>l.length-i) 0 (Bf (by repeat (first|exact trivial|refine And.intro rfl ?_))) (⟨Nat.zero_le _,rfl,c,b,S⟩) (fun i w4 hJ=>?_)
  obtain⟨hi,hp,c,b,S⟩:=hJ
  refine Ac<|Aa rfl<|Bc rfl rfl rfl<|Ae<|Ab<|Ac<|An rfl (fun h5=>?_) (fun h5=>?_)
  ·
   obtain⟨y,hy⟩:=Ce (l:=l) (i:=i) (by omega)
   refine Ao<|Ab<|Ac<|Bh<|Ac<|Aa rfl<|Ak (.indexS Kw rfl rfl (by omega) (hP.is (i:=0) (by simp only[Aj,Al,Am];omega)))<|Ak (.load1 Dm rfl ((hP.sub S).one (enc:=u6) (i:=i) hy))<|Ah rfl<|Ae<|Ab<|Ac<|Aa rfl<|Af rfl<|Af rfl<|Av Et rfl ?_;refine Ba Jj rfl c rfl<|Cm Ig rfl<|Dh Jr ze4 rfl rfl rfl rfl (by omega) rfl rfl (fun t o n z r j=>?_);have h:=S.le n;have f:=c.ne n;have d:=b.ne n;have S:=S.trans j;have c:=c.sub j;have b:=b.sub j
   have hs:Has o t ((List.replicate A.nodes.length false).map Value.bool) 4:=by have:=r;rw[List.map_replicate];rw[Int.toNat_natCast] at this;rw[←AFA];exact this
   refine Az rfl AFZ (AKK A na fa nc fc 0 g t d (· < w.heap.size) (fun k hk e=>by have:=h;omega) hmost 201 y (List.replicate A.nodes.length false) 200 o (hli y (Au hy)) (by decide) (by decide) (by decide) List.length_replicate b hs (hF.sub S)) ?_;rintro vr w6 ⟨hv,_,ag⟩;have S:=S.upd ag h;have c:=c.upd ag f;have b:=b.upd ag d
   subst hv
   refine Bc rfl rfl rfl<|Ae<|Ab<|An rfl (fun h8=>?_) (fun h8=>?_)
   ·
    have hbad:=AGj hok h8
    refine Ac<|Aa rfl<|Ah rfl<|Ae<|Ab<|Bb 4 rfl rfl rfl ?_
    rw[allRows,AMH hy hbad,Bool.and_false]
    exact⟨rfl,S⟩
   ·
    have hgood:=AGi hok h8
    refine Ao<|Ab<|Aa rfl<|Ak (.as (.bin rfl rfl rfl) (Cs (y:=((i+1:Nat):Int)) (by omega) (by omega)))<|Af rfl ?_
    exact Ae (fun a ka=>⟨i+1,⟨by omega,AIY hy hp hgood,c,b,S⟩,by omega,ka.keep (Bf (by repeat (first|exact trivial|refine And.intro rfl ?_)))⟩)
  ·
   obtain rfl:i=l.length:=(by omega)
   rw[List.take_length] at hp
   refine Co rfl<|Ab<|Ac<|Aa rfl<|Ah rfl<|Ae<|Ab<|Bb 4 rfl rfl rfl ?_
   rw[allRows,hp,hokb]
   exact⟨rfl,S⟩
theorem AET(A:Ar)(r:Int):(aokB A&&isRowB A r)=isRowB A r:=by
 cases h:isRowB A r with
 |false=>exact Bool.and_false _
 |true=>rw[Lt ((Kk A r).1 h).1];rfl
theorem Tf(A:Ar)(r:Int):allRows A [r]=isRowB A r:=by rw[allRows,List.all_cons,List.all_nil,Bool.and_true,AET]
theorem AHI(A:Ar)(na fa:Option Addr)(nc fc:Nat)(hnc:A.nodes.length≤nc)(hfc:A.free.length≤fc)(r:Int)(hr:U64 r)(w:World)(hA:ArR w na fa A):
  FC Tryz.prog 97 [arV na fa nc fc A,.int .u64 r] w (Val (.bool (isRowB A r)) w):=by
 have hN:=hA.nodes
 have hFr:=hA.free
 refine As Tryz.func97 rfl Tryz.ntmps97 rfl ?_
 have S:=Ax w
 refine Ac<|Aa rfl<|Bu rfl rfl rfl (fun h d m j a f=>?_);have S:=S.trans f
 have a:Has d h ([.slice na A.nodes.length nc,.slice fa A.free.length fc]) _:=a
 refine Ah rfl<|Ae<|Ab<|Ac<|Aa rfl<|Ak (.loadR ([.slice na A.nodes.length nc,.slice fa A.free.length fc]) Cb rfl a.row rfl)<|Af rfl<|Bi Kw _ Zw rfl rfl rfl rfl rfl rfl rfl (fun g c k i b e=>?_);have S:=S.trans e;refine Az rfl AI9 (ABY A na fa nc fc hnc hfc [r] 1 rfl (some ⟨g,0,none⟩) 1 (Nat.le_of_ble_eq_true rfl) (fun x hx=>by rw[List.mem_singleton] at hx;rw[hx];exact hr) c (hA.sub S) (Ik (enc:=u6) (l:=[r]) b)) ?_;rintro _ w1 ⟨rfl,s2⟩;have S:=S.trans s2;refine Ah rfl<|Ae<|Ab<|Bb 4 rfl rfl rfl ?_
 refine⟨congrArg Value.bool (Tf A r),S⟩
def AFk(A:Ar)(l:List Int)(J:St→Int→Int→World→Prop)(D:Nat→Prop)(w w':World)(B:Ar)(r e:Int):Prop :=
 (allRows A l=false∧e=1∧B=ar0∧r=0∧Sub w w')∨allRows A l=true∧∃s' r0 e0,Ft D (J s' r0 e0) w'∧e=(if e0=0 then s'.2 else e0)∧(¬e=0→B=ar0∧r=0)∧(e=0→B=s'.1∧r=r0)
def ArW(M:Nat→Prop)(w w':World)(J:Ar→Int→Int→Prop)(v:Value):Prop :=
 ∃na fa nc fc B r e M',v=.tuple #[arV na fa nc fc B,.int .u64 r,.int .i64 e]∧U64 r∧B.nodes.length≤nc∧B.free.length≤fc∧Ft M' (fun u=>ArR u na fa B) w'∧Up M w M'∧J B r e
set_option maxHeartbeats 1000000 in
theorem ADr(f:FuncId)(hf:calleeOK Tryz.prog f=true)(cs:List Value)(A:Ar)(na fa:Option Addr)(nc fc:Nat)(hnc:A.nodes.length≤nc)(hfc:A.free.length≤fc)(l:List Int)(pa:Option Addr)(m pc:Nat)(hm:m=l.length)(hl:l.length≤10000)(hli:∀x∈l,U64 x)
  (D M:Nat→Prop) (J:St→Int→Int→World→Prop) (w:World) (hA:Ft M (fun u=>ArR u na fa A) w) (hP:Sl w pa 1 (l.map fun x=>[u6 x])) (hD:∀k,D k→k<w.heap.size)
  (hT:allRows A l=true→∀(bf:Nat) (C:Nat→Prop) (w1:World),Sub w w1→w.heap.size≤bf→Ft C (Wo bf (A,0) C) w1→(∀k,C k→k=bf∨M k) →
   FC Tryz.prog f ([.pointer (some ⟨bf,0,none⟩)]++cs) w1 (fun v w2=>∃s' r e C',v=.tuple #[.int .u64 r,.int .i64 e]∧U64 r∧Ft C' (Wo bf s' C') w2∧Agr (fun k=>k=bf∨D k) w1 w2∧Up C w1 C'∧Ft D (J s' r e) w2)) :
  FC Tryz.prog 141 [arV na fa nc fc A,.slice pa m pc,.func (.func f) #[] cs.toArray] w (fun v w'=>Agr D w w'∧ArW M w w' (AFk A l J D w w') v):=by
 subst hm
 refine As Tryz.func141 rfl Tryz.ntmps141 rfl ?_
 have S:=Ax w
 have G:Agr D w w:=Agr.refl _ _
 refine Ac<|Aa rfl<|Bu rfl rfl rfl (fun L K P O d E=>?_);have S:=S.trans E;have G:=G.trans E.agr;have hA:=hA.sub E
 have d:Has K L ([.slice na A.nodes.length nc,.slice fa A.free.length fc]) _:=d
 refine Ay Fy rfl rfl (fun j I B N a z=>?_);have F:=S.le B;have p:=d.ne B;have g:=hA.neNew B;have S:=S.trans z
 have geG_6:=Gi G B
 have G:=G.trans z.agr;have hA:=hA.sub z;have d:=d.sub z;refine Ah rfl<|Ah rfl<|Ae<|Ab<|Ac<|Ac<|Aa rfl<|Ak (.loadR ([.slice na A.nodes.length nc,.slice fa A.free.length fc]) Cb rfl d.row rfl)<|Af rfl<|Az rfl AI9 (ABY A na fa nc fc hnc hfc l l.length rfl pa pc hl hli I hA.now (hP.sub S)) ?_;rintro _ w1 ⟨rfl,s2⟩;have S:=S.trans s2;have G:=G.trans s2.agr;have hA:=hA.sub s2;have d:=d.sub s2;have a:=a.sub s2;refine Ak (.not rfl)<|Ae<|Ab<|Db rfl (fun h3=>?_) (fun h3=>?_)
 ·
  have hno:allRows A l=false:=(by simpa using h3)
  refine Ac<|Aa rfl<|Ak (.buildS Fy Rz rfl rfl)<|At Cb rfl rfl rfl a (fun w4 z4 a a4=>?_);have S:=S.upd a4 F
  have G:=Dv G a4 geG_6
  have hA:=hA.updD a4 g;have d:=d.upd a4 p
  have a:Has w4 j ([.slice none 0 0,.slice none 0 0]) _:=a.now (by kernel_rfl)
  refine Ah rfl<|Ah rfl<|Ae<|Ab<|Bo (rs:=[.cell 6 26,.tmp 7,.tmp 8]) (vs:=[_,_,_]) rfl rfl ⟨⟨_,rfl,.inr ⟨[.slice none 0 0,.slice none 0 0],Cb,a.row,rfl⟩⟩,rfl,rfl,trivial⟩ ?_
  exact⟨G,none,none,0,0,ar0,0,1,fun _=>False,rfl,zu0,by decide,by decide,⟨fun _ h=>h.elim,fun _ _=>⟨Sl.nil _ _ _,Sl.nil _ _ _,by simp[ar0],by simp[ar0]⟩⟩,fun _ h=>h.elim,.inl ⟨hno,rfl,rfl,rfl,S⟩⟩
 ·
  have hyes:allRows A l=true:=(by simpa using h3)
  refine Ao<|Ab<|Ac<|Aa rfl<|Ak (.loadR ([.slice na A.nodes.length nc,.slice fa A.free.length fc]) Cb rfl d.row rfl)<|Ak (.buildS AFJ AFS rfl rfl)<|Bu rfl rfl rfl (fun t y q H b n=>?_);have o:=S.le q;have c:=a.ne q;have i:=hA.neNew q;have S:=S.trans n;have G:=G.trans n.agr;have hA:=hA.sub n;have a:=a.sub n
  have b:Has y t (wvC na fa nc fc A 0) 182:=b
  have hF:=FoG.ft (s:=(A,0)) b hnc hfc hA (fun e=>i _ e rfl)
  refine Ah rfl<|Ae<|Ab<|Ac<|Aa rfl<|Af rfl<|Af rfl<|Dl rfl rfl (us:=[]) (cs:=cs) hf (hT hyes t _ y S o hF (fun _ h=>h)) rfl rfl ?_;rintro _ w5 ⟨s',r,e,C',rfl,hu,hF1,ag,up,hJ⟩
  have hsz:=G.size
  have hD6:∀k,D k→k≠j:=fun k hk e=>by have:=hD k hk;omega
  have hnC6:¬(j=t∨M j):=(fun e=>e.elim c (fun e=>g _ e rfl))
  have hC6:∀k,C' k→k≠j:=fun k hk e=>up.not a.lt hnC6 (e▸hk)
  have a:=a.step ag (fun e=>e.elim c (fun e=>hD6 _ e rfl))
  have G:=AKS G ag o
  obtain⟨_,na',fa',nc',fc',M',b,hnc',hfc',hA',hMb',hMC'⟩:=hF1.now
  have hup:Up M w M':=(fun k hk=>by rcases up k (hMC' k hk) with(e|e)|e<;>first|exact .inl e|exact .inr (by omega))
  have dA6:∀k,M' k→k≠j:=fun k hk=>hC6 k (hMC' k hk)
  refine Af rfl<|Bz rfl rfl<|Bz rfl rfl<|Ah rfl<|Ah rfl<|Ae<|Ab<|Ac<|Ac<|Aa rfl<|Af rfl<|Bc rfl rfl rfl<|Ae<|Ab<|An rfl (fun h7=>?_) (fun h7=>?_)
  ·
   have he:=h7
   refine Aa rfl<|Af rfl<|Ak (.nilCheck rfl)<|Av Mh rfl<|Ba AB8 rfl b rfl<|Ah rfl<|Ae<|Ab<|Ac<|Ac<|Aa rfl<|Af rfl<|Bc rfl rfl rfl<|Ae<|Ab<|An rfl (fun h8=>?_) (fun h8=>?_)
   ·
    have hz:=h8
    refine Ac<|Aa rfl<|Ak (.buildS Fy Rz rfl rfl)<|Af rfl<|At Cb rfl rfl rfl a (fun w9 z9 a a9=>?_)
    have G:=Dv G a9 geG_6
    have b:=b.upd a9 c.symm
    have hA':=hA'.updD a9 dA6
    have hJ:=hJ.updD a9 hD6
    have a:Has w9 j ([.slice none 0 0,.slice none 0 0]) _:=a.now (by kernel_rfl)
    refine Ah rfl<|Ah rfl<|Ae<|Ab<|Bo (rs:=[.cell 6 26,.tmp 7,.tmp 8]) (vs:=[_,_,_]) rfl rfl ⟨⟨_,rfl,.inr ⟨[.slice none 0 0,.slice none 0 0],Cb,a.row,rfl⟩⟩,rfl,rfl,trivial⟩ ?_
    exact⟨G,none,none,0,0,ar0,0,s'.2,fun _=>False,rfl,zu0,by decide,by decide,⟨fun _ h=>h.elim,fun _ _=>⟨Sl.nil _ _ _,Sl.nil _ _ _,by simp[ar0],by simp[ar0]⟩⟩,fun _ h=>h.elim,.inr ⟨hyes,s',r,e,hJ,by rw[if_pos he],fun _=>⟨rfl,rfl⟩,fun h=>absurd h hz⟩⟩
   ·
    have hz:=h8
    refine Ao<|Ab<|Ac<|Aa rfl<|Af rfl<|Ak (.nilCheck rfl)<|Av Mi rfl<|Ak (.loadR (wvA na' fa' nc' fc' s'.1) Cb rfl (Fg (xs:=wvA na' fa' nc' fc' s'.1) (ys:=[.int .i64 s'.2]) b) rfl)<|Af rfl<|At Cb rfl rfl rfl a (fun w10 z10 a a10=>?_)
    have G:=Dv G a10 geG_6
    have b:=b.upd a10 c.symm
    have hA':=hA'.updD a10 dA6
    have hJ:=hJ.updD a10 hD6
    have a:Has w10 j (wvA na' fa' nc' fc' s'.1) _:=a.now (by kernel_rfl)
    refine Ah rfl<|Ah rfl<|Ae<|Ab<|Bo (rs:=[.cell 6 26,.tmp 7,.tmp 8]) (vs:=[_,_,_]) rfl rfl ⟨⟨_,rfl,.inr ⟨wvA na' fa' nc' fc' s'.1,Cb,a.row,rfl⟩⟩,rfl,rfl,trivial⟩ ?_
    exact⟨G,na',fa',nc',fc',s'.1,r,0,M',rfl,hu,hnc',hfc',hA',hup,.inr ⟨hyes,s',r,e,hJ,by rw[if_pos he];omega,fun h=>absurd rfl h,fun _=>⟨rfl,rfl⟩⟩⟩
  ·
   have he:=h7
   refine Ao<|Ab<|Ac<|Ac<|Aa rfl<|Af rfl<|Bc rfl rfl rfl<|Ae<|Ab<|An rfl (fun h11=>?_) (fun h11=>?_)
   ·
    have hz:=h11
    refine Ac<|Aa rfl<|Ak (.buildS Fy Rz rfl rfl)<|Af rfl<|At Cb rfl rfl rfl a (fun w12 z12 a a12=>?_)
    have G:=Dv G a12 geG_6
    have b:=b.upd a12 c.symm
    have hA':=hA'.updD a12 dA6
    have hJ:=hJ.updD a12 hD6
    have a:Has w12 j ([.slice none 0 0,.slice none 0 0]) _:=a.now (by kernel_rfl)
    refine Ah rfl<|Ah rfl<|Ae<|Ab<|Bo (rs:=[.cell 6 26,.tmp 7,.tmp 8]) (vs:=[_,_,_]) rfl rfl ⟨⟨_,rfl,.inr ⟨[.slice none 0 0,.slice none 0 0],Cb,a.row,rfl⟩⟩,rfl,rfl,trivial⟩ ?_
    exact⟨G,none,none,0,0,ar0,0,e,fun _=>False,rfl,zu0,by decide,by decide,⟨fun _ h=>h.elim,fun _ _=>⟨Sl.nil _ _ _,Sl.nil _ _ _,by simp[ar0],by simp[ar0]⟩⟩,fun _ h=>h.elim,.inr ⟨hyes,s',r,e,hJ,by rw[if_neg he],fun _=>⟨rfl,rfl⟩,fun h=>absurd h hz⟩⟩
   ·
    have hz:=h11
    refine Ao<|Ab<|Ac<|Aa rfl<|Af rfl<|Ak (.nilCheck rfl)<|Av Mi rfl<|Ak (.loadR (wvA na' fa' nc' fc' s'.1) Cb rfl (Fg (xs:=wvA na' fa' nc' fc' s'.1) (ys:=[.int .i64 s'.2]) b) rfl)<|Af rfl<|At Cb rfl rfl rfl a (fun w13 z13 a a13=>?_)
    have G:=Dv G a13 geG_6
    have hA':=hA'.updD a13 dA6
    have a:Has w13 j (wvA na' fa' nc' fc' s'.1) _:=a.now (by kernel_rfl)
    refine Ah rfl<|Ah rfl<|Ae<|Ab<|Bo (rs:=[.cell 6 26,.tmp 7,.tmp 8]) (vs:=[_,_,_]) rfl rfl ⟨⟨_,rfl,.inr ⟨wvA na' fa' nc' fc' s'.1,Cb,a.row,rfl⟩⟩,rfl,rfl,trivial⟩ ?_
    exact absurd he hz
theorem IsR.rea{A:Ar}{r:Int}{V P:List Int}(h:IsR A r V P)(Q:Int→Prop):(∀x,Ch A r=some x→Rea A Q (Bk r))→∀p∈P,Rea A Q p:=by
 induction h with
 |nil=>intro _ p hp;cases hp
 |node h1 h2 h3 h4 ih1 ih2 =>
  intro hr p hp
  have hroot:=hr _ h1
  rcases List.mem_cons.1 hp with rfl|hp
  ·exact hroot
  ·rcases List.mem_append.1 hp with hp|hp
   ·exact ih1 (fun x hx=>.kid hroot (by rw[Pa h1];simp[Jk,Node.kids]) hx) p hp
   ·exact ih2 (fun x hx=>.kid hroot (by rw[Pa h1];simp[Jk,Node.kids]) hx) p hp
theorem Sw{A:Ar}{r:Int}{V P:List Int}(h:isRow A r)(hV:IsR A r V P):V.length≤200:=by
 obtain⟨_,V',P',h1,h2⟩:=h
 rw[(h1.unique hV).1];exact h2
theorem AFO(A:Ar)(r:Int):∃V P,isRow A r→IsR A r V P:=by
 by_cases h:isRow A r
 ·obtain⟨_,V,P,hL,_⟩:=id h;exact⟨V,P,fun _=>hL⟩
 ·exact⟨[],[],fun h'=>absurd h' h⟩
theorem La{A:Ar}{r:Int}(h:allRows A [r]=true):isRow A r:=(Kk A r).1 (by rw[←Tf];exact h)
theorem AA7{A:Ar}{r:Int}(h:allRows A [r]=false):¬isRow A r:=fun e=>by rw[Tf,Qj e] at h;cases h
theorem AGI{p:Prop}{w:World}(h:p):Ft (fun _=>False) (fun _=>p) w:=⟨fun _ h=>h.elim,fun _ _=>h⟩
def ACD(back:Bool):List Value:=if back then[.func (.func 212) #[] #[],.func (.func 214) #[] #[],.func (.func 215) #[] #[]] else[.func (.func 216) #[] #[],.func (.func 217) #[] #[],.func (.func 218) #[] #[]]
theorem AAN(back:Bool)(w:World):FC Tryz.prog 143 [.bool back] w (Val (.agg (ACD back).toArray) w):=by
 cases back
 ·
  refine As Tryz.func143 rfl Tryz.ntmps143 rfl ?_
  have S:=Ax w
  refine Ac<|Aa rfl<|Ay Xx rfl rfl (fun e g d f a c=>?_);have b:=S.le d;have S:=S.trans c;refine Ae<|Ab<|Ac<|Ac<|Aa rfl<|Af rfl<|Ae<|Ab<|Bw rfl<|Ao<|Ab<|Ac<|Aa rfl<|Ak (.buildS Xx AIn rfl rfl)<|At Yb rfl rfl rfl a (fun w1 z1 a a1=>?_);have S:=S.upd a1 b
  have a:Has w1 e (ACD false) _:=a.now (by kernel_rfl)
  refine Ae<|Ab<|Bo (rs:=[.cell 2 230]) (vs:=[_]) rfl rfl ⟨⟨_,rfl,.inr ⟨ACD false,Yb,a.row,rfl⟩⟩,trivial⟩ ?_
  exact⟨rfl,S⟩
 ·
  refine As Tryz.func143 rfl Tryz.ntmps143 rfl ?_
  have S:=Ax w
  refine Ac<|Aa rfl<|Ay Xx rfl rfl (fun e g d f a c=>?_);have b:=S.le d;have S:=S.trans c;refine Ae<|Ab<|Ac<|Ac<|Aa rfl<|Af rfl<|Ae<|Ab<|Bm rfl<|Ac<|Aa rfl<|Ak (.buildS Xx AIn rfl rfl)<|At Yb rfl rfl rfl a (fun w1 z1 a a1=>?_);have S:=S.upd a1 b
  have a:Has w1 e (ACD true) _:=a.now (by kernel_rfl)
  refine Ae<|Ab<|Bo (rs:=[.cell 2 230]) (vs:=[_]) rfl rfl ⟨⟨_,rfl,.inr ⟨ACD true,Yb,a.row,rfl⟩⟩,trivial⟩ ?_
  exact⟨rfl,S⟩
theorem AKI(bf:Nat)(A0:Ar)(hA0:AOk A0)(n:Nat)(a b:Int)(V U P Q:List Int)(s:St)(C:Nat→Prop)(w:World)(h1:V.length+U.length≤n)(h2:n≤1000)(h3:IsR A0 a V P)(h4:IsR A0 b U Q)(h5:∀p∈P,¬p∈Q)(h6:Ext A0 s.1)(h7:Fr A0 s.1)(h8:AOk s.1)(h9:U64 a)(h10:U64 b)(hF:Ft C (Wo bf s C) w):
  FC Tryz.prog 212 [.pointer (some ⟨bf,0,none⟩),.int .u64 a,.int .u64 b] w (WoP bf (V.length+U.length) s C w fun s' v=>∃r,v=.int .u64 r∧U64 r∧(s'.2=0→Wv s s' r (V++U) (P++Q))):=by
 refine As Tryz.func212 rfl Tryz.ntmps212 rfl ?_
 refine Ac<|Aa rfl<|Ah rfl<|Ae<|Ab<|Ac<|Aa rfl<|Af rfl<|Af rfl<|Af rfl<|Az rfl AC6 (ABT bf A0 hA0 n a b V U P Q s C w h1 h2 h3 h4 h5 h6 h7 h8 h9 h10 hF) ?_;rintro _ w1 ⟨s1,C1,hg,⟨r1,rfl,hu1,hi⟩,hF1,ag,up⟩;refine Ah rfl<|Ae<|Ab<|Bb 6 rfl rfl rfl ?_
 exact⟨s1,C1,hg,⟨r1,rfl,hu1,hi⟩,hF1,ag,up⟩
theorem AKF(bf:Nat)(A0:Ar)(hA0:AOk A0)(n:Nat)(a b:Int)(V U P Q:List Int)(s:St)(C:Nat→Prop)(w:World)(h1:U.length+V.length≤n)(h2:n≤1000)(h3:IsR A0 a V P)(h4:IsR A0 b U Q)(h5:∀p∈Q,¬p∈P)(h6:Ext A0 s.1)(h7:Fr A0 s.1)(h8:AOk s.1)(h9:U64 a)(h10:U64 b)(hF:Ft C (Wo bf s C) w):
  FC Tryz.prog 216 [.pointer (some ⟨bf,0,none⟩),.int .u64 a,.int .u64 b] w (WoP bf (U.length+V.length) s C w fun s' v=>∃r,v=.int .u64 r∧U64 r∧(s'.2=0→Wv s s' r (U++V) (Q++P))):=by
 refine As Tryz.func216 rfl Tryz.ntmps216 rfl ?_
 refine Ac<|Aa rfl<|Ah rfl<|Ae<|Ab<|Ac<|Aa rfl<|Af rfl<|Af rfl<|Af rfl<|Az rfl AC6 (ABT bf A0 hA0 n b a U V Q P s C w h1 h2 h4 h3 h5 h6 h7 h8 h10 h9 hF) ?_;rintro _ w1 ⟨s1,C1,hg,⟨r1,rfl,hu1,hi⟩,hF1,ag,up⟩;refine Ah rfl<|Ae<|Ab<|Bb 6 rfl rfl rfl ?_
 exact⟨s1,C1,hg,⟨r1,rfl,hu1,hi⟩,hF1,ag,up⟩
theorem AKH(z:Int)(hz:0≤z∧z≤1000000)(w:World):FC Tryz.prog 214 [.int .i64 z] w (Val (.int .i64 (z-1)) w):=by
 refine As Tryz.func214 rfl Tryz.ntmps214 rfl ?_
 have S:=Ax w
 refine Ac<|Aa rfl<|Ah rfl<|Ae<|Ab<|Ac<|Aa rfl<|Af rfl<|Ak (.as (.bin rfl rfl rfl) (Cs (y:=z-1) (by rfl) (by omega)))<|Ah rfl<|Ae<|Ab<|Bb 2 rfl rfl rfl ?_
 exact⟨rfl,S⟩
theorem AKE(z:Int)(w:World):FC Tryz.prog 217 [.int .i64 z] w (Val (.int .i64 1) w):=by
 refine As Tryz.func217 rfl Tryz.ntmps217 rfl ?_
 have S:=Ax w
 refine Ac<|Aa rfl<|Ah rfl<|Ae<|Ab<|Ac<|Aa rfl<|Ah rfl<|Ae<|Ab<|Bb 2 rfl rfl rfl ?_
 exact⟨rfl,S⟩
theorem AKG(x y:Int)(w:World):FC Tryz.prog 215 [.int .u64 x,.int .u64 y] w (Val (.tuple #[.int .u64 x,.int .u64 y]) w):=by
 refine As Tryz.func215 rfl Tryz.ntmps215 rfl ?_
 have S:=Ax w
 refine Ac<|Aa rfl<|Ah rfl<|Ah rfl<|Ae<|Ab<|Ac<|Aa rfl<|Af rfl<|Af rfl<|Ah rfl<|Ah rfl<|Ae<|Ab<|Bo (rs:=[.tmp 4,.tmp 5]) (vs:=[_,_]) rfl rfl ⟨rfl,rfl,trivial⟩ ?_
 exact⟨rfl,S⟩
theorem AKD(x y:Int)(w:World):FC Tryz.prog 218 [.int .u64 x,.int .u64 y] w (Val (.tuple #[.int .u64 y,.int .u64 x]) w):=by
 refine As Tryz.func218 rfl Tryz.ntmps218 rfl ?_
 have S:=Ax w
 refine Ac<|Aa rfl<|Ah rfl<|Ah rfl<|Ae<|Ab<|Ac<|Aa rfl<|Af rfl<|Af rfl<|Ah rfl<|Ah rfl<|Ae<|Ab<|Bo (rs:=[.tmp 4,.tmp 5]) (vs:=[_,_]) rfl rfl ⟨rfl,rfl,trivial⟩ ?_
 exact⟨rfl,S⟩
def AFQ(V:List Int)(back:Bool)(v:Int):List Int:=if back then V++[v] else v::V
def AFi(A:Ar)(V:List Int)(back:Bool)(v:Int)(s':St)(r' e:Int):Prop:=(200≤V.length∧e=5)∨(V.length<200∧e=0∧Gr (V.length+2) (A,0) s'∧(s'.2=0→∃M,IsR s'.1 r' (AFQ V back v) M))
theorem ADQ{A:Ar}{s1:St}{v r1:Int}{V P:List Int}{r:Int}(hA:AOk A)(hV:IsR A r V P)(hm:MkX (A,0) (wN A v 0 0) s1 r1):∃U Q,IsR s1.1 r1 U Q∧(s1.2=0→U=[v])∧U.length≤1∧(∀p∈P,¬p∈Q)∧∀p∈Q,¬p∈P:=by
 by_cases h0:s1.2=0
 ·obtain⟨k1,k2,k3⟩:=Vg (s:=(A,0)) (L:=[]) (R:=[]) (P:=[]) (Q:=[]) hm hA h0 .nil .nil (by simp) (by simp)
  refine⟨_,_,k1,fun _=>rfl,by simp,fun p hp hq=>?_,fun q hq hp=>?_⟩
  ·have:p=Bk r1:=by simpa using hq
   subst this;exact hV.used hA _ hp k2
  ·have:q=Bk r1:=by simpa using hq
   subst this;exact hV.used hA _ hp k2
 ·have:r1=0:=by
   rcases hm with⟨_,_,h⟩|⟨_,_,_,h,_⟩|⟨_,_,_,_,h⟩|⟨_,_,_,h⟩
   ·exact h
   ·rw[h] at h0;exact absurd rfl h0
   ·exact h
   ·exact h
  subst this
  exact⟨[],[],.nil,fun h=>absurd h h0,by simp,by simp,by simp⟩
set_option maxHeartbeats 1000000 in
theorem AHE(A:Ar)(r v:Int)(back:Bool)(hr:U64 r)(hv:I64 v)(V P:List Int)(hA:AOk A)(hV:IsR A r V P)(hl:V.length≤200)(bf b5 b6 b7:Nat)(C:Nat→Prop)(w:World)(hF:Ft C (Wo bf (A,0) C) w)
  (m5:Has w b5 [.int .u64 r] 31) (m6:Has w b6 [.bool back] 4) (m7:Has w b7 [.int .i64 v] 2) (n5:b5≠bf) (n6:b6≠bf) (n7:b7≠bf) :
  FC Tryz.prog 142 [.pointer (some ⟨bf,0,none⟩),.pointer (some ⟨b5,0,none⟩),.pointer (some ⟨b6,0,none⟩),.pointer (some ⟨b7,0,none⟩)] w (fun u w2=>∃s' r' e C',u=.tuple #[.int .u64 r',.int .i64 e]∧U64 r'∧Ft C' (Wo bf s' C') w2∧Agr (· = bf) w w2∧Up C w C'∧AFi A V back v s' r' e):=by
 cases back
 ·
  refine As Tryz.func142 rfl Tryz.ntmps142 rfl ?_
  have G:Agr (· = bf) w w:=Agr.refl _ _
  refine Ac<|Aa rfl<|Ah rfl<|Ah rfl<|Ae<|Ab<|Ac<|Ac<|Aa rfl<|Af rfl<|Ba Dm rfl m5 rfl<|Az rfl Sa (Jb bf (A,0) C r hr w hF) ?_;rintro _ w1 ⟨rfl,s2⟩;have G:=G.trans s2.agr;have hF:=hF.sub s2;have m5:=m5.sub s2;have m6:=m6.sub s2;have m7:=m7.sub s2;refine Ak (.as (v':=.int .i64 (V.length:Int)) (.fieldV Tryz.underlying140 rfl sh2 rfl rfl) (by show Value.int .i64 (getN A r).s=_;rw[Qa,hV.size]))<|Bc rfl rfl rfl<|Ae<|Ab<|An rfl (fun h3=>?_) (fun h3=>?_)
  ·
   have q:=h3
   refine Ac<|Aa rfl<|Ah rfl<|Ah rfl<|Ae<|Ab<|Bo (rs:=[.tmp 5,.tmp 6]) (vs:=[_,_]) rfl rfl ⟨rfl,rfl,trivial⟩ ?_
   exact⟨(A,0),0,5,C,rfl,zu0,hF,G,Up.refl _ _,.inl ⟨by omega,rfl⟩⟩
  ·
   have q:=h3
   refine Ao<|Ab<|Ac<|Bs (fun k=>k=bf) [7,8] w1.heap.size 11 rfl rfl mxo (fun w4 s5=>?_);have c:=m5.lt;have b:=m6.lt;have a:=m7.lt;have G:=G.trans s5.agr;have hF:=hF.sub s5;have m5:=m5.sub s5;have m6:=m6.sub s5;have m7:=m7.sub s5;refine Ck 0 rfl sh4 rfl m6 (nE n6 b) rfl<|Bp 3 rfl rfl<|Ck 4 rfl Dm rfl m5 (nE n5 c) rfl<|Bp 5 rfl rfl<|Ck 6 rfl sh2 rfl m7 (nE n7 a) rfl<|Aq 1 rfl<|Az rfl AC9 (AAN false w4) ?_;rintro _ w6 ⟨rfl,s7⟩;have G:=G.trans s7.agr;have hF:=hF.sub s7;have m5:=m5.sub s7;have m6:=m6.sub s7;have m7:=m7.sub s7;refine Be s7.agr<|Bg 2 rfl (fun _ _=>.fieldV Tryz.underlying230 rfl AIi rfl rfl)<|Aq 7 rfl<|Az rfl Ye (Ol bf (A,0) C v 0 0 hv zu0 zu0 w6 hF) ?_;rintro _ w8 ⟨s1,r1,C1,rfl,hm,hF1,ag,up⟩
   have up:=up.le G.size
   have G:=G.trans ag
   have hF:=hF1
   obtain⟨U,Q,hU,hU1,hUl,hPQ,hQP⟩:=ADQ hA hV hm
   have g1:=Om (s:=(A,0)) hm hA (fun _=>⟨(Ib 0).2 (.inl rfl),(Ib 0).2 (.inl rfl)⟩)
   refine Cv rfl (ag.mono fun k _ e=>.inl e)<|Aq 8 rfl<|Dl rfl rfl (us:=[]) (cs:=[]) ALh (AKF bf s1.1 g1.gs.ok 1000 r r1 V U P Q s1 C1 w8 (by omega) (by decide) (hV.ext g1.gs.ext) hU hQP (Ext.refl _) (fun _ h=>h) g1.gs.ok hr hm.u64 hF) rfl rfl ?_;rintro _ w10 ⟨s2,C2,hg,⟨r2,rfl,hu2,hi⟩,hF2,ag2,up2⟩
   have up2:=up.trans (up2.le G.size)
   have G:=G.trans ag2
   have hF:=hF2
   refine Cv rfl (ag2.mono fun k _ e=>.inl e)<|Cu 9 rfl rfl<|Cu 10 rfl rfl<|Cp<|Ab<|Bo (rs:=[.tmp 5,.tmp 6]) (vs:=[_,_]) rfl rfl ⟨rfl,rfl,trivial⟩ ?_
   refine⟨s2,r2,0,C2,rfl,hu2,hF,G,up2,.inr ⟨by omega,rfl,(g1.trans hg).mono (by omega),fun h=>?_⟩⟩
   obtain⟨M,hM,_⟩:=hi h
   rw[hU1 (hg.gs.back h)] at hM
   exact⟨M,hM⟩
 ·
  refine As Tryz.func142 rfl Tryz.ntmps142 rfl ?_
  have G:Agr (· = bf) w w:=Agr.refl _ _
  refine Ac<|Aa rfl<|Ah rfl<|Ah rfl<|Ae<|Ab<|Ac<|Ac<|Aa rfl<|Af rfl<|Ba Dm rfl m5 rfl<|Az rfl Sa (Jb bf (A,0) C r hr w hF) ?_;rintro _ w1 ⟨rfl,s2⟩;have G:=G.trans s2.agr;have hF:=hF.sub s2;have m5:=m5.sub s2;have m6:=m6.sub s2;have m7:=m7.sub s2;refine Ak (.as (v':=.int .i64 (V.length:Int)) (.fieldV Tryz.underlying140 rfl sh2 rfl rfl) (by show Value.int .i64 (getN A r).s=_;rw[Qa,hV.size]))<|Bc rfl rfl rfl<|Ae<|Ab<|An rfl (fun h3=>?_) (fun h3=>?_)
  ·
   have q:=h3
   refine Ac<|Aa rfl<|Ah rfl<|Ah rfl<|Ae<|Ab<|Bo (rs:=[.tmp 5,.tmp 6]) (vs:=[_,_]) rfl rfl ⟨rfl,rfl,trivial⟩ ?_
   exact⟨(A,0),0,5,C,rfl,zu0,hF,G,Up.refl _ _,.inl ⟨by omega,rfl⟩⟩
  ·
   have q:=h3
   refine Ao<|Ab<|Ac<|Bs (fun k=>k=bf) [7,8] w1.heap.size 11 rfl rfl mxo (fun w4 s5=>?_);have c:=m5.lt;have b:=m6.lt;have a:=m7.lt;have G:=G.trans s5.agr;have hF:=hF.sub s5;have m5:=m5.sub s5;have m6:=m6.sub s5;have m7:=m7.sub s5;refine Ck 0 rfl sh4 rfl m6 (nE n6 b) rfl<|Bp 3 rfl rfl<|Ck 4 rfl Dm rfl m5 (nE n5 c) rfl<|Bp 5 rfl rfl<|Ck 6 rfl sh2 rfl m7 (nE n7 a) rfl<|Aq 1 rfl<|Az rfl AC9 (AAN true w4) ?_;rintro _ w6 ⟨rfl,s7⟩;have G:=G.trans s7.agr;have hF:=hF.sub s7;refine Be s7.agr<|Bg 2 rfl (fun _ _=>.fieldV Tryz.underlying230 rfl AIi rfl rfl)<|Aq 7 rfl<|Az rfl Ye (Ol bf (A,0) C v 0 0 hv zu0 zu0 w6 hF) ?_;rintro _ w8 ⟨s1,r1,C1,rfl,hm,hF1,ag,up⟩
   have up:=up.le G.size
   have G:=G.trans ag
   have hF:=hF1
   obtain⟨U,Q,hU,hU1,hUl,hPQ,hQP⟩:=ADQ hA hV hm
   have g1:=Om (s:=(A,0)) hm hA (fun _=>⟨(Ib 0).2 (.inl rfl),(Ib 0).2 (.inl rfl)⟩)
   refine Cv rfl (ag.mono fun k _ e=>.inl e)<|Aq 8 rfl<|Dl rfl rfl (us:=[]) (cs:=[]) ALk (AKI bf s1.1 g1.gs.ok 1000 r r1 V U P Q s1 C1 w8 (by omega) (by decide) (hV.ext g1.gs.ext) hU hPQ (Ext.refl _) (fun _ h=>h) g1.gs.ok hr hm.u64 hF) rfl rfl ?_;rintro _ w10 ⟨s2,C2,hg,⟨r2,rfl,hu2,hi⟩,hF2,ag2,up2⟩
   have up2:=up.trans (up2.le G.size)
   have G:=G.trans ag2
   have hF:=hF2
   refine Cv rfl (ag2.mono fun k _ e=>.inl e)<|Cu 9 rfl rfl<|Cu 10 rfl rfl<|Cp<|Ab<|Bo (rs:=[.tmp 5,.tmp 6]) (vs:=[_,_]) rfl rfl ⟨rfl,rfl,trivial⟩ ?_
   refine⟨s2,r2,0,C2,rfl,hu2,hF,G,up2,.inr ⟨by omega,rfl,(g1.trans hg).mono (by omega),fun h=>?_⟩⟩
   obtain⟨M,hM,_⟩:=hi h
   rw[hU1 (hg.gs.back h)] at hM
   exact⟨M,hM⟩
def AA2(A:Ar)(r:Int)(back:Bool)(v:Int)(B:Ar)(r' e:Int):Prop :=
 (¬isRow A r→e=1)∧(¬e=0→B=ar0∧r'=0)∧∀V P,isRow A r→IsR A r V P→(200≤V.length∧e=5)∨(V.length<200∧e=2∧A.free.length<V.length+2)∨(V.length<200∧e=0∧Ext A B∧AOk B∧A.free.length≤B.free.length+(V.length+2)∧∃M,IsR B r' (AFQ V back v) M)
theorem AEJ{A B:Ar}{r v r' e:Int}{back:Bool}{w w':World}{V P:List Int}(hm:isRow A r→IsR A r V P)(h:AFk A [r] (fun s' r' e _=>AFi A V back v s' r' e) (fun _=>False) w w' B r' e):AA2 A r back v B r' e:=by
 rcases h with⟨h1,h2,h3,h4,_⟩|⟨h1,s',r0,e0,hJ,he,h3,h4⟩
 ·exact⟨fun _=>h2,fun _=>⟨h3,h4⟩,fun V' P' h=>absurd h (AA7 h1)⟩
 ·have hmap:=La h1
  refine⟨fun h=>absurd hmap h,h3,fun V' P' _ hV'=>?_⟩
  obtain⟨rfl,rfl⟩:=hV'.unique (hm hmap)
  rcases hJ.now with⟨hb,h5⟩|⟨hb,h5,hg,hi⟩
  ·exact .inl ⟨hb,by rw[he,h5];rfl⟩
  ·rw[h5,if_pos rfl] at he
   by_cases h0:s'.2=0
   ·obtain⟨rfl,rfl⟩:=h4 (by rw[he,h0])
    exact .inr (.inr ⟨hb,by rw[he,h0],hg.gs.ext,hg.gs.ok,hg.gs.free,hi h0⟩)
   ·have:=hg.gs.full rfl h0
    exact .inr (.inl ⟨hb,by rw[he,this.1],this.2⟩)
theorem Uo(A:Ar)(na fa:Option Addr)(nc fc:Nat)(hnc:A.nodes.length≤nc)(hfc:A.free.length≤fc)(r:Int)(back:Bool)(v:Int)(hr:U64 r)(hv:I64 v)(M:Nat→Prop)(w:World)(hA:Ft M (fun u=>ArR u na fa A) w):
  FC Tryz.prog 83 [arV na fa nc fc A,.int .u64 r,.bool back,.int .i64 v] w (fun u w'=>Sub w w'∧ArW M w w' (AA2 A r back v) u):=by
 obtain⟨V,P,hm⟩:=AFO A r
 refine As Tryz.func83 rfl Tryz.ntmps83 rfl ?_
 have S:=Ax w
 refine Ac<|Aa rfl<|Bu rfl rfl rfl (fun K I ab R b y=>?_);have S:=S.trans y;have hA:=hA.sub y
 have b:Has I K ([.slice na A.nodes.length nc,.slice fa A.free.length fc]) _:=b
 refine Bu rfl rfl rfl (fun G X aa Q a q=>?_);have S:=S.trans q;have hA:=hA.sub q;have b:=b.sub q;refine Bu rfl rfl rfl (fun F W Z O d o=>?_);have S:=S.trans o;have hA:=hA.sub o;have b:=b.sub o;have a:=a.sub o;refine Bu rfl rfl rfl (fun E U Y N g m=>?_);have S:=S.trans m;have hA:=hA.sub m;have b:=b.sub m;have a:=a.sub m;have d:=d.sub m;refine Ay Fy rfl rfl (fun D T z L c j=>?_);have s:=S.le z;have i:=hA.neNew z;have S:=S.trans j;have hA:=hA.sub j;have b:=b.sub j;have a:=a.sub j;have d:=d.sub j;have g:=g.sub j;refine Ah rfl<|Ah rfl<|Ae<|Ab<|Ac<|Aa rfl<|Ak (.loadR ([.slice na A.nodes.length nc,.slice fa A.free.length fc]) Cb rfl b.row rfl)<|Ba Dm rfl a rfl<|Bi Kw _ Zw rfl rfl rfl rfl rfl rfl rfl (fun t p J H n f=>?_);have S:=S.trans f;have hA:=hA.sub f;have a:=a.sub f;have d:=d.sub f;have g:=g.sub f;have c:=c.sub f;refine Ak (.func (xs:=[]) (ys:=[_,_,_]) rfl rfl)<|Az rfl AJC (ADr 142 ALw [.pointer (some ⟨G,0,none⟩),.pointer (some ⟨F,0,none⟩),.pointer (some ⟨E,0,none⟩)] A na fa nc fc hnc hfc [r] (some ⟨t,0,none⟩) 1 1 rfl (Nat.le_of_ble_eq_true rfl) (fun x hx=>by rw[List.mem_singleton] at hx;rw[hx];exact hr) (fun _=>False) M (fun s' r' e _=>AFi A V back v s' r' e) p hA (Ik (enc:=u6) (l:=[r]) n) (fun _ h=>h.elim) (fun hyes bf C w1 s1 hbf hF _=>FC.mono (AHE A r v back hr hv V P (La hyes).1 (hm (La hyes)) (Sw (La hyes) (hm (La hyes))) bf G F E C w1 hF (a.sub s1) (d.sub s1) (g.sub s1) (fun e=>by have:=a.lt;omega) (fun e=>by have:=d.lt;omega) (fun e=>by have:=g.lt;omega)) (fun u w2 ⟨s',r',e,C',h1,h2,h3,h4,h5,h6⟩=>⟨s',r',e,C',h1,h2,h3,h4.mono fun k _ e=>.inl e,h5,AGI h6⟩))) ?_;rintro _ w1 ⟨ag,na',fa',nc',fc',B,r',e,M',rfl,hu,hnc',hfc',hA',hup,hcp⟩
 have dB8:∀k,M' k→k≠D:=(fun k hk e=>hup.not c.lt (fun e'=>i _ e' rfl) (e▸hk))
 have hup:=hup.le S.size
 have S:=S.trans ag.sub;have c:=c.sub ag.sub
 have hpp:=AEJ hm hcp
 refine Bz rfl rfl<|Bz rfl rfl<|Bz rfl rfl<|At Cb rfl rfl rfl c (fun w3 z3 c a3=>?_);have S:=S.upd a3 s
 have hA':=hA'.updD a3 dB8
 have c:Has w3 D ([.slice na' B.nodes.length nc',.slice fa' B.free.length fc']) _:=c.now (by kernel_rfl)
 refine Ah rfl<|Ah rfl<|Ae<|Ab<|Bo (rs:=[.cell 8 26,.tmp 9,.tmp 10]) (vs:=[_,_,_]) rfl rfl ⟨⟨_,rfl,.inr ⟨[.slice na' B.nodes.length nc',.slice fa' B.free.length fc'],Cb,c.row,rfl⟩⟩,rfl,rfl,trivial⟩ ?_
 exact⟨S,na',fa',nc',fc',B,r',e,M',rfl,hu,hnc',hfc',hA',hup,hpp⟩
def AFC(V:List Int)(back:Bool):List Int:=if back then V.take (V.length-1) else V.drop 1
def AFB(V:List Int)(back:Bool):Int:=if back then V.getD (V.length-1) 0 else V.getD 0 0
def AJh(A:Ar)(V:List Int)(back:Bool)(b10:Nat)(s':St)(r' e:Int)(u:World):Prop :=
 ∃v0,Has u b10 [.int .i64 v0] 2∧I64 v0∧((V=[]∧e=3∧v0=0)∨(0<V.length∧e=0∧Gr V.length (A,0) s'∧(s'.2=0→v0=AFB V back∧∃M,IsR s'.1 r' (AFC V back) M)))
theorem ABN{A:Ar}{r v:Int}{P:List Int}(h:IsR A r [v] P):(getN A r).v=v:=by
 have hr:¬r=0:=fun e=>by have:=(e▸h).zero;simp at this
 obtain⟨x,L,R,P1,P2,hV,_,hx,_⟩:=h.ne hr
 rw[Jl hx]
 cases L with
 |nil=>simp only[List.nil_append,List.cons.injEq] at hV;exact hV.1.symm
 |cons y L=>simp at hV
theorem ABM{A:Ar}{r:Int}(h:∀x∈A.nodes,x.ok):I64 (getN A r).v:=by
 unfold getN
 cases hg:Ch A r with
 |none=>exact(show I64 0 by unfold I64;decide)
 |some x=>exact(h x (Ek hg)).v
theorem AEQ{V:List Int}(h:0<V.length):V.drop (V.length-1)=[V.getD (V.length-1) 0]:=by
 rw[List.drop_eq_getElem_cons (by omega),List.drop_of_length_le (by omega),List.getD_eq_getElem?_getD,List.getElem?_eq_getElem (by omega)];rfl
theorem AEZ{V:List Int}(h:0<V.length):V.take 1=[V.getD 0 0]:=by
 cases V with
 |nil=>simp at h
 |cons a V=>rfl
theorem AIN(n:Nat)(h:0<n)(h2:n≤1000000)(w:World):FC Tryz.prog 214 [.int .i64 (n:Int)] w (Val (.int .i64 ((n-1:Nat):Int)) w):=by
 have:=AKH (n:Int) (by omega) w
 rwa [show(n:Int)-1=((n-1:Nat):Int) by omega] at this
theorem AIP(A:Ar)(r:Int)(back:Bool)(hr:U64 r)(V P:List Int)(hA:AOk A)(hV:IsR A r V P)(hl:V.length≤200)(bf b4 b5 b10:Nat)(C:Nat→Prop)(w:World)(hF:Ft C (Wo bf (A,0) C) w)
  (m4:Has w b4 [.int .u64 r] 31) (m5:Has w b5 [.bool back] 4) (m10:Has w b10 [.int .i64 0] 2) (hn:¬C b10) (n4:b4≠bf) (n5:b5≠bf) (n10:b10≠bf) (n4_10:b4≠b10) (n5_10:b5≠b10) :
  FC Tryz.prog 145 [.pointer (some ⟨bf,0,none⟩),.pointer (some ⟨b4,0,none⟩),.pointer (some ⟨b5,0,none⟩),.pointer (some ⟨b10,0,none⟩)] w (fun u w2=>∃s' r' e C',u=.tuple #[.int .u64 r',.int .i64 e]∧U64 r'∧Ft C' (Wo bf s' C') w2∧Agr (fun k=>k=bf∨k=b10) w w2∧Up C w C'∧Ft (· = b10) (AJh A V back b10 s' r' e) w2):=by
 have hCb:=hF.now.1
 cases back
 ·
  refine As Tryz.func145 rfl Tryz.ntmps145 rfl ?_
  have G:Agr (fun k=>k=bf∨k=b10) w w:=Agr.refl _ _
  have hFb10:∀k,C k→k≠b10:=(fun k hk e=>hn (e▸hk))
  refine Ac<|Aa rfl<|Ah rfl<|Ah rfl<|Ae<|Ab<|Ac<|Ac<|Aa rfl<|Ba Dm rfl m4 rfl<|Bc rfl rfl rfl<|Ae<|Ab<|An rfl (fun h1=>?_) (fun h1=>?_)
  ·
   have hr0:r=0:=h1
   obtain⟨hV0,_⟩:=(hr0▸hV).zero
   refine Ac<|Aa rfl<|Ah rfl<|Ah rfl<|Ae<|Ab<|Bo (rs:=[.tmp 5,.tmp 6]) (vs:=[_,_]) rfl rfl ⟨rfl,rfl,trivial⟩ ?_
   exact⟨(A,0),0,3,C,rfl,zu0,hF,G,Up.refl _ _,⟨fun k e=>e▸m10.lt,fun u a=>⟨0,m10.step a (fun h=>h rfl),by unfold I64;decide,.inl ⟨hV0,rfl,rfl⟩⟩⟩⟩
  ·
   have hr0:¬r=0:=h1
   have hpos:=hV.pos hr0
   refine Ao<|Ab<|Ac<|Aa rfl<|Ba sh4 rfl m5 rfl<|Az rfl AC9 (AAN false w) ?_;rintro _ w2 ⟨rfl,s3⟩;have G:=G.trans s3.agr;have hF:=hF.sub s3;have m4:=m4.sub s3;have m5:=m5.sub s3;have m10:=m10.sub s3;refine Ay Xx rfl rfl (fun j m g l b i=>?_)
   have n4__7:=m4.ne g
   have n5__7:=m5.ne g
   have n10__7:=m10.ne g
   have c:=hF.neNew g
   have geG_7:=Gi G g
   have G:=G.trans i.agr;have hF:=hF.sub i;have m4:=m4.sub i;have m5:=m5.sub i;have m10:=m10.sub i
   have n7f:j≠bf:=fun e=>c bf hCb e.symm
   refine At Yb rfl rfl rfl b (fun w4 z4 b a4=>?_)
   have G:=Dv G a4 geG_7
   have hF:=hF.updD a4 c;have m4:=m4.upd a4 n4__7;have m5:=m5.upd a4 n5__7;have m10:=m10.upd a4 n10__7
   have b:Has w4 j (ACD false) 230:=b
   refine Ae<|Ab<|Ac<|Bs (fun k=>k=bf) [11] w4.heap.size 20 rfl rfl mxo (fun w5 s6=>?_);have f:=m4.lt;have d:=b.lt;have G:=G.trans s6.agr;have hF:=hF.sub s6;have m4:=m4.sub s6;have m5:=m5.sub s6;have m10:=m10.sub s6;have b:=b.sub s6;refine Bl 0 rfl ADg rfl<|Ck 1 rfl AIg rfl b (nE n7f d) rfl<|Bp 2 rfl rfl<|Ck 3 rfl Dm rfl m4 (nE n4 f) rfl<|Bl 4 rfl ADh rfl<|Ck 5 rfl AIh rfl b (nE n7f d) rfl<|Bp 6 rfl rfl<|Ck 7 rfl Dm rfl m4 (nE n4 f) rfl<|Aq 8 rfl<|Az rfl Sa (Jb bf (A,0) C r hr w5 hF) ?_;rintro _ w7 ⟨rfl,s8⟩;have G:=G.trans s8.agr;have hF:=hF.sub s8;have m4:=m4.sub s8;have m5:=m5.sub s8;have m10:=m10.sub s8;have b:=b.sub s8;refine Be s8.agr<|Bg 9 rfl (fun _ _=>.as (v':=.int .i64 (V.length:Int)) (.fieldV Tryz.underlying140 rfl sh2 rfl rfl) (by show Value.int .i64 (getN A r).s=_;rw[Qa,hV.size]))<|Aq 10 rfl<|Dl rfl rfl (us:=[]) (cs:=[]) ALg (AKE (V.length:Int) w7) rfl rfl ?_;rintro _ w9 ⟨rfl,s10⟩;have G:=G.trans s10.agr;have hF:=hF.sub s10;have m4:=m4.sub s10;have m5:=m5.sub s10;have m10:=m10.sub s10;have b:=b.sub s10;refine Be s10.agr<|Aq 11 rfl<|Az rfl AC8 (AF7 bf A hA hV 1 (A,0) C w9 (by omega) (by omega) (Ext.refl _) (fun _ h=>h) hA hr hF) ?_;rintro _ w11 ⟨s1,C1,hg,⟨r1,r2,rfl,hu1,hu2,hi⟩,hF1,ag,up⟩
   have dF1:∀k,C1 k→k≠b10:=fun k hk e=>up.not m10.lt hn (e▸hk)
   have up:=up.le G.size
   have G:=G.trans (ag.mono fun k _ e=>.inl e);have m10:=m10.step ag n10;refine Cv rfl (ag.mono fun k _ e=>.inl e)<|Fv 12 rfl rfl rfl<|Fv 13 rfl rfl rfl<|Aq 14 rfl<|Dl rfl rfl (us:=[]) (cs:=[]) ALf (AKD r1 r2 w11) rfl rfl ?_;rintro _ w13 ⟨rfl,s14⟩;have G:=G.trans s14.agr;have m10:=m10.sub s14;have hF1:=hF1.sub s14;refine Be s14.agr<|Bp 15 rfl rfl<|Fv 16 rfl rfl rfl<|Fv 17 rfl rfl rfl<|Cu 18 rfl rfl<|Cu 19 rfl rfl<|Cp<|Ab<|Ac<|Aa rfl<|Af rfl<|Af rfl<|Az rfl Sa (Jb bf s1 C1 r1 hu1 w13 hF1) ?_;rintro _ w15 ⟨rfl,s16⟩;have G:=G.trans s16.agr;have m10:=m10.sub s16;have hF1:=hF1.sub s16;refine Ak (.fieldV Tryz.underlying140 rfl sh2 rfl rfl)<|At sh2 rfl rfl rfl m10 (fun w17 z17 m10 a17=>?_);have G:=G.trans (a17.mono fun k _ e=>.inr (e));have hF1:=hF1.updD a17 dF1
   have m10:Has w17 b10 ([.int .i64 (getN s1.1 r1).v]) _:=m10
   refine Ae<|Ab<|Ac<|Aa rfl<|Af rfl<|Ah rfl<|Ah rfl<|Ae<|Ab<|Bo (rs:=[.tmp 5,.tmp 6]) (vs:=[_,_]) rfl rfl ⟨rfl,rfl,trivial⟩ ?_
   have hv64:I64 (getN s1.1 r1).v:=ABM hF1.now.nok
   refine⟨s1,r2,0,C1,rfl,hu2,hF1,G,up,⟨fun k e=>e▸m10.lt,fun u a=>⟨_,m10.step a (fun h=>h rfl),hv64,.inr ⟨hpos,rfl,hg,fun h=>?_⟩⟩⟩⟩
   obtain⟨M,N,hM,hN,_⟩:=hi h
   rw[AEZ hpos] at hM
   exact⟨ABN hM,N,hN⟩
 ·
  refine As Tryz.func145 rfl Tryz.ntmps145 rfl ?_
  have G:Agr (fun k=>k=bf∨k=b10) w w:=Agr.refl _ _
  have hFb10:∀k,C k→k≠b10:=(fun k hk e=>hn (e▸hk))
  refine Ac<|Aa rfl<|Ah rfl<|Ah rfl<|Ae<|Ab<|Ac<|Ac<|Aa rfl<|Ba Dm rfl m4 rfl<|Bc rfl rfl rfl<|Ae<|Ab<|An rfl (fun h1=>?_) (fun h1=>?_)
  ·
   have hr0:r=0:=h1
   obtain⟨hV0,_⟩:=(hr0▸hV).zero
   refine Ac<|Aa rfl<|Ah rfl<|Ah rfl<|Ae<|Ab<|Bo (rs:=[.tmp 5,.tmp 6]) (vs:=[_,_]) rfl rfl ⟨rfl,rfl,trivial⟩ ?_
   exact⟨(A,0),0,3,C,rfl,zu0,hF,G,Up.refl _ _,⟨fun k e=>e▸m10.lt,fun u a=>⟨0,m10.step a (fun h=>h rfl),by unfold I64;decide,.inl ⟨hV0,rfl,rfl⟩⟩⟩⟩
  ·
   have hr0:¬r=0:=h1
   have hpos:=hV.pos hr0
   refine Ao<|Ab<|Ac<|Aa rfl<|Ba sh4 rfl m5 rfl<|Az rfl AC9 (AAN true w) ?_;rintro _ w2 ⟨rfl,s3⟩;have G:=G.trans s3.agr;have hF:=hF.sub s3;have m4:=m4.sub s3;have m5:=m5.sub s3;have m10:=m10.sub s3;refine Ay Xx rfl rfl (fun j m g l b i=>?_)
   have n4__7:=m4.ne g
   have n5__7:=m5.ne g
   have n10__7:=m10.ne g
   have c:=hF.neNew g
   have geG_7:=Gi G g
   have G:=G.trans i.agr;have hF:=hF.sub i;have m4:=m4.sub i;have m10:=m10.sub i
   have n7f:j≠bf:=fun e=>c bf hCb e.symm
   refine At Yb rfl rfl rfl b (fun w4 z4 b a4=>?_)
   have G:=Dv G a4 geG_7
   have hF:=hF.updD a4 c;have m4:=m4.upd a4 n4__7;have m10:=m10.upd a4 n10__7
   have b:Has w4 j (ACD true) 230:=b
   refine Ae<|Ab<|Ac<|Bs (fun k=>k=bf) [11] w4.heap.size 20 rfl rfl mxo (fun w5 s6=>?_);have f:=m4.lt;have d:=b.lt;have G:=G.trans s6.agr;have hF:=hF.sub s6;have m4:=m4.sub s6;have m10:=m10.sub s6;have b:=b.sub s6;refine Bl 0 rfl ADg rfl<|Ck 1 rfl AIg rfl b (nE n7f d) rfl<|Bp 2 rfl rfl<|Ck 3 rfl Dm rfl m4 (nE n4 f) rfl<|Bl 4 rfl ADh rfl<|Ck 5 rfl AIh rfl b (nE n7f d) rfl<|Bp 6 rfl rfl<|Ck 7 rfl Dm rfl m4 (nE n4 f) rfl<|Aq 8 rfl<|Az rfl Sa (Jb bf (A,0) C r hr w5 hF) ?_;rintro _ w7 ⟨rfl,s8⟩;have G:=G.trans s8.agr;have hF:=hF.sub s8;have m10:=m10.sub s8;refine Be s8.agr<|Bg 9 rfl (fun _ _=>.as (v':=.int .i64 (V.length:Int)) (.fieldV Tryz.underlying140 rfl sh2 rfl rfl) (by show Value.int .i64 (getN A r).s=_;rw[Qa,hV.size]))<|Aq 10 rfl<|Dl rfl rfl (us:=[]) (cs:=[]) ALj (AIN V.length hpos (by omega) w7) rfl rfl ?_;rintro _ w9 ⟨rfl,s10⟩;have G:=G.trans s10.agr;have hF:=hF.sub s10;have m10:=m10.sub s10;refine Be s10.agr<|Aq 11 rfl<|Az rfl AC8 (AF7 bf A hA hV (V.length-1) (A,0) C w9 (by omega) (by omega) (Ext.refl _) (fun _ h=>h) hA hr hF) ?_;rintro _ w11 ⟨s1,C1,hg,⟨r1,r2,rfl,hu1,hu2,hi⟩,hF1,ag,up⟩
   have dF1:∀k,C1 k→k≠b10:=fun k hk e=>up.not m10.lt hn (e▸hk)
   have up:=up.le G.size
   have G:=G.trans (ag.mono fun k _ e=>.inl e);have m10:=m10.step ag n10;refine Cv rfl (ag.mono fun k _ e=>.inl e)<|Fv 12 rfl rfl rfl<|Fv 13 rfl rfl rfl<|Aq 14 rfl<|Dl rfl rfl (us:=[]) (cs:=[]) ALi (AKG r1 r2 w11) rfl rfl ?_;rintro _ w13 ⟨rfl,s14⟩;have G:=G.trans s14.agr;have m10:=m10.sub s14;have hF1:=hF1.sub s14;refine Be s14.agr<|Bp 15 rfl rfl<|Fv 16 rfl rfl rfl<|Fv 17 rfl rfl rfl<|Cu 18 rfl rfl<|Cu 19 rfl rfl<|Cp<|Ab<|Ac<|Aa rfl<|Af rfl<|Af rfl<|Az rfl Sa (Jb bf s1 C1 r2 hu2 w13 hF1) ?_;rintro _ w15 ⟨rfl,s16⟩;have G:=G.trans s16.agr;have m10:=m10.sub s16;have hF1:=hF1.sub s16;refine Ak (.fieldV Tryz.underlying140 rfl sh2 rfl rfl)<|At sh2 rfl rfl rfl m10 (fun w17 z17 m10 a17=>?_);have G:=G.trans (a17.mono fun k _ e=>.inr (e));have hF1:=hF1.updD a17 dF1
   have m10:Has w17 b10 ([.int .i64 (getN s1.1 r2).v]) _:=m10
   refine Ae<|Ab<|Ac<|Aa rfl<|Af rfl<|Ah rfl<|Ah rfl<|Ae<|Ab<|Bo (rs:=[.tmp 5,.tmp 6]) (vs:=[_,_]) rfl rfl ⟨rfl,rfl,trivial⟩ ?_
   have hv64:I64 (getN s1.1 r2).v:=ABM hF1.now.nok
   refine⟨s1,r1,0,C1,rfl,hu1,hF1,G,up,⟨fun k e=>e▸m10.lt,fun u a=>⟨_,m10.step a (fun h=>h rfl),hv64,.inr ⟨hpos,rfl,hg,fun h=>?_⟩⟩⟩⟩
   obtain⟨M,N,hM,hN,_⟩:=hi h
   rw[AEQ hpos] at hN
   exact⟨ABN hN,M,hM⟩
def AMy(A:Ar)(r:Int)(back:Bool)(M:Nat→Prop)(w w':World)(u:Value):Prop :=
 ∃na fa nc fc B r1 v e M',u=.tuple #[arV na fa nc fc B,.int .u64 r1,.int .i64 v,.int .i64 e]∧U64 r1∧I64 v∧B.nodes.length≤nc∧B.free.length≤fc∧Ft M' (fun u=>ArR u na fa B) w'∧Up M w M' ∧
  (¬isRow A r→e=1)∧(¬e=0→B=ar0∧r1=0∧v=0)∧∀V P,isRow A r→IsR A r V P→(V=[]∧e=3)∨(0<V.length∧e=2∧A.free.length<V.length)∨(0<V.length∧e=0∧v=AFB V back∧Ext A B∧AOk B∧A.free.length≤B.free.length+V.length∧∃M,IsR B r1 (AFC V back) M)
theorem AGY{A B:Ar}{r r1 e:Int}{back:Bool}{b10:Nat}{w w':World}{V P:List Int}(hm:isRow A r→IsR A r V P)(m10:Has w b10 [.int .i64 0] 2)(h:AFk A [r] (AJh A V back b10) (· = b10) w w' B r1 e):
  ∃v,Has w' b10 [.int .i64 v] 2∧I64 v∧(¬isRow A r→e=1)∧(¬e=0→B=ar0∧r1=0)∧∀V P,isRow A r→IsR A r V P→(V=[]∧e=3)∨(0<V.length∧e=2∧A.free.length<V.length)∨(0<V.length∧e=0∧v=AFB V back∧Ext A B∧AOk B∧A.free.length≤B.free.length+V.length∧∃M,IsR B r1 (AFC V back) M):=by
 rcases h with⟨h1,h2,h3,h4,hs⟩|⟨h1,s',r0,e0,hJ,he,h3,h4⟩
 ·exact⟨0,m10.sub hs,by unfold I64;decide,fun _=>h2,fun _=>⟨h3,h4⟩,fun V' P' h=>absurd h (AA7 h1)⟩
 ·have hmap:=La h1
  obtain⟨v,hv,hv64,hJ⟩:=hJ.now
  refine⟨v,hv,hv64,fun h=>absurd hmap h,h3,fun V' P' _ hV'=>?_⟩
  obtain⟨rfl,rfl⟩:=hV'.unique (hm hmap)
  rcases hJ with⟨hb,h5,_⟩|⟨hb,h5,hg,hi⟩
  ·exact .inl ⟨hb,by rw[he,h5];rfl⟩
  ·rw[h5,if_pos rfl] at he
   by_cases h0:s'.2=0
   ·obtain⟨rfl,rfl⟩:=h4 (by rw[he,h0])
    obtain⟨i1,i2⟩:=hi h0
    exact .inr (.inr ⟨hb,by rw[he,h0],i1,hg.gs.ext,hg.gs.ok,hg.gs.free,i2⟩)
   ·have:=hg.gs.full rfl h0
    exact .inr (.inl ⟨hb,by rw[he,this.1],this.2⟩)
theorem AAO(A:Ar)(na fa:Option Addr)(nc fc:Nat)(hnc:A.nodes.length≤nc)(hfc:A.free.length≤fc)(r:Int)(back:Bool)(hr:U64 r)(M:Nat→Prop)(w:World)(hA:Ft M (fun u=>ArR u na fa A) w):
  FC Tryz.prog 84 [arV na fa nc fc A,.int .u64 r,.bool back] w (fun u w'=>Sub w w'∧AMy A r back M w w' u):=by
 obtain⟨V,P,hm⟩:=AFO A r
 refine As Tryz.func84 rfl Tryz.ntmps84 rfl ?_
 have S:=Ax w
 refine Ac<|Aa rfl<|Bu rfl rfl rfl (fun aj ad av an g W=>?_);have S:=S.trans W;have hA:=hA.sub W
 have g:Has ad aj ([.slice na A.nodes.length nc,.slice fa A.free.length fc]) _:=g
 refine Bu rfl rfl rfl (fun Z aq au am f R=>?_);have S:=S.trans R;have hA:=hA.sub R;have g:=g.sub R;refine Bu rfl rfl rfl (fun Y ap ar al o O=>?_);have S:=S.trans O;have hA:=hA.sub O;have g:=g.sub O;have f:=f.sub O;refine Ay Fy rfl rfl (fun J ao X ak b K=>?_);have H:=S.le X;have D:=hA.neNew X;have S:=S.trans K;have hA:=hA.sub K;have g:=g.sub K;have f:=f.sub K;have o:=o.sub K;refine Ah rfl<|Ah rfl<|Ah rfl<|Ae<|Ab<|Ac<|Aa rfl<|Ay ze2 rfl rfl (fun E ah y ac a v=>?_);have z:=S.le y;have G:=g.ne y;have s:=f.ne y;have q:=o.ne y;have d:=b.ne y;have i:=hA.neNew y;have S:=S.trans v;have hA:=hA.sub v;have g:=g.sub v;have f:=f.sub v;have o:=o.sub v;have b:=b.sub v;refine At sh2 rfl rfl rfl a (fun w1 z1 a a1=>?_);have S:=S.upd a1 z;have hA:=hA.updD a1 i;have g:=g.upd a1 G;have f:=f.upd a1 s;have o:=o.upd a1 q;have b:=b.upd a1 d;refine Ae<|Ab<|Ac<|Aa rfl<|Ak (.loadR ([.slice na A.nodes.length nc,.slice fa A.free.length fc]) Cb rfl g.row rfl)<|Ba Dm rfl f rfl<|Bi Kw _ Zw rfl rfl rfl rfl rfl rfl rfl (fun T Q ai aa L t=>?_);have S:=S.trans t;have hA:=hA.sub t;have f:=f.sub t;have o:=o.sub t;have b:=b.sub t;have a:=a.sub t;refine Ak (.func (xs:=[]) (ys:=[_,_,_]) rfl rfl)<|Az rfl AJC (ADr 145 ALv [.pointer (some ⟨Z,0,none⟩),.pointer (some ⟨Y,0,none⟩),.pointer (some ⟨E,0,none⟩)] A na fa nc fc hnc hfc [r] (some ⟨T,0,none⟩) 1 1 rfl (Nat.le_of_ble_eq_true rfl) (fun x hx=>by rw[List.mem_singleton] at hx;rw[hx];exact hr) (· = E) M (AJh A V back E) Q hA (Ik (enc:=u6) (l:=[r]) L) (fun k e=>e▸a.lt) (fun hyes bf C w1 s1 hbf hF hCM=>FC.mono (AIP A r back hr V P (La hyes).1 (hm (La hyes)) (Sw (La hyes) (hm (La hyes))) bf Z Y E C w1 hF (f.sub s1) (o.sub s1) (a.sub s1) (fun e=>(hCM _ e).elim (fun e=>by have:=a.lt;omega) (fun e=>i _ e rfl)) (fun e=>by have:=f.lt;omega) (fun e=>by have:=o.lt;omega) (fun e=>by have:=a.lt;omega) s q) (fun u w2 h=>h))) ?_;rintro _ w2 ⟨ag,na',fa',nc',fc',B,r',e,M',rfl,hu,hnc',hfc',hA',hup,hcp⟩
 obtain⟨v2,hv2,hv64,q1,q2,q3⟩:=AGY hm a hcp
 have dB6:∀k,M' k→k≠J:=(fun k hk e=>hup.not b.lt (fun e'=>D _ e' rfl) (e▸hk))
 have dB10:∀k,M' k→k≠E:=(fun k hk e=>hup.not a.lt (fun e'=>i _ e' rfl) (e▸hk))
 have hup:=hup.le S.size
 have S:=S.agrN ag (fun k e=>e▸z)
 have b:=b.step ag (fun e=>d e)
 have a:=hv2
 refine Af rfl<|Bz rfl rfl<|Bz rfl rfl<|Bz rfl rfl<|Ay Fy rfl rfl (fun U ae I ab c F=>?_);have N:=S.le I;have j:=b.ne I;have p:=a.ne I
 have d_hA'_b_11:=hA'.neNew I
 have S:=S.trans F;have b:=b.sub F;have a:=a.sub F
 have hA':=hA'.sub F
 refine At Cb rfl rfl rfl c (fun w4 z4 c a4=>?_);have S:=S.upd a4 N;have b:=b.upd a4 j;have a:=a.upd a4 p
 have hA':=hA'.updD a4 d_hA'_b_11
 have c:Has w4 U ([.slice na' B.nodes.length nc',.slice fa' B.free.length fc']) _:=c.now (by kernel_rfl)
 refine Ah rfl<|Ah rfl<|Ae<|Ab<|Ac<|Ac<|Aa rfl<|Af rfl<|Bc rfl rfl rfl<|Ae<|Ab<|An rfl (fun h5=>?_) (fun h5=>?_)
 ·
  have he:=h5
  refine Aa rfl<|At sh2 rfl rfl rfl a (fun w6 z6 a a6=>?_);have S:=S.upd a6 z;have b:=b.upd a6 d
  have hA':=hA'.updD a6 dB10
  have c:=c.upd a6 p.symm;refine Ae<|Ab<|Ac<|Bs (fun k=>k=J) [4] w6.heap.size 8 rfl rfl mxo (fun w7 s8=>?_)
  have hNN:∀k,((k=J)∨w6.heap.size≤k)→w.heap.size≤k:=fun k e=>e.elim (fun e=>e▸H) (fun e=>Ad S.size e)
  have hN0:∀k,w6.heap.size≤k→w.heap.size≤k:=fun k e=>Ad S.size e
  have n:=a.lt
  have ltD_hA':=fun k hk=>(hA'.ge k hk).2
  have m:=c.lt;have S:=S.trans s8;have b:=b.sub s8;have a:=a.sub s8
  have hA':=hA'.sub s8
  have c:=c.sub s8;refine Bg 0 rfl (fun w' s'=>.loadR ([.slice na' B.nodes.length nc',.slice fa' B.free.length fc']) Cb rfl (c.step s' (nE j.symm m)).row rfl)<|Bp 1 rfl rfl<|Ck 2 rfl sh2 rfl a (nE d.symm n) rfl<|Bp 3 rfl rfl<|Aq 4 rfl<|At Cb rfl rfl rfl b (fun w9 z9 b a9=>?_);have S:=S.upd a9 H;have a:=a.upd a9 d.symm
  have hA':=hA'.updD a9 dB6
  have c:=c.upd a9 j.symm
  have b:Has w9 J ([.slice na' B.nodes.length nc',.slice fa' B.free.length fc']) _:=b.now (by kernel_rfl)
  refine Cq rfl a9 (rfl)<|Cu 5 rfl rfl<|Cu 6 rfl rfl<|Cu 7 rfl rfl<|Cp<|Ab<|Bo (rs:=[.cell 6 26,.tmp 7,.tmp 8,.tmp 9]) (vs:=[_,_,_,_]) rfl rfl ⟨⟨_,rfl,.inr ⟨[.slice na' B.nodes.length nc',.slice fa' B.free.length fc'],Cb,b.row,rfl⟩⟩,rfl,rfl,rfl,trivial⟩ ?_
  exact⟨S,na',fa',nc',fc',B,r',_,e,M',rfl,hu,by first|exact hv64|(unfold I64;decide),hnc',hfc',hA',hup,q1,fun h=>⟨(q2 h).1,(q2 h).2,by first|rfl|exact absurd he h⟩,fun V' P' h1 h2=>by have:=q3 V' P' h1 h2;first|exact this|(rcases this with h|h|h;exact .inl h;exact .inr (.inl h);exact absurd h.2.1 he)⟩
 ·
  have he:e=0:=Decidable.not_not.1 h5
  refine Ao<|Ab<|Ac<|Bs (fun k=>k=J) [4] w4.heap.size 8 rfl rfl mxo (fun w10 s11=>?_)
  have hNN:∀k,((k=J)∨w4.heap.size≤k)→w.heap.size≤k:=fun k e=>e.elim (fun e=>e▸H) (fun e=>Ad S.size e)
  have hN0:∀k,w4.heap.size≤k→w.heap.size≤k:=fun k e=>Ad S.size e
  have n:=a.lt
  have ltD_hA':=fun k hk=>(hA'.ge k hk).2
  have m:=c.lt;have S:=S.trans s11;have b:=b.sub s11;have a:=a.sub s11
  have hA':=hA'.sub s11
  have c:=c.sub s11;refine Bg 0 rfl (fun w' s'=>.loadR ([.slice na' B.nodes.length nc',.slice fa' B.free.length fc']) Cb rfl (c.step s' (nE j.symm m)).row rfl)<|Bp 1 rfl rfl<|Ck 2 rfl sh2 rfl a (nE d.symm n) rfl<|Bp 3 rfl rfl<|Aq 4 rfl<|At Cb rfl rfl rfl b (fun w12 z12 b a12=>?_);have S:=S.upd a12 H
  have hA':=hA'.updD a12 dB6
  have b:Has w12 J ([.slice na' B.nodes.length nc',.slice fa' B.free.length fc']) _:=b.now (by kernel_rfl)
  refine Cq rfl a12 (rfl)<|Cu 5 rfl rfl<|Cu 6 rfl rfl<|Cu 7 rfl rfl<|Cp<|Ab<|Bo (rs:=[.cell 6 26,.tmp 7,.tmp 8,.tmp 9]) (vs:=[_,_,_,_]) rfl rfl ⟨⟨_,rfl,.inr ⟨[.slice na' B.nodes.length nc',.slice fa' B.free.length fc'],Cb,b.row,rfl⟩⟩,rfl,rfl,rfl,trivial⟩ ?_
  exact⟨S,na',fa',nc',fc',B,r',_,e,M',rfl,hu,by first|exact hv64|(unfold I64;decide),hnc',hfc',hA',hup,q1,fun h=>⟨(q2 h).1,(q2 h).2,by first|rfl|exact absurd he h⟩,fun V' P' h1 h2=>by have:=q3 V' P' h1 h2;first|exact this|(rcases this with h|h|h;exact .inl h;exact .inr (.inl h);exact absurd h.2.1 he)⟩
def AIm(b6 b8 b7:Nat):Value:=.func (.func 98) #[] #[.pointer (some ⟨b6,0,none⟩),.pointer (some ⟨b8,0,none⟩),.pointer (some ⟨b7,0,none⟩)]
structure RW (w0:World) (E b6 b8 b7 b15:Nat) (C:Nat→Prop) (A:Ar) (out:List Int) (a:Option Addr) (c:Nat) (w:World):Prop where
 h6:Has w b6 [.pointer (some ⟨b15,0,none⟩)] 180
 h8:Has w b8 [AIm b6 b8 b7] 183
 h7:Has w b7 [.slice a (out.map fun x=>[i6 x]).length c] 43
 hF:Ft C (Wo b15 (A,0) C) w
 o:Ows E w 2 1 (.slice a (out.map fun x=>[i6 x]).length c) (out.map fun x=>[i6 x])
 sz:E≤w.heap.size
 S:Sub w0 w
structure RWok (w0:World) (E b6 b8 b7:Nat) (C:Nat→Prop):Prop where
 l6:b6<E
 l8:b8<E
 l7:b7<E
 n67:b6≠b7
 n87:b8≠b7
 dC:∀k,C k→k≠b7
 dE:∀k,C k→k<E
 g7:w0.heap.size≤b7
 gE:w0.heap.size≤E
set_option maxHeartbeats 1000000 in
theorem AIO(w0:World)(E b6 b8 b7 b15:Nat)(C:Nat→Prop)(hB:RWok w0 E b6 b8 b7 C)(A:Ar){r:Int}{V P:List Int}(hV:IsR A r V P):∀(out:List Int) (a:Option Addr) (c:Nat) (K:Nat→Prop) (I:World→Prop) (w:World),U64 r→out.length+V.length≤1000→RW w0 E b6 b8 b7 b15 C A out a c w→Ft K I w→(∀k,K k→k≠b7)→(∀k,ob (.slice a (out.map fun x=>[i6 x]).length c)=some k→K k→False) →
  FC Tryz.prog 98 [.int .u64 r,.pointer (some ⟨b6,0,none⟩),.pointer (some ⟨b8,0,none⟩),.pointer (some ⟨b7,0,none⟩)] w (fun _ w'=>∃a' c',RW w0 E b6 b8 b7 b15 C A (out++V) a' c' w'∧Ft K I w'∧∀k,ob (.slice a' ((out++V).map fun x=>[i6 x]).length c')=some k→K k→False):=by
 obtain⟨l6,l8,l7,n67,n87,dC,dE,g7,gE⟩:=hB
 induction hV with
 |nil =>
  intro out a c K I w hr hl hs hI hK7 hKo
  refine As Tryz.func98 rfl Tryz.ntmps98 rfl ?_
  refine Ac<|Ac<|Aa rfl<|Af rfl<|Bc rfl rfl rfl<|Ae<|Ab<|An rfl (fun h1=>?_) (fun h1=>?_)
  ·
   refine Bo (rs:=[]) (vs:=[]) rfl rfl trivial ?_
   rw[List.append_nil]
   exact⟨a,c,hs,hI,hKo⟩
  ·
   exact absurd rfl h1
 | @node r g v ra rb L R P Q t1 t2 t3 t4 ih1 ih2 =>
  intro out a c K I w hr hl hs hI hK7 hKo
  obtain⟨x,hx,hxv,hxa,hxb⟩:∃x,Ch A r=some x∧x.v=v∧x.k0=ra∧x.k1=rb:=⟨_,t1,rfl,rfl,rfl⟩
  obtain⟨q6,q8,q7,hF,o,szB,S⟩:=hs
  have hgx:=Jl hx
  have hxo:=hF.now.nok x (Ek hx)
  have hr0:¬r=0:=fun e=>by rw[e,Oi] at hx;cases hx
  have hk0:U64 x.k0:=hxo.kids _ (by simp[Node.kids])
  have hk1:U64 x.k1:=hxo.kids _ (by simp[Node.kids])
  clear t1
  subst hxv hxa hxb
  rw[Ag,Al] at hl
  have ge7:=g7
  have ge6:True:=trivial
  refine As Tryz.func98 rfl Tryz.ntmps98 rfl ?_
  have doF:∀k,ob (.slice a (out.map fun x=>[i6 x]).length c)=some k→C k→False:=(fun k h1 h2=>by have:=(o.ge k h1).1;have:=dE k h2;omega)
  refine Ac<|Ac<|Aa rfl<|Af rfl<|Bc rfl rfl rfl<|Ae<|Ab<|An rfl (fun h1=>?_) (fun h1=>?_)
  ·
   exact absurd h1 hr0
  ·
   refine Ao<|Ab<|Ac<|Aa rfl<|Ba AIk rfl q6 rfl<|Af rfl<|Az rfl Sa ((hgx▸Jb b15 (A,0) C r hr w hF)) ?_;rintro _ w2 ⟨rfl,s3⟩;have S:=S.trans s3;have q6:=q6.sub s3;have q8:=q8.sub s3;have q7:=q7.sub s3;have hF:=hF.sub s3;have o:=o.sub s3;have hI:=hI.sub s3;have szB:=Ad szB s3.size;refine Ay Dx rfl rfl (fun D X s W b p=>?_);have F:=S.le s
   have n6__5:=q6.ne s
   have n8__5:=q8.ne s
   have n7__5:=q7.ne s
   have n:=hF.neNew s;have h:=o.neNew s;have m:=hI.neNew s;have S:=S.trans p;have q6:=q6.sub p;have q8:=q8.sub p;have q7:=q7.sub p;have hF:=hF.sub p;have o:=o.sub p;have hI:=hI.sub p;have szB:=Ad szB p.size;refine At Ct rfl rfl rfl b (fun w4 z4 b a4=>?_);have S:=S.upd a4 F;have q6:=q6.upd a4 n6__5;have q8:=q8.upd a4 n8__5;have q7:=q7.upd a4 n7__5;have hF:=hF.updD a4 n;have o:=o.updD a4 h;have hI:=hI.updD a4 m;have szB:=Ad szB a4.size
   have b:Has w4 D (x.cells) _:=b.now (by kernel_rfl)
   refine Ae<|Ab<|Ac<|Aa rfl<|Ba Uw rfl q8 rfl<|Av Da rfl<|Ak (.indexArr Eb rfl rfl (by omega))<|Ba Dm rfl b rfl<|Dl rfl rfl (us:=[]) (cs:=[.pointer (some ⟨b6,0,none⟩),.pointer (some ⟨b8,0,none⟩),.pointer (some ⟨b7,0,none⟩)]) AJY (ih1 out a c (fun k=>K k∨k=D) (fun u=>Ft K I u∧Has u D x.cells 140) w4 hk0 (by omega) ⟨q6,q8,q7,hF,o,szB,S⟩ (hI.self.and b.ft) (fun k hk=>hk.elim (hK7 k) (fun e e2=>by omega)) (fun k h1 h2=>h2.elim (hKo k h1) (fun e=>h k h1 e))) rfl rfl ?_;rintro _ w5 ⟨a2,c2,⟨q6,q8,q7,hF,o,szB,S⟩,hI2,hKo2⟩
   have hI:=hI2.now.1
   have b:=hI2.now.2
   have hKo3:∀k,ob (.slice a2 ((out++L).map fun x=>[i6 x]).length c2)=some k→K k→False:=(fun k h1 h2=>hKo2 k h1 (.inl h2))
   have j:∀k,ob (.slice a2 ((out++L).map fun x=>[i6 x]).length c2)=some k→k≠D:=(fun k h1 h2=>hKo2 k h1 (.inr h2))
   have doF2:∀k,ob (.slice a2 ((out++L).map fun x=>[i6 x]).length c2)=some k→C k→False:=(fun k h1 h2=>by have:=(o.ge k h1).1;have:=dE k h2;omega)
   obtain⟨O,hO⟩:∃O,O=out++L:=⟨_,rfl⟩
   rw[←hO] at q7 o hKo3 j doF2
   have hOl:O.length=out.length+L.length:=(by rw[hO,Ag])
   have do6:∀k,ob (.slice a2 (O.map fun x=>[i6 x]).length c2)=some k→k≠b6:=(fun k hk e=>by have:=(o.ge k hk).1;omega)
   have do8:∀k,ob (.slice a2 (O.map fun x=>[i6 x]).length c2)=some k→k≠b8:=(fun k hk e=>by have:=(o.ge k hk).1;omega)
   have do7:∀k,ob (.slice a2 (O.map fun x=>[i6 x]).length c2)=some k→k≠b7:=(fun k hk e=>by have:=(o.ge k hk).1;omega)
   refine Ae<|Ab<|Ac<|Aa rfl<|Ba AE9 rfl q7 rfl<|Av Hv rfl<|Ba sh2 rfl b rfl<|Bi Ni _ ze2 rfl rfl rfl rfl rfl rfl rfl (fun U M t H q f=>?_)
   have n6__19:=q6.ne t
   have n8__19:=q8.ne t
   have n7__19:=q7.ne t
   have S:=S.trans f;have q6:=q6.sub f;have q8:=q8.sub f;have q7:=q7.sub f;have hF:=hF.sub f;have o:=o.sub f;have hI:=hI.sub f;have szB:=Ad szB f.size;have b:=b.sub f;have G:=S.size
   have ltb6_20:=q6.lt
   have ltb8_20:=q8.lt
   have ltb7_20:=q7.lt
   have ltb_5_20:=b.lt
   have ltb_19_20:=q.lt
   refine De (base:=E) (rows:=O.map fun x=>[i6 x]) (news:=[_]) Ni ze2 rfl rfl rfl rfl (.inl o) (Dr q) rfl (by intro r hr;rw[List.mem_singleton] at hr;subst hr;rfl) rfl (by(try simp only[Aj,Am,Ag,Al]);omega) (by(try simp only[Aj,Am,Ag,Al]);omega) (by omega) rfl rfl (fun N J hc_20 y d ob_20=>?_)
   have o20:=y (.inl (by simp))
   rw[show _++[_]=((O++[x.v]).map fun x=>[i6 x]) from by rw[List.map_append];rfl] at o20
   have l:=Ng ob_20 do7 q7.lt;have i:=AHb ob_20 hKo3 (fun k hk=>(hI.ge k hk).2)
   have S:=S.agrN d (fun k e=>Ad (by omega) e.2)
   have q6:=q6.step d (fun e=>do6 _ e.1 rfl);have q8:=q8.step d (fun e=>do8 _ e.1 rfl);have q7:=q7.step d (fun e=>do7 _ e.1 rfl);have hF:=hF.step d (fun k hk e=>doF2 k e.1 hk);have hI:=hI.step d (fun k hk e=>hKo3 k e.1 hk);have szB:=Ad szB d.size;have b:=b.step d (fun e=>j _ e.1 rfl)
   obtain⟨B,z,rfl,T⟩:=o20.form
   refine At AE9 rfl rfl rfl q7 (fun w7 z7 q7 a7=>?_);have S:=S.upd a7 ge7;have q6:=q6.upd a7 n67;have q8:=q8.upd a7 n87;have hF:=hF.updD a7 dC;have hI:=hI.updD a7 hK7;have szB:=Ad szB a7.size;have b:=b.upd a7 n7__5.symm;have o20:=o20.updD a7 l
   have q7:Has w7 b7 ([.slice B ((O++[x.v]).map fun x=>[i6 x]).length z]) _:=q7
   refine Ae<|Ab<|Aa rfl<|Ba Uw rfl q8 rfl<|Av Da rfl<|Ak (.indexArr Eb rfl rfl (by omega))<|Ba Dm rfl b rfl<|Dl rfl rfl (us:=[]) (cs:=[.pointer (some ⟨b6,0,none⟩),.pointer (some ⟨b8,0,none⟩),.pointer (some ⟨b7,0,none⟩)]) AJY (ih2 (O++[x.v]) B z K I w7 hk1 (by simp only[Ag,List.length_singleton];omega) ⟨q6,q8,q7,hF,o20,szB,S⟩ hI hK7 i) rfl rfl ?_;rintro _ w8 ⟨a4,c4,hs4,hI4,hKo4⟩;refine Ae ?_
   refine fun a ka=>⟨ka.defers,_,Dg (rs:=[]) (vs:=[]) ka rfl trivial,?_⟩
   rw[show out++(L++x.v::R)=O++[x.v]++R by rw[hO];simp]
   exact⟨a4,c4,hs4,hI4,hKo4⟩
theorem AIR(A:Ar)(na fa:Option Addr)(nc fc:Nat)(hnc:A.nodes.length≤nc)(hfc:A.free.length≤fc)(r:Int)(hr:U64 r)(w:World)(hA:ArR w na fa A):
  FC Tryz.prog 44 [arV na fa nc fc A,.int .u64 r] w (fun v w'=>Sub w w'∧∃a c V e,v=.tuple #[.slice a (V.map fun x=>[i6 x]).length c,.int .i64 e]∧V.length≤c∧Ows w.heap.size w' 2 1 (.slice a (V.map fun x=>[i6 x]).length c) (V.map fun x=>[i6 x])∧(¬isRow A r→V=[]∧e=1)∧∀V' P,isRow A r→IsR A r V' P→V=V'∧e=0):=by
 have hN:=hA.nodes
 have hFr:=hA.free
 have hG:Ft (· < w.heap.size) (fun u=>ArR u na fa A) w:=Hm fun u s=>hA.sub s
 obtain⟨V,P,hm⟩:=AFO A r
 refine As Tryz.func44 rfl Tryz.ntmps44 rfl ?_
 have S:=Ax w
 refine Ac<|Aa rfl<|Bu rfl rfl rfl (fun W O ae aa g U=>?_);have S:=S.trans U
 have g:Has O W ([.slice na A.nodes.length nc,.slice fa A.free.length fc]) _:=g
 refine Ah rfl<|Ah rfl<|Ae<|Ab<|Ac<|Ac<|Aa rfl<|Ak (.loadR ([.slice na A.nodes.length nc,.slice fa A.free.length fc]) Cb rfl g.row rfl)<|Af rfl<|Az rfl AMR (AHI A na fa nc fc hnc hfc r hr O (hA.sub S)) ?_;rintro _ w1 ⟨rfl,s2⟩;have S:=S.trans s2;have g:=g.sub s2;refine Ak (.not rfl)<|Ae<|Ab<|Db rfl (fun h3=>?_) (fun h3=>?_)
 ·
  have hno:¬isRow A r:=(fun h=>by have h2:=h3;rw[Qj h] at h2;cases h2)
  refine Ac<|Aa rfl<|Ah rfl<|Ah rfl<|Ae<|Ab<|Bo (rs:=[.tmp 4,.tmp 5]) (vs:=[_,_]) rfl rfl ⟨rfl,rfl,trivial⟩ ?_
  exact⟨S,none,0,[],1,rfl,Nat.le_refl _,Ows.nil _ _ _ _,fun _=>⟨rfl,rfl⟩,fun V' P' h=>absurd h hno⟩
 ·
  have hmap:isRow A r:=(Kk A r).1 (by simpa using h3)
  have hV:=hm hmap
  have hVl:=Sw hmap hV
  refine Ao<|Ab<|Ac<|Aa rfl<|Ak (.loadR ([.slice na A.nodes.length nc,.slice fa A.free.length fc]) Cb rfl g.row rfl)<|Ak (.buildS AFJ AFS rfl rfl)<|Bu rfl rfl rfl (fun p G N T j I=>?_);have y:=S.le N;have S:=S.trans I
  have j:Has G p (wvC na fa nc fc A 0) 182:=j
  have hG1:=hG.sub S
  have hF:=FoG.ft (s:=(A,0)) j hnc hfc hG1 (fun e=>by have:=y;omega)
  refine Ay AKz rfl rfl (fun F ad R Z b Q=>?_);have L:=S.le R;have n:=hF.neNew R;have S:=S.trans Q;have hF:=hF.sub Q;refine At AIk rfl rfl rfl b (fun w4 z4 b a4=>?_);have S:=S.upd a4 L;have hF:=hF.updD a4 n;refine Ae<|Ab<|Ac<|Aa rfl<|Ay AMK rfl rfl (fun B ac M Y d H=>?_);have K:=S.le M;have t:=b.ne M;have m:=hF.neNew M;have S:=S.trans H;have hF:=hF.sub H;have b:=b.sub H
  have dF7:∀k,(k=p∨k<w.heap.size)→k≠B:=m
  refine Ae<|Ab<|Ac<|Aa rfl<|Ay AIc rfl rfl (fun z ab D X f C=>?_);have J:=S.le D;have q:=b.ne D;have i:=d.ne D;have l:=hF.neNew D;have S:=S.trans C;have hF:=hF.sub C;have b:=b.sub C;have d:=d.sub C;refine Ae<|Ab<|Ac<|Aa rfl<|Ak (.func (xs:=[]) (ys:=[_,_,_]) rfl rfl)<|At Uw rfl rfl rfl f (fun w5 z5 f a5=>?_);have S:=S.upd a5 J;have hF:=hF.updD a5 l;have b:=b.upd a5 q;have d:=d.upd a5 i
  have f:Has w5 z ([AIm F z B]) _:=f
  obtain⟨E,hE⟩:∃E,E=w5.heap.size:=⟨_,rfl⟩
  have l6:=b.lt
  have l7:=d.lt
  have l8:=f.lt
  have lF:=hF.lt
  have szS:=S.size
  rw[←hE] at l6 l7 l8 lF szS
  have hB:RWok w E F z B (fun k=>k=p∨k<w.heap.size):=⟨l6,l8,l7,t,i.symm,dF7,lF,K,szS⟩
  refine Ae<|Ab<|Ac<|Aa rfl<|Ba Uw rfl f rfl<|Af rfl<|Dl rfl rfl (us:=[]) (cs:=[.pointer (some ⟨F,0,none⟩),.pointer (some ⟨z,0,none⟩),.pointer (some ⟨B,0,none⟩)]) AJY (AIO w E F z B p _ hB A hV [] none 0 (fun _=>False) (fun _=>True) w5 hr (by simp only[Am];omega) ⟨b,f,d,hF,Ows.nil _ _ _ _,by rw[hE];exact Nat.le_refl _,S⟩ ⟨fun _ h=>h.elim,fun _ _=>trivial⟩ (fun _ h=>h.elim) (fun _ _ h=>h.elim)) rfl rfl ?_;rintro _ w6 ⟨a2,c2,⟨q6,q8,d,hF,o,szB,S⟩,_,_⟩
  rw[List.nil_append] at d o
  refine Ae<|Ab<|Ac<|Aa rfl<|Ba AE9 rfl d rfl<|Ah rfl<|Ah rfl<|Ae<|Ab<|Bo (rs:=[.tmp 4,.tmp 5]) (vs:=[_,_]) rfl rfl ⟨rfl,rfl,trivial⟩ ?_
  have hoc:V.length≤c2:=(by obtain⟨_,c',e,h⟩:=o.form;cases e;rw[Aj] at h;exact h)
  exact⟨S,a2,c2,V,0,rfl,hoc,o.low szS,fun h=>absurd hmap h,fun V' P' _ hV'=>⟨(hV'.unique hV).1,rfl⟩⟩
theorem AH7(A:Ar)(na fa:Option Addr)(nc fc:Nat)(hnc:A.nodes.length≤nc)(hfc:A.free.length≤fc)(r:Int)(hr:U64 r)(w:World)(hA:ArR w na fa A):
  FC Tryz.prog 15 [arV na fa nc fc A,.int .u64 r] w (fun v w'=>Sub w w'∧∃a c rows e,v=.tuple #[.slice a rows.length c,.int .i64 e]∧rows.length≤c∧Ows w.heap.size w' 51 2 (.slice a rows.length c) (rows.map It.cells)∧(¬isTab A r→rows=[]∧e=1)∧(isTab A r→rows=Ko A r∧e=0)):=by
 have hNd:=hA.nodes
 have hFr:=hA.free
 refine As Tryz.func15 rfl Tryz.ntmps15 rfl ?_
 have S:=Ax w
 refine Ac<|Aa rfl<|Bu rfl rfl rfl (fun g d j i b f=>?_);have S:=S.trans f
 have b:Has d g ([.slice na A.nodes.length nc,.slice fa A.free.length fc]) _:=b
 refine Ah rfl<|Ah rfl<|Ae<|Ab<|Ac<|Ac<|Aa rfl<|Ak (.loadR ([.slice na A.nodes.length nc,.slice fa A.free.length fc]) Cb rfl b.row rfl)<|Af rfl<|Az rfl AMa (AHC A na fa nc fc hnc hfc r hr d (hA.sub S)) ?_;rintro _ w1 ⟨rfl,s2⟩;have S:=S.trans s2;have b:=b.sub s2;refine Ak (.not rfl)<|Ae<|Ab<|Db rfl (fun h3=>?_) (fun h3=>?_)
 ·
  have hno:¬isTab A r:=(fun h=>by have h2:=h3;rw[ACh h] at h2;cases h2)
  refine Ac<|Aa rfl<|Ah rfl<|Ah rfl<|Ae<|Ab<|Bo (rs:=[.tmp 4,.tmp 5]) (vs:=[_,_]) rfl rfl ⟨rfl,rfl,trivial⟩ ?_
  exact⟨S,none,0,[],1,rfl,Nat.le_refl _,Ows.nil _ _ _ _,fun _=>⟨rfl,rfl⟩,fun h=>absurd h hno⟩
 ·
  have hyes:isTab A r:=(Mp A r).1 (by simpa using h3)
  obtain⟨_,L,hT,hap,hl⟩:=id hyes
  refine Ao<|Ab<|Ac<|Aa rfl<|Ak (.loadR ([.slice na A.nodes.length nc,.slice fa A.free.length fc]) Cb rfl b.row rfl)<|Af rfl<|Az rfl AMY (AEj A na fa nc fc r w1) ?_;rintro _ w4 ⟨bA,bR,rfl,hbA,hbR,s5⟩;have S:=S.trans s5;refine Az rfl AMZ (AEt A na fa nc fc r hr L hT hl bA bR w4 (hA.sub S) hbA hbR) ?_;rintro _ w6 ⟨s7,a1,c1,rfl,o⟩
  have o:=o.low S.size
  have S:=S.trans s7;refine Ah rfl<|Ah rfl<|Ae<|Ab<|Bo (rs:=[.tmp 4,.tmp 5]) (vs:=[_,_]) rfl rfl ⟨rfl,rfl,trivial⟩ ?_
  exact⟨S,a1,c1,Ko A r,0,by rw[Aj];rfl,(by obtain⟨_,c',e,h⟩:=o.form;cases e;rw[Aj] at h;exact h),(by rw[Aj] at o;exact o),fun h=>absurd hyes h,fun _=>⟨rfl,rfl⟩⟩
def ACV:Go.Shelf.Ren:=⟨fun|6=>47|15=>106|14=>105|28=>180|29=>181|20=>172|21=>173|22=>174|23=>175|24=>176|25=>177|26=>178|27=>179|46=>233|47=>234|48=>235|49=>236|50=>237|57=>275|n=>n,fun|22=>42|24=>51|25=>121|3=>3|39=>190|0=>0|53=>263|55=>30|4=>4|46=>257|45=>256|50=>151|5=>5|9=>9|66=>311|70=>315|76=>350|77=>351|n=>n,fun n=>n⟩
theorem AFm:SlLaysF0.n6 Tryz.prog ACV:={
 mixed:=by kernel_rfl,
 f6:=⟨Tryz.f47.name,by decide,Tryz.func47.trans (congrArg some (by kernel_rfl))⟩,
 f14:=⟨Tryz.f105.name,by decide,Tryz.func105.trans (congrArg some (by kernel_rfl))⟩,
 f15:=Tryz.func106.trans (congrArg some (by kernel_rfl)),
 f20:=⟨Tryz.f172.name,by decide,Tryz.func172.trans (congrArg some (by kernel_rfl))⟩,
 f21:=⟨Tryz.f173.name,by decide,Tryz.func173.trans (congrArg some (by kernel_rfl))⟩,
 f22:=⟨Tryz.f174.name,by decide,Tryz.func174.trans (congrArg some (by kernel_rfl))⟩,
 f23:=⟨Tryz.f175.name,by decide,Tryz.func175.trans (congrArg some (by kernel_rfl))⟩,
 f24:=⟨Tryz.f176.name,by decide,Tryz.func176.trans (congrArg some (by kernel_rfl))⟩,
 f25:=⟨Tryz.f177.name,by decide,Tryz.func177.trans (congrArg some (by kernel_rfl))⟩,
 f26:=⟨Tryz.f178.name,by decide,Tryz.func178.trans (congrArg some (by kernel_rfl))⟩,
 f27:=⟨Tryz.f179.name,by decide,Tryz.func179.trans (congrArg some (by kernel_rfl))⟩,
 f28:=Tryz.func180.trans (congrArg some (by kernel_rfl)),
 f29:=Tryz.func181.trans (congrArg some (by kernel_rfl)),
 f46:=⟨Tryz.f233.name,by decide,Tryz.func233.trans (congrArg some (by kernel_rfl))⟩,
 f47:=Tryz.func234.trans (congrArg some (by kernel_rfl)),
 f48:=Tryz.func235.trans (congrArg some (by kernel_rfl)),
 f49:=⟨Tryz.f236.name,by decide,Tryz.func236.trans (congrArg some (by kernel_rfl))⟩,
 f50:=⟨Tryz.f237.name,by decide,Tryz.func237.trans (congrArg some (by kernel_rfl))⟩,
 f57:=⟨Tryz.f275.name,by decide,Tryz.func275.trans (congrArg some (by kernel_rfl))⟩,
 t0:=Tryz.underlying0,
 a0:=Tryz.isAgg0,
 z0:=Tryz.sizeOf0,
 v0:=Tryz.zeroValue0,
 t3:=Tryz.underlying3,
 a3:=Tryz.isAgg3,
 z3:=Tryz.sizeOf3,
 v3:=Tryz.zeroValue3,
 t4:=Tryz.underlying4,
 a4:=Tryz.isAgg4,
 z4:=Tryz.sizeOf4,
 v4:=Tryz.zeroValue4,
 t5:=Tryz.underlying5,
 a5:=Tryz.isAgg5,
 z5:=Tryz.sizeOf5,
 v5:=Tryz.zeroValue5,
 t9:=Tryz.underlying9,
 a9:=Tryz.isAgg9,
 z9:=Tryz.sizeOf9,
 v9:=Tryz.zeroValue9,
 t22:=Tryz.underlying42,
 a22:=Tryz.isAgg42,
 z22:=Tryz.sizeOf42,
 v22:=Tryz.zeroValue42,
 t25:=Tryz.underlying121,
 a25:=Tryz.isAgg121,
 z25:=Tryz.sizeOf121,
 v25:=Tryz.zeroValue121,
 t39:=Tryz.underlying190,
 a39:=Tryz.isAgg190,
 z39:=Tryz.sizeOf190,
 v39:=Tryz.zeroValue190,
 t45:=Tryz.underlying256,
 a45:=Tryz.isAgg256,
 z45:=Tryz.sizeOf256,
 v45:=Tryz.zeroValue256,
 t46:=Tryz.underlying257,
 a46:=Tryz.isAgg257,
 z46:=Tryz.sizeOf257,
 v46:=Tryz.zeroValue257,
 t50:=Tryz.underlying151,
 a50:=Tryz.isAgg151,
 z50:=Tryz.sizeOf151,
 v50:=Tryz.zeroValue151,
 t53:=Tryz.underlying263,
 a53:=Tryz.isAgg263,
 z53:=Tryz.sizeOf263,
 v53:=Tryz.zeroValue263,
 t55:=Tryz.underlying30,
 a55:=Tryz.isAgg30,
 z55:=Tryz.sizeOf30,
 v55:=Tryz.zeroValue30,
 t66:=Tryz.underlying311,
 a66:=Tryz.isAgg311,
 z66:=Tryz.sizeOf311,
 v66:=Tryz.zeroValue311,
 t70:=Tryz.underlying315,
 a70:=Tryz.isAgg315,
 z70:=Tryz.sizeOf315,
 v70:=Tryz.zeroValue315,
 t76:=Tryz.underlying350,
 a76:=Tryz.isAgg350,
 z76:=Tryz.sizeOf350,
 v76:=Tryz.zeroValue350,
 t77:=Tryz.underlying351,
 a77:=Tryz.isAgg351,
 z77:=Tryz.sizeOf351,
 v77:=Tryz.zeroValue351}
def ACk:Go.Shelf.Ren:=⟨fun|5=>49|7=>107|n=>n,fun|22=>2|3=>3|4=>4|n=>n,fun n=>n⟩
theorem AJx:SlLaysC2.n5 Tryz.prog ACk:={
 mixed:=by kernel_rfl,
 f5:=⟨Tryz.f49.name,by decide,Tryz.func49.trans (congrArg some (by kernel_rfl))⟩,
 f7:=⟨Tryz.f107.name,by decide,Tryz.func107.trans (congrArg some (by kernel_rfl))⟩,
 t3:=Tryz.underlying3,
 a3:=Tryz.isAgg3,
 z3:=Tryz.sizeOf3,
 v3:=Tryz.zeroValue3,
 t4:=Tryz.underlying4,
 a4:=Tryz.isAgg4,
 z4:=Tryz.sizeOf4,
 v4:=Tryz.zeroValue4,
 t22:=Tryz.underlying2,
 a22:=Tryz.isAgg2,
 z22:=Tryz.sizeOf2,
 v22:=Tryz.zeroValue2}
theorem Xa(p:Option Addr)(cap:Nat)(fv:Value)(w:World):FC Tryz.prog 47 [.slice p 0 cap,fv] w (Val (.tuple #[]) w) :=
 Calls.mono (AnyF.slices_SortFunc_none AFm p cap fv w) fun e w' h=>⟨_,h.1,rfl,h.2▸Ax _⟩
theorem AIL(x y:It)(W:World):Calls Tryz.prog 48 #[.agg x.cells.toArray,.agg y.cells.toArray] W fun e w'=>e=.returned (.int .i64 (Lib.compareInt x.k y.k))∧∃q os',w'=Sort.grow (W.drewN q) os':=by
 have hcon:=fun W'=>AnyG.cmp_Compare_int AJx x.k y.k W'
 change ∀W',Calls Tryz.prog 49 _ _ _ at hcon
 generalize Lib.compareInt x.k y.k=r at hcon ⊢
 unfold It.cells
 go_enter Tryz.func48,Tryz.ntmps48
 go_wp2_with (go_at_call 49;refine(hcon _).mono ?_;rintro e w' ⟨rfl,rfl⟩)
 go_ret
 exact⟨rfl,0,_,by rw[Sort.alloc_eq_grow,Sort.alloc_eq_grow,Sort.grow_grow];rfl⟩
theorem ltK(x y:It):ltOf (fun x y:It=>Lib.compareInt x.k y.k) x y=decide (x.k<y.k):=by
 unfold ltOf Lib.compareInt
 by_cases h1:x.k<y.k
 ·simp[h1]
 ·by_cases h2:y.k<x.k<;>simp[h1,h2]
theorem AMM:Sort.SWO (ltOf fun x y:It=>Lib.compareInt x.k y.k) where
 irrefl x:=by rw[ltK];simp
 trans x y z h1 h2:=by rw[ltK] at *;simp at *;omega
 ntrans x y z h1 h2:=by rw[ltK] at *;simp at *;omega
instance inhIt:Inhabited It:=⟨⟨0,0⟩⟩
theorem Wp(l:List It):Sort.flatK It.cells 2 l.toArray=((l.map It.cells).flatten).toArray:=by
 have hl:∀r∈l.map It.cells,r.length=2:=Of
 have hz:((l.map It.cells).flatten).length=l.length*2:=by rw[Cy _ hl,Aj]
 apply Array.ext
 ·rw[Sort.size_flatK];simp[hz]
 ·intro t h1 h2
  rw[Sort.size_flatK] at h1
  have h1':t<l.length*2:=by simpa using h1
  have g:=Sort.get_flatK It.cells 2 l.toArray t h1
  have hi:t/2<l.length:=by omega
  have hf:=Ip (l.map It.cells) hl (t/2) (t%2) (It.cells l[t/2]) (by rw[List.getElem?_map,List.getElem?_eq_getElem hi];rfl) (Nat.mod_lt _ (by decide))
  have et:t/2*2+t%2=t:=by omega
  rw[et] at hf
  rw[getElem!_pos _ t (by rw[Sort.size_flatK];exact h1)] at g
  rw[g]
  have e1:l.toArray[t/2]! = l[t/2]:=by rw[getElem!_pos _ _ (by simpa using hi)];simp
  rw[e1,List.getElem_toArray]
  have h3:((l.map It.cells).flatten)[t]?=some ((l.map It.cells).flatten)[t]:=List.getElem?_eq_getElem (by rw[hz];exact h1')
  rw[h3] at hf
  have h4:(It.cells l[t/2])[t%2]?=some (It.cells l[t/2])[t%2]! := by
   have:t%2<(It.cells l[t/2]).length:=Nat.mod_lt _ (by decide)
   rw[List.getElem?_eq_getElem this,getElem!_pos (It.cells l[t/2]) (t%2) this]
  rw[h4] at hf
  exact(Option.some.inj hf).symm
theorem AEY{w:World}{b:Nat}{l:List It}{extra:List Value}{e:TypeId}(h:Has w b ((l.map It.cells).flatten++extra) e):Sort.HoldsK It.cells 2 w b 0 l.toArray:=by
 unfold Sort.HoldsK
 rw[Wp]
 intro j hj
 have hj':j<((l.map It.cells).flatten).length:=by simpa using hj
 refine⟨?_,h.free⟩
 rw[Nat.zero_add]
 refine h.cell ?_
 rw[List.getElem?_append_left hj',List.getElem?_eq_getElem hj',getElem!_pos _ j (by simpa using hj')]
 simp
theorem Xp(xs ys extra:List Value)(h:ys.length=xs.length):Sort.putCells id 0 ys.toArray (xs++extra).toArray=(ys++extra).toArray:=by
 apply Array.ext
 ·simp[Sort.putCells,h]
 ·intro t h1 h2
  simp only[Sort.putCells,Array.getElem_mapIdx,List.size_toArray,Nat.zero_add,Nat.sub_zero,Nat.zero_le,true_and,id]
  by_cases q:t<ys.length
  ·rw[if_pos q,getElem!_pos _ _ (by simpa using q)]
   simp[List.getElem_append_left q]
  ·rw[if_neg q]
   simp only[List.getElem_toArray]
   rw[List.getElem_append_right (by omega),List.getElem_append_right (by omega)]
   simp[h]
theorem AEA{w:World}{b n:Nat}{l l':List It}{extra:List Value}{e:TypeId}{os:Array Obj}(hl:l'.length=l.length)(h:Has w b ((l.map It.cells).flatten++extra) e):
  Has (sortWorldK It.cells 2 w b 0 n l'.toArray os) b ((l'.map It.cells).flatten++extra) e∧Agr (fun k=>k=b) w (sortWorldK It.cells 2 w b 0 n l'.toArray os):=by
 have hlt:=h.lt
 unfold sortWorldK Sort.putRowK
 rw[Wp]
 refine⟨?_,rfl,rfl,rfl,?_,fun k hk hn=>?_⟩
 ·unfold Has at *
  rw[Sort.heap_grow_old _ _ (by simpa[Sort.putRow,Sort.mapBlock,Sort.ahead] using hlt)]
  simp only[Sort.putRow,Sort.mapBlock,Sort.ahead,Array.getElem?_modify,if_pos,h,Option.map_some,Sort.onCells]
  rw[Xp _ _ _ (by rw[Cy _ Of,Cy _ Of,Aj,Aj,hl])]
 ·simp[Sort.grow,Sort.putRow,Sort.mapBlock,Sort.ahead]
 ·rw[Sort.heap_grow_old _ _ (by simpa[Sort.putRow,Sort.mapBlock,Sort.ahead] using hk)]
  simp only[Sort.putRow,Sort.mapBlock,Sort.ahead,Array.getElem?_modify]
  rw[if_neg (fun e=>hn e.symm)]
def AFE(l:List It):Prop:=l.Pairwise fun x y=>¬y.k<x.k
theorem AIC(l:List It)(hl:l.length≤100000)(a:Option Addr)(c base:Nat)(w:World)(o:Ows base w 51 2 (.slice a l.length c) (l.map It.cells)):
  FC Tryz.prog 47 [.slice a l.length c,.func (.func 48) #[] #[]] w (fun v w'=>v=.tuple #[]∧Agr (fun k=>ob (.slice a l.length c)=some k) w w'∧∃l',l'.Perm l∧AFE l'∧Ows base w' 51 2 (.slice a l.length c) (l'.map It.cells)):=by
 cases l with
 |nil=>exact(Xa a c _ w).mono fun v w' h=>⟨h.1,h.2.agr,[],.nil,List.Pairwise.nil,o.step (N:=fun _=>False) h.2.agr (fun _ _ e=>e)⟩
 |cons x0 l0 =>
  obtain⟨l,hx⟩:∃l,l=x0::l0:=⟨_,rfl⟩
  rw[←hx] at hl o ⊢
  have hpos:0<(l.map It.cells).length:=by rw[hx];simp
  obtain⟨b,cap,extra,hv,hb,hcl,hcm,hh,hxl⟩:=o.has hpos
  rw[Aj] at hv hcl
  simp only[Value.slice.injEq] at hv
  obtain⟨rfl,_,rfl⟩:=hv
  have eg:∀args w,(callFunc 48 args).run Tryz.prog w=.ok (.enter 48 args) w:=enters_of Tryz.func48 (by kernel_rfl) rfl
  have h:=AnyQ.slices_SortFunc AFm 2 Tryz.isAgg51 Tryz.sizeOf51 It.cells (fun _=>rfl) (fun x v hv=>by simp[It.cells] at hv;rcases hv with rfl|rfl<;>rfl) (fun x y=>Lib.compareInt x.k y.k) AMM 48 #[] b 0 c l.toArray w eg (fun m os dk hs x y=>AIL x y _) (AEY hh) hh.lt (by simp;omega)
  change Calls Tryz.prog 47 _ _ _ at h
  rw[show l.toArray.size=l.length by simp] at h
  refine Calls.mono h ?_
  rintro e w' ⟨rfl,d',n,os,hp,hs,rfl⟩
  obtain⟨p1,_,p3⟩:=hp
  have hp4:d'.toList.Perm l:=by
   have e1:d'.extract 0 l.length=d':=by rw[show l.length=d'.size by rw[p1];simp];simp
   have e2:l.toArray.extract 0 l.length=l.toArray:=by simp
   rw[e1,e2] at p3
   simpa using p3
  have hdl:d'.toList.length=l.length:=hp4.length_eq
  obtain⟨q1,q2⟩:=AEA (w:=w) (n:=n) (os:=os) hdl hh
  have ed:d'.toList.toArray=d':=by simp
  rw[ed] at q1 q2
  refine⟨_,rfl,rfl,q2.mono fun k _ e=>by rw[e];rfl,d'.toList,hp4,?_,?_⟩
  ·rw[AFE,List.pairwise_iff_getElem]
   intro i j hi hj hij
   have hi':i<d'.size:=by simpa using hi
   have hj':j<d'.size:=by simpa using hj
   have g:=hs i j (Nat.zero_le _) hij (by rw[←hdl];exact hj)
   rw[ltK,getElem!_pos d' i hi',getElem!_pos d' j hj'] at g
   simpa using g
  ·have:=Qo (rows:=d'.toList.map It.cells) (base:=base) (cap:=c) (sz:=2) q1 Of hb (by rw[Aj,hdl];exact hcl) hcm (by
    rw[Ag,Cy _ Of,Aj,hdl]
    rw[Ag,Cy _ Of,Aj] at hxl
    exact hxl)
   rw[Aj,hdl] at this
   exact this
section
variable {P:Program} {n:Cx} {F:List (Nat × Value)} {w:World} {p:Post} {ops:Array Oper} {rest:List Oper} {d:Option Tmp} {t:TypeId} {pos:String} {af:Array Edge} {g:Option (Nat × Bool)}
theorem _root_.Go.XL.RL.appendZ0{ty tn x y k e s by_ z kq kn}(ht:sliceOf P ty=some (e,s,by_))(htn:P.underlying tn=some (.int kn))(hz:zeroOf P e=some z)(hzs:z.cells.size=s)(hs':Nat.blt 0 s=true)(hy:XL.ev F y=some (.slice none 0 0))(hx:XL.ev F x=some (.int kq (k:Nat)))(hk:0<k)
  (hlen:k*by_≤140737488355328) (hlen':k≤140737488355328) (hg:Ed ops F g=some true) (hd:inB d n=true)
  (h:∀b' w' cap ex,b'=w.heap.size→k≤cap→cap≤maxLen→Has w' b' (List.replicate k z.cells.toList++List.replicate ex z.cells.toList).flatten e→cap=k+ex→Sub w w'→RL P n ops rest (upd F d (.slice (some ⟨b',0,none⟩) k cap)) w' p):RL P n ops (⟨d,.call ⟨.builtin .append,#[y,x],#[ty,tn]⟩,t,pos,af,g⟩::rest) F w p:=by
 have hs2:0<s:=by simpa using hs'
 obtain⟨h1,i,h2,h3,h4⟩:=Dk ht
 obtain⟨i',hi',hzz⟩:=Hf hz
 rw[h2] at hi';cases hi'
 have hold:(Builtin.firstCells i.size 0 (.slice none 0 0)).run P w.drew=.ok ([]:List Value).toArray w.drew:=by
  rw[h3]
  exact Xr (l:=[]) hs2 (Sl.nil _ _ _) (fun r hr=>by cases hr) 0 (Nat.zero_le _)
 have hge:=grownCap_ge w (0+k) 0 e
 have hcm:=grownCap_le_maxLen w (0+k) 0 e (Ad (show 0+k≤140737488355328 by omega) (by decide))
 have hr:=Go.Lib.run_append_grow_zeros (P:=P) w ty tn t e i z kq kn h1 htn h2 hzz none 0 0 [] hold k hk (by omega) (by omega) (by omega) (by rw[h4];omega) (growslice_fits (by omega) (by rw[h4,Nat.zero_add];exact hlen))
 have hzc:∀m,Builtin.zeroCells z.cells m=(List.replicate m z.cells.toList).flatten.toArray:=fun m=>by
  unfold Builtin.zeroCells
  exact Qg z.cells (by omega) m
 rw[hzc,hzc,Nat.zero_add] at hr
 rw[Nat.zero_add] at hge hcm
 refine Kf hg hd (fun ρ hρ=>?_) (h w.heap.size (w.drew.alloc (.cells (([]:List Value).toArray++(List.replicate k z.cells.toList).flatten.toArray++(List.replicate (grownCap w k 0 e-k) z.cells.toList).flatten.toArray) e)) (grownCap w k 0 e) (grownCap w k 0 e-k) rfl hge hcm ?_ (by omega) ⟨rfl,rfl,rfl,by simp,fun k hk=>Ei w.drew _ hk⟩)
 ·simp only[execOp,resolve,hρ y _ hy,hρ x _ hx,bind,Sem.bind,pure,invoke,builtin,List.map_toArray,List.map_cons,List.map_nil]
  have:=run_bind (P:=P) (Builtin.append_ #[ty,tn] t #[.slice none 0 0,.int kq (k:Nat)]) (fun v=>(Sem.pure (Next.value v):Sem Next)) w
  rw[hr] at this
  exact this
 ·have:=heap_alloc_new w.drew (.cells (([]:List Value).toArray++(List.replicate k z.cells.toList).flatten.toArray++(List.replicate (grownCap w k 0 e-k) z.cells.toList).flatten.toArray) e)
  unfold Has
  simp only[List.flatten_append]
  simpa using this
end
theorem AJj(k j:Nat):(List.replicate k [Value.int .i64 0,.int .i64 0]++List.replicate j [Value.int .i64 0,.int .i64 0]).flatten.length=(k+j)*2:=by
 rw[Cy (sz:=2) _ (fun r hr=>(List.mem_append.1 hr).elim (fun h=>by rw[(List.mem_replicate.1 h).2];rfl) (fun h=>by rw[(List.mem_replicate.1 h).2];rfl)),Ag,List.length_replicate,List.length_replicate]
theorem AIM(k:Nat)(hk:k≤10000)(w:World):FC Tryz.prog 108 [.slice none 0 0,.int .i64 (k:Int)] w (fun v w'=>Sub w w'∧∃a c,v=.slice a 0 c∧Ows w.heap.size w' 51 2 (.slice a 0 c) []):=by
 refine As Tryz.func108 rfl Tryz.ntmps108 rfl ?_
 have S:=Ax w
 refine Ac<|Aa rfl<|Ah rfl<|Ae<|Ab<|Ac<|Ac<|Aa rfl<|Af rfl<|Bc rfl rfl rfl<|Ae<|Ab<|An rfl (fun h1=>?_) (fun h1=>?_)
 ·
  exact absurd h1 (by omega)
 ·
  refine Ao<|Ab<|Ac<|Ac<|Aa rfl<|Af rfl<|Af rfl<|Ak (.cap Kx rfl)<|Af rfl<|Cm Kx rfl<|Ak (.as (.bin rfl rfl rfl) (Cs (y:=(0:Int)) (by rfl) (by omega)))<|Ak (.as (.bin rfl rfl rfl) (Cs (y:=(k:Int)) (by omega) (by omega)))<|Ah rfl<|Ae<|Ab<|Ac ?_;refine Aa rfl<|Af rfl<|Bc rfl rfl rfl<|Ae<|Ab<|An rfl (fun h2=>?_) (fun h2=>?_)
  ·
   have hk0:0<k:=(by omega)
   refine Aa rfl<|Af rfl<|Af rfl<|Ak (.cap Kx rfl)<|Ak (.sliceHi Kx rfl rfl (by omega))<|Af rfl<|RL.appendZ0 (k:=k) Kx Tryz.underlying3 Rv rfl rfl rfl rfl hk0 (by omega) (by omega) rfl rfl (fun e w3 cap9 ex9 d hc9 hm9 b hcx9 s9=>?_);have S:=S.trans s9;refine Af rfl<|Cm Kx rfl<|Ak (.sliceHi Kx rfl rfl (by omega))<|Ah rfl<|Ae<|Ab<|Ac<|Aa rfl<|Af rfl<|Ah rfl<|Ae<|Ab<|Bb 4 rfl rfl rfl ?_
   exact⟨S,_,_,rfl,Qo (rows:=[]) (extra:=(List.replicate k [Value.int .i64 0,.int .i64 0]++List.replicate ex9 [Value.int .i64 0,.int .i64 0]).flatten) b (fun r hr=>by cases hr) (by omega) (Nat.zero_le _) hm9 (by rw[List.flatten_nil,List.nil_append,AJj,hcx9])⟩
  ·
   refine Ao<|Ab<|Ac<|Aa rfl<|Af rfl<|Ah rfl<|Ae<|Ab<|Bb 4 rfl rfl rfl ?_
   exact⟨S,none,0,rfl,Ows.nil _ _ _ _⟩
structure Tri where
 l:List It
 a:Option Addr
 c:Nat
def Tri.v(t:Tri):Value:=.slice t.a t.l.length t.c
def Lh(ts:List Tri):List It:=(ts.map (·.l)).flatten
theorem Tb{ts:List Tri}{i:Nat}{t:Tri}(h:ts[i]?=some t):Lh (ts.take (i+1))=Lh (ts.take i)++t.l:=by
 unfold Lh
 rw[List.take_add_one,h]
 simp
theorem AGu(ts:List Tri)(hs:∀t∈ts,t.l.length≤1000):(Lh ts).length≤ts.length*1000:=by
 induction ts with
 |nil=>simp[Lh]
 |cons t ts ih =>
  have h1:=hs t (by simp)
  have h2:=ih (fun t ht=>hs t (by simp[ht]))
  unfold Lh at h2 ⊢
  simp only[List.map_cons,List.flatten_cons,Ag,Al]
  omega
theorem AHJ(ts:List Tri)(hn:ts.length≤9)(hs:∀t∈ts,t.l.length≤1000)(pa:Option Addr)(pc:Nat)(w:World)(hP:Sl w pa 1 (ts.map fun t=>[t.v]))(hT:∀t∈ts,Sl w t.a 2 (t.l.map It.cells)):
  FC Tryz.prog 50 [.slice pa ts.length pc] w (fun v w'=>Sub w w'∧∃a c,v=.slice a (Lh ts).length c∧Sl w' a 2 ((Lh ts).map It.cells)):=by
 have hlen:∀i,(Lh (ts.take i)).length≤9000:=fun i=>Ad (AGu _ (fun t ht=>hs t (List.mem_of_mem_take ht))) (by rw[List.length_take];omega)
 refine As Tryz.func50 rfl Tryz.ntmps50 rfl ?_
 have S:=Ax w
 refine Ac<|Aa rfl<|Ah rfl<|Ae<|Ab<|Ac<|Aa rfl<|Ah rfl<|Ae<|Ab<|Ac<|Ac<|Aa rfl<|Af rfl<|Cm AAy rfl<|Af rfl ?_;refine Ae<|Ab<|Bh<|Cw (α:=Nat) (fun i=>[(0,.slice pa ts.length pc),(3,.int .i64 ((Lh (ts.take i)).length:Int)),(9,.slice pa ts.length pc),(10,.int .i64 (ts.length:Int)),(11,.int .i64 (i:Int))]) (fun i w1=>i≤ts.length∧Sub w w1) (fun i=>ts.length-i) 0 (Bf (by repeat (first|exact trivial|refine And.intro rfl ?_))) (⟨Nat.zero_le _,S⟩) (fun i w1 hJ=>?_)
 obtain⟨hi,S⟩:=hJ;have hli:=hlen i;have hli1:=hlen (i+1)
 refine Ac<|Aa rfl<|Bc rfl rfl rfl<|Ae<|Ab<|Ac<|An rfl (fun h2=>?_) (fun h2=>?_)
 ·
  obtain⟨t,ht⟩:=Ce (l:=ts) (i:=i) (by omega)
  refine Ao<|Ab<|Ac<|Bh<|Ac<|Aa rfl<|Ak (.indexS AAy rfl rfl (by omega) (hP.is (i:=0) (by simp only[Aj,Al,Am];omega)))<|Ak (.as (v':=.slice t.a t.l.length t.c) (.load1 Qp rfl ((hP.sub S).one (enc:=Tri.v) (i:=i) ht)) (by rfl))<|Ah rfl<|Ae<|Ab<|Ac<|Aa rfl<|Af rfl<|Af rfl<|Cm Kx rfl ?_;refine Ak (.as (.bin rfl rfl rfl) (Cs (y:=((Lh (ts.take (i+1))).length:Int)) (by rw[Tb ht,Ag];omega) (by omega)))<|Ah rfl<|Ae<|Ab<|Ac<|Aa rfl<|Af rfl<|Bc rfl rfl rfl<|Ae<|Ab<|An rfl (fun h3=>?_) (fun h3=>?_)
  ·
   exact absurd h3 (by omega)
  ·
   refine Ao<|Ab<|Aa rfl<|Ak (.as (.bin rfl rfl rfl) (Cs (y:=((i+1:Nat):Int)) (by omega) (by omega)))<|Af rfl ?_
   exact Ae (fun a ka=>⟨i+1,⟨by omega,S⟩,by omega,ka.keep (Bf (by repeat (first|exact trivial|refine And.intro rfl ?_)))⟩)
 ·
  obtain rfl:i=ts.length:=(by omega)
  rw[List.take_length] at hli
  refine Co rfl<|Ab<|Ac<|Aa rfl<|Ak (.as (v':=.int .i64 ((Lh ts).length:Int)) (.move rfl) (by rw[List.take_length]))<|Az rfl AL3 (AIM (Lh ts).length (by omega) w1) ?_;rintro _ w4 ⟨s5,a0,c0,rfl,o⟩
  have o:=o.low S.size
  have S:=S.trans s5;refine Ah rfl<|Ae<|Ab<|Ac<|Ac<|Aa rfl<|Af rfl<|Cm AAy rfl<|Af rfl<|Ae<|Ab<|Bh<|Cw (α:=Nat × Option Addr × Nat) (fun x=>[(6,.slice x.2.1 ((Lh (ts.take x.1)).map It.cells).length x.2.2),(25,.slice pa ts.length pc),(26,.int .i64 (ts.length:Int)),(27,.int .i64 (x.1:Int))]) (fun x w6=>x.1≤ts.length∧Ows w.heap.size w6 51 2 (.slice x.2.1 ((Lh (ts.take x.1)).map It.cells).length x.2.2) ((Lh (ts.take x.1)).map It.cells)∧Sub w w6) (fun x=>ts.length-x.1) (0,a0,c0) (Bf (by repeat (first|exact trivial|refine And.intro rfl ?_))) (⟨Nat.zero_le _,o,S⟩) (fun x w6 hJ=>?_)
  obtain⟨i,a,c⟩:=x;obtain⟨hi,o,S⟩:=hJ;simp only[] at hi o;have hli:=hlen i;have hli1:=hlen (i+1);have hlm:((Lh (ts.take i)).map It.cells).length≤9000:=(by rw[Aj];exact hli)
  refine Ac<|Aa rfl<|Bc rfl rfl rfl<|Ae<|Ab<|Ac<|An rfl (fun h7=>?_) (fun h7=>?_)
  ·
   obtain⟨t,ht⟩:=Ce (l:=ts) (i:=i) (by omega)
   have htl:=hs t (Au ht)
   have htm:(t.l.map It.cells).length≤1000:=(by rw[Aj];exact htl)
   refine Ao<|Ab<|Ac<|Bh<|Ac<|Aa rfl<|Ak (.indexS AAy rfl rfl (by omega) (hP.is (i:=0) (by simp only[Aj,Al,Am];omega)))<|Ak (.as (v':=.slice t.a t.l.length t.c) (.load1 Qp rfl ((hP.sub S).one (enc:=Tri.v) (i:=i) ht)) (by rfl))<|Ah rfl<|Ae<|Ab<|Aa rfl<|Af rfl<|Af rfl ?_;have h:=S.size;refine De (base:=w.heap.size) (rows:=(Lh (ts.take i)).map It.cells) (news:=t.l.map It.cells) Kx Rv rfl rfl rfl rfl (.inl o) ((hT t (Au ht)).sub S) (by(try simp only[Aj]);first|done|rfl) (by intro r hr;obtain⟨x,_,rfl⟩:=List.mem_map.1 hr;rfl) (by rw[List.all_eq_true];intro r hr;obtain⟨x,_,rfl⟩:=List.mem_map.1 hr;rfl) (by(try simp only[Aj,Am,Ag,Al]);omega) (by(try simp only[Aj,Am,Ag,Al]);omega) (by omega) rfl rfl (fun m j hc_33 b d ob_33=>?_)
   have o33:=b (.inr o)
   have S:=S.agrN d (fun k e=>Ad (by omega) e.2)
   obtain⟨g,f,rfl,n⟩:=o33.form
   rw[←List.map_append,←Tb ht] at o33
   rw[←List.map_append,←Tb ht]
   refine Ah rfl<|Ae<|Ab<|Aa rfl<|Ak (.as (.bin rfl rfl rfl) (Cs (y:=((i+1:Nat):Int)) (by omega) (by omega)))<|Af rfl ?_
   exact Ae (fun a ka=>⟨(i+1,g,f),⟨by omega,o33,S⟩,by omega,ka.keep (Bf (by repeat (first|exact trivial|refine And.intro rfl ?_)))⟩)
  ·
   obtain rfl:i=ts.length:=(by omega)
   rw[List.take_length] at o
   refine Co rfl<|Ab<|Ac<|Aa rfl<|Af rfl<|Ah rfl<|Ae<|Ab<|Bb 2 rfl rfl rfl ?_
   rw[List.take_length]
   exact⟨S,a,c,by rw[Aj];rfl,o.sl.1⟩
theorem AHB(x y:It)(w:World):FC Tryz.prog 103 [x.val,y.val] w (Val (.int .i64 (Yg x y)) w):=by
 refine As Tryz.func103 rfl Tryz.ntmps103 rfl ?_
 have S:=Ax w
 refine Ac<|Aa rfl<|Bu rfl rfl rfl (fun t q B z a r=>?_);have S:=S.trans r
 have a:Has q t ([.int .i64 x.k,.int .i64 x.v]) _:=a
 refine Bu rfl rfl rfl (fun s f A u b o=>?_);have S:=S.trans o;have a:=a.sub o
 have b:Has f s ([.int .i64 y.k,.int .i64 y.v]) _:=b
 refine Ah rfl<|Ae<|Ab<|Ac<|Bs (fun k=>False) [] f.heap.size 13 rfl rfl mxo (fun w1 s2=>?_)
 have hNN:∀k,((False)∨f.heap.size≤k)→w.heap.size≤k:=fun k e=>e.elim (fun e=>e.elim) (fun e=>Ad S.size e)
 have hN0:∀k,f.heap.size≤k→w.heap.size≤k:=fun k e=>Ad S.size e
 have d:=a.lt;have c:=b.lt;have szD:=Nat.le_refl f.heap.size;have S:=S.trans s2;have a:=a.sub s2;have b:=b.sub s2;have szD:=Ad szD s2.size;refine Bl 0 rfl Sg rfl<|Ck 1 rfl sh2 rfl a (nE id d) rfl<|Bl 2 rfl Sg rfl<|Ck 3 rfl sh2 rfl b (nE id c) rfl<|Bl 5 rfl AFy rfl<|Ck 6 rfl sh2 rfl a (nE id d) rfl<|Bl 7 rfl AFy rfl<|Ck 8 rfl sh2 rfl b (nE id c) rfl<|Aq 4 rfl<|Az rfl AKe (Zl x.k y.k w1) ?_;rintro _ w3 ⟨rfl,s4⟩;have S:=S.trans s4;have szD:=Ad szD s4.size;refine Be s4.agr<|Aq 9 rfl<|Az rfl AKe (Zl x.v y.v w3) ?_;rintro _ w5 ⟨rfl,s6⟩;have S:=S.trans s6;have szD:=Ad szD s6.size;refine Be s6.agr<|Aq 10 rfl<|Iu (vs:=[_,_]) Dd _ ze3 rfl ⟨rfl,rfl,trivial⟩ rfl rfl rfl rfl rfl rfl (fun n j m p h g=>?_)
 have i:f.heap.size≤n:=by rw[m];exact szD
 have S:=S.trans g;refine Be g.agr<|Aq 11 rfl<|Az rfl ALr (AMx (Pi x.k y.k) (Pi x.v y.v) _ _ _ rfl j (Ik (enc:=i6) (l:=[Pi x.k y.k,Pi x.v y.v]) h)) ?_;rintro _ w7 ⟨rfl,s8⟩;have S:=S.trans s8;refine Be s8.agr<|Cu 12 rfl rfl<|Cp<|Ab<|Bb 4 rfl rfl rfl ?_
 exact⟨rfl,S⟩
theorem ABS{x y:It}:Yg x y<0↔Fu x y:=by
 rcases ABw x y with⟨h,e⟩|⟨h,e⟩|⟨h,e⟩
 ·rw[e];exact⟨fun _=>h,fun _=>by decide⟩
 ·rw[e];exact⟨fun h2=>absurd h2 (by decide),fun h2=>by unfold Fu at *;omega⟩
 ·rw[e];exact⟨fun h2=>absurd h2 (by decide),fun h2=>by subst h;unfold Fu at *;omega⟩
theorem Un(x:Node)(w:World):FC Tryz.prog 102 [x.val] w (Val (itN x).val w):=by
 refine As Tryz.func102 rfl Tryz.ntmps102 rfl ?_
 have S:=Ax w
 refine Ac<|Aa rfl<|Bu rfl rfl rfl (fun i e m k a f=>?_);have S:=S.trans f
 have a:Has e i (x.cells) _:=a
 refine Ay Rv rfl rfl (fun h l g j b d=>?_);have c:=S.le g;have S:=S.trans d;have a:=a.sub d;refine Ae<|Ab<|Ac<|Aa rfl<|Av Fl rfl<|Ba sh2 rfl a rfl<|Av Hv rfl<|Ba sh2 rfl a rfl<|Ak (.buildS Rv AJW rfl rfl)<|At Ub rfl rfl rfl b (fun w1 z1 b a1=>?_);have S:=S.upd a1 c
 have b:Has w1 h ((itN x).cells) _:=b.now (by kernel_rfl)
 refine Ae<|Ab<|Bo (rs:=[.cell 2 51]) (vs:=[_]) rfl rfl ⟨⟨_,rfl,.inr ⟨(itN x).cells,Ub,b.row,rfl⟩⟩,trivial⟩ ?_
 exact⟨rfl,S⟩
theorem AIK(A:Ar)(na fa:Option Addr)(nc fc:Nat)(bad:Int)(bf:Nat)(r:Int)(hr:U64 r)(w:World)(hbf:Has w bf (wvC na fa nc fc A bad) 244)(hA:ArR w na fa A):
  FC Tryz.prog 149 [.pointer (some ⟨bf,0,none⟩),.int .u64 r] w (Val (getN A r).val w):=by
 obtain⟨e,hgv⟩:=ACK A r
 refine As Tryz.func149 rfl Tryz.ntmps149 rfl ?_
 have S:=Ax w
 refine Ac<|Aa rfl<|Ay Dx rfl rfl (fun m j k o a h=>?_);have f:=S.le k;have S:=S.trans h;have hbf:=hbf.sub h;refine Ae<|Ab<|Ac<|Aa rfl<|Af rfl<|Ak (.nilCheck rfl)<|Av ADf rfl<|Ak (.loadR (wvA na fa nc fc A) Cb rfl (Fg (xs:=wvA na fa nc fc A) (ys:=[.int .i64 bad]) hbf) rfl)<|Af rfl<|Az rfl Ll (Jc A na fa nc fc r hr j (hA.sub S)) ?_;rintro _ w1 ⟨rfl,s2⟩;have S:=S.trans s2;have a:=a.sub s2;refine Ak (.as (v':=.tuple #[(getN A r).val,.int .i64 e]) (.move rfl) (by rw[hgv]))<|Bz rfl rfl<|Bz rfl rfl<|Ay Dx rfl rfl (fun l p i n b g=>?_);have d:=S.le i;have c:=a.ne i;have S:=S.trans g;have a:=a.sub g;refine At Ct rfl rfl rfl b (fun w3 z3 b a3=>?_);have S:=S.upd a3 d;have a:=a.upd a3 c
 have b:Has w3 l ((getN A r).cells) _:=b.now (by kernel_rfl)
 refine Ah rfl<|Ae<|Ab<|Ac<|Aa rfl<|Ak (.loadR ((getN A r).cells) Ct rfl b.row rfl)<|At Ct rfl rfl rfl a (fun w4 z4 a a4=>?_);have S:=S.upd a4 f
 have a:Has w4 m ((getN A r).cells) _:=a.now (by kernel_rfl)
 refine Ae<|Ab<|Bo (rs:=[.cell 4 140]) (vs:=[_]) rfl rfl ⟨⟨_,rfl,.inr ⟨(getN A r).cells,Ct,a.row,rfl⟩⟩,trivial⟩ ?_
 exact⟨rfl,S⟩
def hB1(y:Node)(a b:Int):Node:=⟨y.kind,y.gen,y.n,y.v,y.s,a,b,0,0,0,0,0,0,0,0,0⟩
theorem ADW{y:Node}(h:y.kind=6):y=hB1 y y.k0 y.k1↔Pq y=y:=by
 unfold hB1 Pq AJG
 rw[h]
 exact⟨fun e=>e.symm,fun e=>e.symm⟩
set_option maxHeartbeats 4000000 in
theorem AGA(A:Ar)(na fa:Option Addr)(nc fc:Nat)(bad:Int)(bf bs:Nat)(hfs:bf≠bs)(M:Nat→Prop)(hMs:∀k,M k→k≠bs)(hmost:A.nodes.length≤512):∀(k:Nat) (r:Int) (b:It) (out:List Int) (left:Int) (w:World),U64 r→0≤left→left<k→left≤200→Pl A out→Has w bf (wvC na fa nc fc A bad) 244→Has w bs ((Gt A.nodes.length out).map Value.bool) 4→Ft M (fun u=>ArR u na fa A) w →
  FC Tryz.prog 232 [.pointer (some ⟨bf,0,none⟩),.int .u64 r,b.val,.slice (some ⟨bs,0,none⟩) A.nodes.length A.nodes.length,.int .i64 left] w (fun v w'=>v=.int .i64 (hmF A k r b out 0 left).1∧Has w' bs ((Gt A.nodes.length (hmF A k r b out 0 left).2).map Value.bool) 4∧Agr (· = bs) w w'):=by
 intro k
 induction k using Nat.strongRecOn with
 |_ k ih =>
 intro r b out left w hr hl0 hlk hl hp hbf hs hA
 have nfs:=hfs
 refine As Tryz.func232 rfl Tryz.ntmps232 rfl ?_
 have G:Agr (· = bs) w w:=Agr.refl _ _
 refine Ac<|Aa rfl<|Bu rfl rfl rfl (fun L Q T U d N=>?_);have I:=hs.ne T;have G:=G.trans N.agr;have hbf:=hbf.sub N;have hs:=hs.sub N;have hA:=hA.sub N
 have d:Has Q L (b.cells) _:=d
 refine Ah rfl<|Ae<|Ab<|Ac<|Aa rfl<|Ah rfl<|Ae<|Ab<|Ac<|Bh<|Cw (α:=Nat × Int × List Int × Int) (fun x=>[(0,.pointer (some ⟨bf,0,none⟩)),(1,.int .u64 x.2.1),(3,.slice (some ⟨bs,0,none⟩) A.nodes.length A.nodes.length),(4,.int .i64 left),(7,.pointer (some ⟨L,0,none⟩)),(11,.int .i64 x.2.2.2)]) (fun x w1=>(hmF A x.1 x.2.1 b x.2.2.1 x.2.2.2 left=hmF A k r b out 0 left∧x.1≤k∧0≤x.2.2.2∧x.2.2.2≤left∧left-x.2.2.2<x.1∧U64 x.2.1∧Pl A x.2.2.1)∧Has w1 bf (wvC na fa nc fc A bad) 244∧Has w1 bs ((Gt A.nodes.length x.2.2.1).map Value.bool) 4∧Has w1 L b.cells 51∧Ft M (fun u=>ArR u na fa A) w1∧Agr (· = bs) w w1) (fun x=>x.1) (k,r,out,0) (Bf (by repeat (first|exact trivial|refine And.intro rfl ?_))) (⟨⟨rfl,Nat.le_refl _,Int.le_refl _,hl0,by show left-0<(k:Int);omega,hr,hp⟩,hbf,hs,d,hA,G⟩) (fun x w1 hJ=>?_)
 obtain⟨j1,r1,out1,sum⟩:=x;obtain⟨⟨hT,hjk,hs0,hsl,hlj,hr1,hp1⟩,hbf,hs,d,hA,G⟩:=hJ;simp only[] at hT hjk hs0 hsl hlj hr1 hp1 hs;obtain⟨j,rfl⟩:∃j,j1=j+1:=⟨j1-1,by omega⟩;obtain⟨y,e,hgv,hgs,hgn⟩:=Mq A r1
 refine Ac<|Ac<|Aa rfl<|Af rfl<|Bc rfl rfl rfl<|Ae<|Ab<|An rfl (fun h2=>?_) (fun h2=>?_)
 ·
  have hr0:=h2
  refine Ao<|Ab<|Bh<|Ac<|Aa rfl<|Af rfl<|Ak (.nilCheck rfl)<|Av ADf rfl<|Ak (.loadR (wvA na fa nc fc A) Cb rfl (Fg (xs:=wvA na fa nc fc A) (ys:=[.int .i64 bad]) hbf) rfl)<|Af rfl<|Az rfl Ll (Jc A na fa nc fc r1 hr1 w1 hA.now) ?_;rintro _ w3 ⟨rfl,s4⟩;have G:=G.trans s4.agr;have hbf:=hbf.sub s4;have hs:=hs.sub s4;have d:=d.sub s4;have hA:=hA.sub s4;refine Ak (.as (v':=.tuple #[y.val,.int .i64 e]) (.move rfl) (by rw[hgv]))<|Bz rfl rfl<|Bz rfl rfl<|Ay Dx rfl rfl (fun K S E P c D=>?_);have J:=hbf.ne E;have n:=hs.ne E;have F:=d.ne E;have C:=hA.neNew E
  have geG_12:=Gi G E
  have G:=G.trans D.agr;have hbf:=hbf.sub D;have hs:=hs.sub D;have d:=d.sub D;have hA:=hA.sub D;refine At Ct rfl rfl rfl c (fun w5 z5 c a5=>?_)
  have G:=Dv G a5 geG_12
  have hbf:=hbf.upd a5 J;have hs:=hs.upd a5 n;have d:=d.upd a5 F;have hA:=hA.updD a5 C
  have c:Has w5 K (y.cells) _:=c.now (by kernel_rfl)
  refine Ah rfl<|Ae<|Ab<|Ac<|Ac<|Ev rfl mxo (by kernel_rfl)<|Cf rfl<|Aw (.bin rfl rfl rfl)<|Cf rfl<|Fp 29 rfl (fun h6=>?_) (fun h6=>?_)
  ·
   have hres:hmF A k r b out 0 left=(-1,out1):=(by rw[←hT];cases hg:Ch A r1 with|none=>exact Vt hr0 hg|some x=>exact absurd (hgs x hg).2 h6)
   refine Bj<|Bj<|Bj<|Aw (.pick_t rfl rfl)<|Cf rfl<|Bj<|Bj<|Bj<|Aw (.pick_t rfl rfl)<|Cf rfl<|Bj<|Bj<|Bj<|Bj<|Bj<|Aw (.pick_t rfl rfl) ?_;refine Cf rfl<|Bj<|Bj<|Bj<|Bj<|Bj<|Aw (.pick_t rfl rfl)<|Dq (fun w7 s8=>Ab ?_);have G:=G.trans s8.agr;have hbf:=hbf.sub s8;have hs:=hs.sub s8;have d:=d.sub s8;have hA:=hA.sub s8;have c:=c.sub s8;refine Bm rfl<|Ac<|Aa rfl<|Ah rfl<|Ae<|Ab<|Bb 10 rfl rfl rfl ?_
   rw[hres]
   exact⟨rfl,hs,G⟩
  ·
   have hy:Ch A r1=some y:=(by cases hg:Ch A r1 with|none=>have:=(hgn hg).2;omega|some x=>rw[(hgs x hg).1])
   have hrg:=Gb hy
   have hyo:=hA.now.nok y (Ek hy)
   refine Cf rfl<|Cf rfl<|Aw (.bin rfl rfl rfl)<|Aw (.pick_f rfl rfl)<|Cf rfl<|Fp 34 rfl (fun h9=>?_) (fun h9=>?_)
   ·
    have hres:=hT.symm.trans (Oh (k:=j) (b:=b) (out:=out1) hr0 hy (.inl h9))
    refine Bj<|Bj<|Bj<|Aw (.pick_t rfl rfl)<|Cf rfl<|Bj<|Bj<|Bj<|Bj<|Bj<|Aw (.pick_t rfl rfl)<|Cf rfl<|Bj<|Bj<|Bj<|Bj ?_;refine Bj<|Aw (.pick_t rfl rfl)<|Dq (fun w10 s11=>Ab ?_);have G:=G.trans s11.agr;have hbf:=hbf.sub s11;have hs:=hs.sub s11;have d:=d.sub s11;have hA:=hA.sub s11;have c:=c.sub s11;refine Bm rfl<|Ac<|Aa rfl<|Ah rfl<|Ae<|Ab<|Bb 10 rfl rfl rfl ?_
    rw[hres]
    exact⟨rfl,hs,G⟩
   ·
    have p34:=h9
    refine Aw (.field0 Es rfl)<|Aw (.load1 sh3 rfl (c.cell rfl))<|Aw (.bin rfl rfl rfl)<|Aw (.pick_f rfl rfl)<|Cf rfl<|Fp 39 rfl (fun h12=>?_) (fun h12=>?_)
    ·
     have hres:=hT.symm.trans (Oh (k:=j) (b:=b) (out:=out1) (sum:=sum) (left:=left) hr0 hy (.inr (.inl h12)))
     refine Bj<|Bj<|Bj<|Bj<|Bj<|Aw (.pick_t rfl rfl)<|Cf rfl<|Bj<|Bj<|Bj<|Bj<|Bj<|Aw (.pick_t rfl rfl)<|Dq (fun w13 s14=>Ab ?_);have G:=G.trans s14.agr;have hbf:=hbf.sub s14;have hs:=hs.sub s14;have d:=d.sub s14;have hA:=hA.sub s14;have c:=c.sub s14;refine Bm rfl<|Ac<|Aa rfl<|Ah rfl<|Ae<|Ab<|Bb 10 rfl rfl rfl ?_
     rw[hres]
     exact⟨rfl,hs,G⟩
    ·
     have p39:=h12
     refine Cf rfl<|Cf rfl<|Ji rfl Yd (fun w' s'=>Je r1 hr1 w') rfl rfl<|Aw (.indexO Jr rfl rfl (by omega))<|Aw (.load1 sh4 rfl (hs.cell (v:=.bool (decide (Bk r1∈out1))) (by rw[Nat.mul_one,Nat.zero_add,List.getElem?_map,Mr _ _ _ (by omega)];rfl))) ?_;refine Aw (.pick_f rfl rfl)<|Cf rfl<|Fp 46 rfl (fun h15=>?_) (fun h15=>?_)
     ·
      have hres:=hT.symm.trans (Oh (k:=j) (b:=b) (out:=out1) (sum:=sum) (left:=left) hr0 hy (.inr (.inr (.inl h15))))
      refine Bj<|Bj<|Bj<|Bj<|Bj<|Aw (.pick_t rfl rfl)<|Dq (fun w16 s17=>Ab ?_);have G:=G.trans s17.agr;have hbf:=hbf.sub s17;have hs:=hs.sub s17;have d:=d.sub s17;have hA:=hA.sub s17;have c:=c.sub s17;refine Bm rfl<|Ac<|Aa rfl<|Ah rfl<|Ae<|Ab<|Bb 10 rfl rfl rfl ?_
      rw[hres]
      exact⟨rfl,hs,G⟩
     ·
      have p46:=h15
      refine Aw (.loadR (y.cells) Ct rfl c.row rfl)<|Ji rfl ADB (fun w' s'=>Un y w') rfl rfl<|Aw (.loadR (b.cells) Ub rfl d.row rfl)<|Ji rfl AL5 (fun w' s'=>AHB (itN y) b w') rfl rfl<|Aw (.bin rfl rfl rfl)<|Aw (.pick_f rfl rfl)<|Dq (fun w18 s19=>Ab ?_);have G:=G.trans s19.agr;have hbf:=hbf.sub s19;have hs:=hs.sub s19;have d:=d.sub s19;have hA:=hA.sub s19;have c:=c.sub s19;refine An rfl (fun h20=>?_) (fun h20=>?_)
      ·
       have hres:=hT.symm.trans (Oh (k:=j) (b:=b) (out:=out1) (sum:=sum) (left:=left) hr0 hy (.inr (.inr (.inr (ABS.1 h20)))))
       refine Ac<|Aa rfl<|Ah rfl<|Ae<|Ab<|Bb 10 rfl rfl rfl ?_
       rw[hres]
       exact⟨rfl,hs,G⟩
      ·
       have hnb:¬(left≤sum∨¬y.kind=6∨Bk r1∈out1∨Fu (itN y) b):=(fun e=>e.elim p34 (fun e=>e.elim p39 (fun e=>e.elim p46 (fun e=>h20 (ABS.2 e)))))
       have hk6:y.kind=6:=Decidable.not_not.1 p39
       have hp2:=hp1.add hrg p46
       refine Ao<|Ab<|Ac<|Aa rfl<|Af rfl<|Af rfl<|Az rfl Yd (Je r1 hr1 w18) ?_;rintro _ w21 ⟨rfl,s22⟩;have G:=G.trans s22.agr;have hbf:=hbf.sub s22;have hs:=hs.sub s22;have d:=d.sub s22;have hA:=hA.sub s22;have c:=c.sub s22;refine Ak (.indexO Jr rfl rfl (by omega))<|Cg sh4 rfl rfl rfl hs (by show 0+(Bk r1).toNat*1+1≤_;rw[Aj,Kl];omega) (by rfl) rfl (fun w23 z23 hs a23=>?_);have G:=G.trans a23;have hbf:=hbf.upd a23 nfs;have d:=d.upd a23 I.symm;have hA:=hA.updD a23 hMs;have c:=c.upd a23 n.symm
       have hs:=(Ro (enc:=Value.bool) (i:=(Bk r1).toNat) (x:=true) (by rw[Nat.zero_add,Nat.mul_one] at hs;exact hs))
       rw[Wq _ _ _ hrg] at hs
       refine Ae<|Ab<|Ac<|Aa rfl<|Av Es rfl<|Ba sh3 rfl c rfl<|Av Gv rfl<|Ba sh3 rfl c rfl<|Av Fl rfl<|Ba sh2 rfl c rfl<|Av Hv rfl<|Ba sh2 rfl c rfl<|Av Hg rfl<|Ba sh2 rfl c rfl<|Ak (.buildS Dx Mv rfl rfl)<|Ay Dx rfl rfl (fun H R B O f z=>?_);have t:=hbf.ne B;have q:=hs.ne B;have s:=d.ne B;have g:=c.ne B;have l:=hA.neNew B
       have geG_14:=Gi G B
       have G:=G.trans z.agr;have hbf:=hbf.sub z;have hs:=hs.sub z;have d:=d.sub z;have hA:=hA.sub z;have c:=c.sub z;refine At Ct rfl rfl rfl f (fun w24 z24 f a24=>?_)
       have G:=Dv G a24 geG_14
       have hbf:=hbf.upd a24 t;have hs:=hs.upd a24 q;have d:=d.upd a24 s;have hA:=hA.updD a24 l;have c:=c.upd a24 g
       have f:Has w24 H ((hB1 y 0 0).cells) _:=f.now (by kernel_rfl)
       refine Ae<|Ab<|Hi (α:=Unit) (fun _=>[(0,.pointer (some ⟨bf,0,none⟩)),(1,.int .u64 r1),(3,.slice (some ⟨bs,0,none⟩) A.nodes.length A.nodes.length),(4,.int .i64 left),(7,.pointer (some ⟨L,0,none⟩)),(11,.int .i64 sum),(12,.pointer (some ⟨K,0,none⟩)),(14,.pointer (some ⟨H,0,none⟩))]) (fun _ w25=>Has w25 bf (wvC na fa nc fc A bad) 244∧Has w25 bs ((Gt A.nodes.length (out1++[Bk r1])).map Value.bool) 4∧Has w25 L b.cells 51∧Has w25 K y.cells 140∧Has w25 H (hB1 y y.k0 y.k1).cells 140∧Ft M (fun u=>ArR u na fa A) w25∧Agr (· = bs) w w25) ?_ (fun _ w25 hJ=>?_)
       ·
        refine Bs (fun k=>k=H) [8,11] w24.heap.size 12 rfl rfl mxo (fun w26 s27=>?_);have h:=c.lt;have G:=G.trans s27.agr;have hbf:=hbf.sub s27;have hs:=hs.sub s27;have d:=d.sub s27;have hA:=hA.sub s27;have c:=c.sub s27;have f:=f.sub s27;refine Bl 0 rfl Da rfl<|Bg 1 rfl (fun _ _=>.indexArr Eb rfl rfl (by omega))<|Ck 2 rfl Dm rfl c (nE g h) rfl<|Bl 3 rfl Da rfl<|Bg 4 rfl (fun _ _=>.indexArr Eb rfl rfl (by omega))<|Ck 5 rfl Dm rfl c (nE g h) rfl<|Bl 6 rfl Da rfl<|Bg 7 rfl (fun _ _=>.indexArr Eb rfl rfl (by omega))<|Bl 9 rfl Da rfl<|Aq 8 rfl<|At Dm rfl rfl rfl f (fun w28 z28 f a28=>?_)
        have G:=Dv G a28 geG_14
        have hbf:=hbf.upd a28 t;have hs:=hs.upd a28 q;have d:=d.upd a28 s;have hA:=hA.updD a28 l;have c:=c.upd a28 g;refine Cq rfl a28 (rfl)<|Bg 10 rfl (fun _ _=>.indexArr Eb rfl rfl (by omega))<|Aq 11 rfl<|At Dm rfl rfl rfl f (fun w29 z29 f a29=>?_)
        have G:=Dv G a29 geG_14
        have hbf:=hbf.upd a29 t;have hs:=hs.upd a29 q;have d:=d.upd a29 s;have hA:=hA.updD a29 l;have c:=c.upd a29 g;refine Cq rfl a29 (rfl) ?_
        exact Fb (by kernel_rfl) (fun a ka=>⟨(),⟨hbf,hs,d,c,f,hA,G⟩,ka.keep (Bf (by repeat (first|exact trivial|refine And.intro rfl ?_)))⟩)
       obtain⟨hbf,hs,d,c,f,hA,G⟩:=hJ
       refine Ac<|Bs (fun k=>k=bs) [11,11] w25.heap.size 13 rfl rfl mxo (fun w30 s31=>?_);have h:=c.lt;have G:=G.trans s31.agr;have hbf:=hbf.sub s31;have hs:=hs.sub s31;have d:=d.sub s31;have c:=c.sub s31;have f:=f.sub s31;have hA:=hA.sub s31;refine Bp 0 rfl rfl<|Bl 1 rfl Da rfl<|Bg 2 rfl (fun _ _=>.indexArr Eb rfl rfl (by omega))<|Ck 3 rfl Dm rfl c (nE n.symm h) rfl<|Bg 4 rfl (fun w' s'=>.loadR (y.cells) Ct rfl (c.step s' (nE n.symm h)).row rfl)<|Bp 6 rfl rfl<|Bp 7 rfl rfl<|Bp 8 rfl rfl<|Bg 9 rfl (fun _ _=>.as (.bin rfl rfl rfl) (Cs (y:=left-sum) (by rfl) (by omega)))<|Bg 10 rfl (fun _ _=>.as (.bin rfl rfl rfl) (Cs (y:=left-sum-1) (by rfl) (by omega)))<|Aq 5 rfl<|Az rfl ADB (Un y w30) ?_;rintro _ w32 ⟨rfl,s33⟩;have G:=G.trans s33.agr;have hbf:=hbf.sub s33;have hs:=hs.sub s33;have d:=d.sub s33;have c:=c.sub s33;have f:=f.sub s33;have hA:=hA.sub s33;refine Be s33.agr<|Aq 11 rfl<|Az rfl AFY (ih j (by omega) y.k0 (itN y) (out1++[Bk r1]) (left-sum-1) w32 (hyo.kids _ (by simp[Node.kids])) (by omega) (by omega) (by omega) hp2 hbf hs hA) ?_;rintro vr w34 ⟨hv,hs1,ag⟩;have G:=G.trans ag;have hbf:=hbf.upd ag nfs;have d:=d.upd ag I.symm;have c:=c.upd ag n.symm;have f:=f.upd ag q.symm;have hA:=hA.updD ag hMs
       have hs:=hs1
       have hml:=Vh A j y.k0 (itN y) (out1++[Bk r1]) 0 (left-sum-1) (Int.le_refl _) (by omega) hp2
       obtain⟨⟨m,o⟩,hm⟩:∃p,p=hmF A j y.k0 (itN y) (out1++[Bk r1]) 0 (left-sum-1):=⟨_,rfl⟩
       rw[←hm] at hv hs hml
       simp only[] at hv hs hml
       subst hv
       refine Cv rfl (ag.mono fun k _ e=>.inl e)<|Cu 12 rfl rfl<|Cp<|Ab<|Ac<|Ac<|Aa rfl<|Af rfl<|Bc rfl rfl rfl<|Af rfl<|Bn 92 rfl (fun h36=>?_) (fun h36=>?_)
       ·
        have hres:=hT.symm.trans (Qv hr0 hy hnb hm.symm (.inl h36))
        refine Bd 3 rfl<|Br rfl rfl<|Af rfl<|Bd 5 rfl<|Br rfl rfl<|Ae<|Ab<|Bm rfl<|Ac<|Aa rfl<|Ah rfl<|Ae<|Ab<|Bb 10 rfl rfl rfl ?_
        rw[hres]
        exact⟨rfl,hs,G⟩
       ·
        have hm0:=h36
        refine Ak (.loadR (y.cells) Ct rfl c.row rfl)<|Ak (.loadR ((hB1 y y.k0 y.k1).cells) Ct rfl f.row rfl)<|Ak (.neS (xs:=y.cells) (ys:=(hB1 y y.k0 y.k1).cells) Vb Vc Ct rfl rfl rfl rfl rfl)<|Bq rfl rfl<|Af rfl<|Fo 97 rfl (fun h37=>?_) (fun h37=>?_)
        ·
         have hres:=hT.symm.trans (Qv hr0 hy hnb hm.symm (.inr (.inl (fun e=>by have h2:=h37;rw[Gl,decide_eq_true ((ADW hk6).2 e)] at h2;cases h2))))
         refine Bd 5 rfl<|Br rfl rfl<|Ae<|Ab<|Bm rfl<|Ac<|Aa rfl<|Ah rfl<|Ae<|Ab<|Bb 10 rfl rfl rfl ?_
         rw[hres]
         exact⟨rfl,hs,G⟩
        ·
         have hbr:Pq y=y:=(ADW hk6).1 (by have h2:=h37;rw[Gl] at h2;simpa using h2)
         refine Af rfl<|Ak (.as (.bin rfl rfl rfl) (Cs (y:=m+1) (by rfl) (by omega)))<|Av Hg rfl<|Ba sh2 rfl c rfl<|Bc rfl rfl rfl<|Bq rfl rfl<|Ae<|Ab<|An rfl (fun h38=>?_) (fun h38=>?_)
         ·
          have hres:=hT.symm.trans (Qv hr0 hy hnb hm.symm (.inr (.inr h38)))
          refine Ac<|Aa rfl<|Ah rfl<|Ae<|Ab<|Bb 10 rfl rfl rfl ?_
          rw[hres]
          exact⟨rfl,hs,G⟩
         ·
          have hnx:=Ri hr0 hy hnb hm.symm (fun e=>e.elim hm0 (fun e=>e.elim (fun e=>e hbr) (fun e=>h38 e)))
          refine Ao<|Ab<|Ev rfl mxo (by kernel_rfl)<|Cf rfl<|Cf rfl<|Aw (.as (.bin rfl rfl rfl) (Cs (y:=sum+m) (by rfl) (by omega)))<|Aw (.as (.bin rfl rfl rfl) (Cs (y:=sum+m+1) (by rfl) (by omega)))<|Aw (.field0 Da rfl)<|Aw (.indexArr Eb rfl rfl (by omega))<|Aw (.load1 Dm rfl (c.cell rfl))<|Aw (.assign rfl)<|Aw (.assign rfl)<|Dq (fun w39 s40=>?_);have G:=G.trans s40.agr;have hbf:=hbf.sub s40;have hs:=hs.sub s40;have d:=d.sub s40;have hA:=hA.sub s40
          exact fun a ka=>⟨(j,y.k1,o,sum+m+1),⟨⟨hnx.symm.trans hT,by show j≤k;omega,by show 0≤sum+m+1;omega,by show sum+m+1≤left;omega,by show left-(sum+m+1)<(j:Int);omega,hyo.kids _ (by simp[Node.kids]),hml.2.2⟩,hbf,hs,d,hA,G⟩,by show j<j+1;omega,ka.keep (Bf (by repeat (first|exact trivial|refine And.intro rfl ?_)))⟩
 ·
  have hr0:r1=0:=Decidable.not_not.1 h2
  have hres:hmF A k r b out 0 left=(sum,out1):=(by rw[←hT,hr0,ADD])
  refine Co rfl<|Ab<|Ac<|Aa rfl<|Af rfl<|Ah rfl<|Ae<|Ab<|Bb 10 rfl rfl rfl ?_
  rw[hres]
  exact⟨rfl,hs,G⟩
theorem Ug(A:Ar)(r:Int):Pk A r=itN (getN A r):=by unfold Pk getN;cases Ch A r<;>rfl
theorem Uf(A:Ar)(r:Int):Qr A r=(getN A r).k1:=by unfold Qr getN;cases Ch A r<;>rfl
noncomputable def allHp (A:Ar) (l:List Int):Bool:=aokB A&&l.all (Ky A)
theorem AE0{A:Ar}{l:List Int}:allHp A l=true↔AOk A∧∀r∈l,∃P L,IsP A r P L:=by
 unfold allHp
 rw[Bool.and_eq_true,List.all_eq_true,Hd]
 exact and_congr_right fun _=>forall_congr' fun r=>imp_congr_right fun _=>AGp A r
theorem AFw{A:Ar}{l:List Int}{i:Nat}{y:Int}(hy:l[i]?=some y)(hp:(l.take i).all (Ky A)=true)(h:Ky A y=true):(l.take (i+1)).all (Ky A)=true:=by
 have hi:i<l.length:=Cc hy
 rw[List.take_add_one,hy,List.all_append,hp];simp[h]
theorem AHc{A:Ar}{l:List Int}{i:Nat}{y:Int}(hy:l[i]?=some y)(h:Ky A y=false):l.all (Ky A)=false:=by
 rw[Bool.eq_false_iff]
 intro e
 have:=List.all_eq_true.1 e y (Au hy)
 rw[h] at this;cases this
set_option maxHeartbeats 1000000 in
theorem AME(A:Ar)(na fa:Option Addr)(nc fc:Nat)(l:List Int)(pa:Option Addr)(pc:Nat)(hl:l.length≤10000)(hli:∀x∈l,U64 x)(w:World)(hA:ArR w na fa A)(hP:Sl w pa 1 (l.map fun x=>[u6 x])):
  FC Tryz.prog 170 [arV na fa nc fc A,.slice pa l.length pc] w (Val (.bool (allHp A l)) w):=by
 have hN:=hA.nodes
 have hFr:=hA.free
 have hF:Ft (· < w.heap.size) (fun u=>ArR u na fa A) w:=Hm fun u s=>hA.sub s
 refine As Tryz.func170 rfl Tryz.ntmps170 rfl ?_
 have S:=Ax w
 refine Ac<|Aa rfl<|Bu rfl rfl rfl (fun J L R P c M=>?_);have S:=S.trans M
 have c:Has L J ([.slice na A.nodes.length nc,.slice fa A.free.length fc]) _:=c
 refine Ah rfl<|Ae<|Ab<|Ac<|Aa rfl<|Ak (.loadR ([.slice na A.nodes.length nc,.slice fa A.free.length fc]) Cb rfl c.row rfl)<|Ak (.buildS AKw AK8 rfl rfl)<|Bu rfl rfl rfl (fun t D N K b E=>?_);have S:=S.trans E;have c:=c.sub E
 have b:Has D t (wvC na fa nc fc A 0) 244:=b
 refine Ah rfl<|Ae<|Ab<|Ac<|Ac<|Aa rfl<|Ak (.loadR ([.slice na A.nodes.length nc,.slice fa A.free.length fc]) Cb rfl c.row rfl)<|Az rfl Uy (Kh A na fa nc fc D (hA.sub S)) ?_;rintro _ w1 ⟨rfl,s2⟩;have S:=S.trans s2;have c:=c.sub s2;have b:=b.sub s2;refine Ak (.not rfl)<|Ae<|Ab<|Db rfl (fun h3=>?_) (fun h3=>?_)
 ·
  have hno:aokB A=false:=(by simpa using h3)
  refine Ac<|Aa rfl<|Ah rfl<|Ae<|Ab<|Bb 4 rfl rfl rfl ?_
  rw[allHp,hno]
  exact⟨rfl,S⟩
 ·
  have hokb:aokB A=true:=(by simpa using h3)
  have hok:AOk A:=(Hd A).1 hokb
  have hmost:=hok.most
  refine Ao<|Ab<|Ac<|Ac<|Aa rfl<|Af rfl<|Cm Kw rfl<|Af rfl<|Ae<|Ab<|Bh<|Cw (α:=Nat) (fun i=>[(2,.pointer (some ⟨J,0,none⟩)),(5,.pointer (some ⟨t,0,none⟩)),(15,.slice pa l.length pc),(16,.int .i64 (l.length:Int)),(17,.int .i64 (i:Int))]) (fun i w4=>i≤l.length∧(l.take i).all (Ky A)=true∧Has w4 J [.slice na A.nodes.length nc,.slice fa A.free.length fc] 26∧Has w4 t (wvC na fa nc fc A 0) 244∧Sub w w4) (fun i=>l.length-i) 0 (Bf (by repeat (first|exact trivial|refine And.intro rfl ?_))) (⟨Nat.zero_le _,rfl,c,b,S⟩) (fun i w4 hJ=>?_)
  obtain⟨hi,hp,c,b,S⟩:=hJ
  refine Ac<|Aa rfl<|Bc rfl rfl rfl<|Ae<|Ab<|Ac<|An rfl (fun h5=>?_) (fun h5=>?_)
  ·
   obtain⟨y,hy⟩:=Ce (l:=l) (i:=i) (by omega)
   have hyu:=hli y (Au hy)
   refine Ao<|Ab<|Ac<|Bh<|Ac<|Aa rfl<|Ak (.indexS Kw rfl rfl (by omega) (hP.is (i:=0) (by simp only[Aj,Al,Am];omega)))<|Ak (.load1 Dm rfl ((hP.sub S).one (enc:=u6) (i:=i) hy))<|Ah rfl<|Ae<|Ab<|Ac<|Aa rfl<|Af rfl<|Af rfl<|Az rfl ALu (AIK A na fa nc fc 0 t y hyu w4 b (hA.sub S)) ?_;rintro _ w6 ⟨rfl,s7⟩;have S:=S.trans s7;have c:=c.sub s7;have b:=b.sub s7;refine Ay Dx rfl rfl (fun T Q I O d G=>?_);have H:=S.le I;have C:=c.ne I;have z:=b.ne I;have S:=S.trans G;have c:=c.sub G;have b:=b.sub G;refine At Ct rfl rfl rfl d (fun w8 z8 d a8=>?_);have S:=S.upd a8 H;have c:=c.upd a8 C;have b:=b.upd a8 z;refine Ae<|Ab<|Ac<|Bs (fun k=>False) [8] w8.heap.size 16 rfl rfl mxo (fun w9 s10=>?_)
   have hNN:∀k,((False)∨w8.heap.size≤k)→w.heap.size≤k:=fun k e=>e.elim (fun e=>e.elim) (fun e=>Ad S.size e)
   have hN0:∀k,w8.heap.size≤k→w.heap.size≤k:=fun k e=>Ad S.size e
   have B:=c.lt;have o:=d.lt;have szD:=Nat.le_refl w8.heap.size;have S:=S.trans s10;have c:=c.sub s10;have b:=b.sub s10;have d:=d.sub s10;have szD:=Ad szD s10.size;refine Bp 0 rfl rfl<|Bp 1 rfl rfl<|Bg 2 rfl (fun w' s'=>.loadR (_) Ct rfl (d.step s' (nE id o)).row rfl)<|Bl 4 rfl Et rfl<|Ck 5 rfl Jj rfl c (nE id B) rfl<|Bg 6 rfl (fun _ _=>.len Ig rfl)<|Ej [3,7] (by kernel_rfl) rfl (Ca rfl ?_ (Ca rfl ?_ (Do)))
   ·
    refine Az rfl ADB (Un (getN A y) w9) ?_;rintro _ w11 ⟨rfl,s12⟩;have S:=S.trans s12;have c:=c.sub s12;have b:=b.sub s12;have d:=d.sub s12;have szD:=Ad szD s12.size;refine Be s12.agr<|Aq 7 rfl<|Dh Jr ze4 rfl rfl rfl rfl (by omega) rfl rfl (fun r v j F g h=>?_)
    have p:w8.heap.size≤r:=by rw[j];exact szD
    have q:=S.le j;have n:=c.ne j;have f:=b.ne j;have m:=d.ne j;have S:=S.trans h;have c:=c.sub h;have b:=b.sub h;have d:=d.sub h;have szD:=Ad szD h.size
    have g:Has v r ((Gt A.nodes.length []).map Value.bool) 4:=by have:=g;rw[Ql,List.map_replicate];rw[Int.toNat_natCast] at this;rw[←AFA];exact this
    refine Be h.agr<|Aq 8 rfl<|Az rfl AFY (AGA A na fa nc fc 0 t r f (· < w.heap.size) (fun k hk e=>by have:=q;omega) hmost 201 y (itN (getN A y)) [] 200 v hyu (by decide) (by decide) (by decide) (Pl.nil A) b g (hF.sub S)) ?_;rintro vr w13 ⟨hv,_,ag⟩;have S:=S.upd ag q;have c:=c.upd ag n;have b:=b.upd ag f;have d:=d.upd ag m;have szD:=Ad szD ag.size
    subst hv
    refine Cv rfl (ag.mono fun k _ e=>.inr (e▸p))<|Tn 9 rfl rfl rfl rfl<|Bp 10 rfl rfl<|ABm 34 rfl (fun h15=>?_) (fun h15=>?_)
    ·
     have hbad:Ky A y=false:=(by unfold Ky;rw[Ug,decide_eq_true h15];rfl)
     refine Gg 11 rfl (by kernel_rfl) rfl rfl<|Gg 12 rfl (by kernel_rfl) rfl rfl<|Gg 13 rfl (by kernel_rfl) rfl rfl<|Gg 14 rfl (by kernel_rfl) rfl rfl<|Bg 15 rfl (fun _ _=>.pick_t rfl rfl)<|Cp<|Ab<|Bm rfl<|Ac<|Aa rfl<|Ah rfl<|Ae<|Ab<|Bb 4 rfl rfl rfl ?_
     rw[allHp,AHc hy hbad,Bool.and_false]
     exact⟨rfl,S⟩
    ·
     have h34:=h15
     refine Bl 11 rfl Da rfl<|Bg 12 rfl (fun _ _=>.indexArr Eb rfl rfl (by omega))<|Ck 13 rfl Dm rfl d (nE id o) rfl<|Tn 14 rfl rfl rfl rfl<|Bg 15 rfl (fun _ _=>.pick_f rfl rfl)<|Cp<|Ab<|An rfl (fun h16=>?_) (fun h16=>?_)
     ·
      have hbad:Ky A y=false:=(by unfold Ky;rw[Uf,decide_eq_true h16,Bool.or_true];rfl)
      refine Ac<|Aa rfl<|Ah rfl<|Ae<|Ab<|Bb 4 rfl rfl rfl ?_
      rw[allHp,AHc hy hbad,Bool.and_false]
      exact⟨rfl,S⟩
     ·
      have hgood:Ky A y=true:=(by unfold Ky;rw[Ug,Uf,decide_eq_false h34,decide_eq_false h16];rfl)
      refine Ao<|Ab<|Aa rfl<|Ak (.as (.bin rfl rfl rfl) (Cs (y:=((i+1:Nat):Int)) (by omega) (by omega)))<|Af rfl ?_
      exact Ae (fun a ka=>⟨i+1,⟨by omega,AFw hy hp hgood,c,b,S⟩,by omega,ka.keep (Bf (by repeat (first|exact trivial|refine And.intro rfl ?_)))⟩)
   ·
    refine Dh Jr ze4 rfl rfl rfl rfl (by omega) rfl rfl (fun r v j F g h=>?_)
    have p:w8.heap.size≤r:=by rw[j];exact szD
    have q:=S.le j;have n:=c.ne j;have f:=b.ne j;have m:=d.ne j;have S:=S.trans h;have c:=c.sub h;have b:=b.sub h;have d:=d.sub h
    have g:Has v r ((Gt A.nodes.length []).map Value.bool) 4:=by have:=g;rw[Ql,List.map_replicate];rw[Int.toNat_natCast] at this;rw[←AFA];exact this
    refine Be h.agr<|Aq 3 rfl<|Az rfl ADB (Un (getN A y) v) ?_;rintro _ w17 ⟨rfl,s18⟩;have S:=S.trans s18;have c:=c.sub s18;have b:=b.sub s18;have d:=d.sub s18;have g:=g.sub s18;refine Be s18.agr<|Aq 8 rfl<|Az rfl AFY (AGA A na fa nc fc 0 t r f (· < w.heap.size) (fun k hk e=>by have:=q;omega) hmost 201 y (itN (getN A y)) [] 200 w17 hyu (by decide) (by decide) (by decide) (Pl.nil A) b g (hF.sub S)) ?_;rintro vr w19 ⟨hv,_,ag⟩;have S:=S.upd ag q;have c:=c.upd ag n;have b:=b.upd ag f;have d:=d.upd ag m
    subst hv
    refine Cv rfl (ag.mono fun k _ e=>.inr (e▸p))<|Tn 9 rfl rfl rfl rfl<|Bp 10 rfl rfl<|ABm 34 rfl (fun h21=>?_) (fun h21=>?_)
    ·
     have hbad:Ky A y=false:=(by unfold Ky;rw[Ug,decide_eq_true h21];rfl)
     refine Gg 11 rfl (by kernel_rfl) rfl rfl<|Gg 12 rfl (by kernel_rfl) rfl rfl<|Gg 13 rfl (by kernel_rfl) rfl rfl<|Gg 14 rfl (by kernel_rfl) rfl rfl<|Bg 15 rfl (fun _ _=>.pick_t rfl rfl)<|Cp<|Ab<|Bm rfl<|Ac<|Aa rfl<|Ah rfl<|Ae<|Ab<|Bb 4 rfl rfl rfl ?_
     rw[allHp,AHc hy hbad,Bool.and_false]
     exact⟨rfl,S⟩
    ·
     have h34:=h21
     refine Bl 11 rfl Da rfl<|Bg 12 rfl (fun _ _=>.indexArr Eb rfl rfl (by omega))<|Ck 13 rfl Dm rfl d (nE id o) rfl<|Tn 14 rfl rfl rfl rfl<|Bg 15 rfl (fun _ _=>.pick_f rfl rfl)<|Cp<|Ab<|An rfl (fun h22=>?_) (fun h22=>?_)
     ·
      have hbad:Ky A y=false:=(by unfold Ky;rw[Uf,decide_eq_true h22,Bool.or_true];rfl)
      refine Ac<|Aa rfl<|Ah rfl<|Ae<|Ab<|Bb 4 rfl rfl rfl ?_
      rw[allHp,AHc hy hbad,Bool.and_false]
      exact⟨rfl,S⟩
     ·
      have hgood:Ky A y=true:=(by unfold Ky;rw[Ug,Uf,decide_eq_false h34,decide_eq_false h22];rfl)
      refine Ao<|Ab<|Aa rfl<|Ak (.as (.bin rfl rfl rfl) (Cs (y:=((i+1:Nat):Int)) (by omega) (by omega)))<|Af rfl ?_
      exact Ae (fun a ka=>⟨i+1,⟨by omega,AFw hy hp hgood,c,b,S⟩,by omega,ka.keep (Bf (by repeat (first|exact trivial|refine And.intro rfl ?_)))⟩)
  ·
   obtain rfl:i=l.length:=(by omega)
   rw[List.take_length] at hp
   refine Co rfl<|Ab<|Ac<|Aa rfl<|Ah rfl<|Ae<|Ab<|Bb 4 rfl rfl rfl ?_
   rw[allHp,hp,hokb]
   exact⟨rfl,S⟩
theorem AEq(A:Ar)(na fa:Option Addr)(nc fc:Nat)(r:Int)(hr:U64 r)(w:World)(hA:ArR w na fa A):
  FC Tryz.prog 101 [arV na fa nc fc A,.int .u64 r] w (Val (.bool (allHp A [r])) w):=by
 refine As Tryz.func101 rfl Tryz.ntmps101 rfl ?_
 have S:=Ax w
 refine Ac<|Aa rfl<|Bu rfl rfl rfl (fun h d m j a f=>?_);have S:=S.trans f
 have a:Has d h ([.slice na A.nodes.length nc,.slice fa A.free.length fc]) _:=a
 refine Ah rfl<|Ae<|Ab<|Ac<|Aa rfl<|Ak (.loadR ([.slice na A.nodes.length nc,.slice fa A.free.length fc]) Cb rfl a.row rfl)<|Af rfl<|Bi Kw _ Zw rfl rfl rfl rfl rfl rfl rfl (fun g c k i b e=>?_);have S:=S.trans e;refine Az rfl ALs (AME A na fa nc fc [r] (some ⟨g,0,none⟩) 1 (by simp) (fun x hx=>by rw[List.mem_singleton.1 hx];exact hr) c (hA.sub S) (Ik (enc:=u6) (l:=[r]) b)) ?_;rintro _ w1 ⟨rfl,s2⟩;have S:=S.trans s2;refine Ah rfl<|Ae<|Ab<|Bb 4 rfl rfl rfl ?_
 exact⟨rfl,S⟩
theorem AJ6{σ:Type}(l:Nat)(H:σ→Bool→(Nat→Prop)→World→Prop)(step:σ→It→σ × Bool)(cnt:σ→Nat)(N:Nat)(hc:∀s x,cnt (step s x).1≤cnt s+1)(hT:YT Tryz.prog l It.val It.ok cnt N H step)
  (A:Ar) (na fa:Option Addr) (nc fc:Nat) (r:Int) (L:List It) (hL:IsT A r L):∀(s:σ) (C M:Nat→Prop) (w:World),U64 r→cnt s+L.length≤N→Ft M (fun u=>ArR u na fa A) w→(∀k,M k→¬C k)→Ft C (H s true C) w →
  FC Tryz.prog 166 [arV na fa nc fc A,.int .u64 r,.func (.yield l) #[] #[]] w (fun v w'=>∃C',v=.bool (Dj step s L).2∧Ft C' (H (Dj step s L).1 (Dj step s L).2 C') w'∧Agr C w w'∧Up C w C'):=by
 induction hL with
 |nil =>
  intro s C M w hr hN hA hMC hH
  refine Mc Tryz.func166 rfl Tryz.ntmps166 rfl ?_
  have G:Agr C w w:=Agr.refl _ _
  refine Ac<|Aa rfl<|Bu rfl rfl rfl (fun m o t z c j=>?_)
  have geG_3:=Gi G t
  have G:=G.trans j.agr;have hH:=hH.sub j
  have c:Has o m ([.slice na A.nodes.length nc,.slice fa A.free.length fc]) _:=c
  refine Ah rfl<|Ae<|Ab<|Ac<|Ac<|Aa rfl<|Af rfl<|Bc rfl rfl rfl<|Ae<|Ab<|An rfl (fun h1=>?_) (fun h1=>?_)
  ·
   refine Ac<|Aa rfl<|Ah rfl<|Ae<|Ab<|Bb 6 rfl rfl rfl ?_
   exact⟨C,rfl,hH,G,Up.refl _ _⟩
  ·
   exact absurd rfl h1
 | @node r g a b it L R h1 h2 h3 h4 h5 ih1 ih2 =>
  intro s C M w hr hN hA hMC hH
  obtain⟨x,hx,hxi,hxa,hxb⟩:∃x,Ch A r=some x∧(⟨x.n,x.v⟩:It)=it∧x.k0=a∧x.k1=b:=⟨_,h1,rfl,rfl,rfl⟩
  have hxo:=hA.now.nok x (Ek hx)
  have hr0:¬r=0:=fun e=>by rw[e,Jp] at hx;cases hx
  have hCw:∀k,C k→k<w.heap.size:=hH.lt
  clear h1
  rw[Ag,Al] at hN
  have hN1:=Sk hc L s
  have hN2:=hc (Dj step s L).1 it
  subst hxi hxa hxb
  refine Mc Tryz.func166 rfl Tryz.ntmps166 rfl ?_
  have G:Agr C w w:=Agr.refl _ _
  refine Ac<|Aa rfl<|Bu rfl rfl rfl (fun m o t z c j=>?_)
  have geG_3:=Gi G t
  have G:=G.trans j.agr;have hA:=hA.sub j;have hH:=hH.sub j
  have c:Has o m ([.slice na A.nodes.length nc,.slice fa A.free.length fc]) _:=c
  refine Ah rfl<|Ae<|Ab<|Ac<|Ac<|Aa rfl<|Af rfl<|Bc rfl rfl rfl<|Ae<|Ab<|An rfl (fun h1=>?_) (fun h1=>?_)
  ·
   exact absurd h1 hr0
  ·
   refine Ao<|Ab<|Ac<|Aa rfl<|Ak (.loadR ([.slice na A.nodes.length nc,.slice fa A.free.length fc]) Cb rfl c.row rfl)<|Af rfl<|Az rfl Ll (Jc A na fa nc fc r hr o hA.now) ?_;rintro _ w2 ⟨rfl,s3⟩;have G:=G.trans s3.agr;have hA:=hA.sub s3;have hH:=hH.sub s3;have c:=c.sub s3;refine Ak (.as (v':=.tuple #[x.val,.int .i64 0]) (.move rfl) (by rw[Io hx]))<|Bz rfl rfl<|Bz rfl rfl<|Ay Dx rfl rfl (fun y D q B d p=>?_);have i:=c.ne q;have h:=hA.neNew q;have f:=hH.neNew q
   have geG_7:=Gi G q
   have G:=G.trans p.agr;have hA:=hA.sub p;have hH:=hH.sub p;have c:=c.sub p;refine At Ct rfl rfl rfl d (fun w4 z4 d a4=>?_)
   have G:=Dv G a4 geG_7
   have hA:=hA.updD a4 h;have hH:=hH.updD a4 f;have c:=c.upd a4 i
   have d:Has w4 y (x.cells) _:=d.now (by kernel_rfl)
   refine Ah rfl<|Ae<|Ab<|Ac<|Aa rfl<|Ak (.loadR ([.slice na A.nodes.length nc,.slice fa A.free.length fc]) Cb rfl c.row rfl)<|Av Da rfl<|Ak (.indexArr Eb rfl rfl (by omega))<|Ba Dm rfl d rfl<|Af rfl<|Az rfl AFb (ih1 s C M w4 (hxo.kids _ (by simp[Node.kids])) (by omega) hA hMC hH) ?_;rintro _ w5 ⟨C1,rfl,hH1,ag,up⟩
   have hG3:=geG_3
   have hG7:=geG_7
   have nb3:¬C1 m:=up.not c.lt (fun e=>by have:=hCw _ e;omega)
   have nb7:¬C1 y:=up.not d.lt (fun e=>by have:=hCw _ e;omega)
   have hMC1:∀k,M k→¬C1 k:=fun k hk=>up.not (hA.lt k hk) (hMC k hk)
   have c:=c.step ag (fun e=>by have:=hCw _ e;omega);have d:=d.step ag (fun e=>by have:=hCw _ e;omega)
   have up:=up.le G.size
   have G:=G.trans ag;have hA:=hA.step ag hMC
   have hH:=hH1
   refine Af rfl<|Fo 23 rfl (fun h7=>?_) (fun h7=>?_)
   ·
    have q1:=h7
    rw[q1] at hH
    refine Af rfl<|Av Fl rfl<|Ba sh2 rfl d rfl<|Av Hv rfl<|Ba sh2 rfl d rfl<|Ak (.as (v':=(⟨x.n,x.v⟩:It).val) (.buildS Rv AJW rfl rfl) (by rfl))<|ABk rfl rfl (hT (Dj step s L).1 ⟨x.n,x.v⟩ C1 w5 ⟨hxo.n,hxo.v⟩ (by omega) hH) rfl rfl ?_;rintro _ w8 ⟨C2,rfl,hH2,ag2,up2⟩
    have nb3':¬C2 m:=up2.not c.lt nb3
    have nb7':¬C2 y:=up2.not d.lt nb7
    have hMC2:∀k,M k→¬C2 k:=fun k hk=>up2.not (hA.lt k hk) (hMC1 k hk)
    have c:=c.step ag2 nb3;have d:=d.step ag2 nb7
    have up2:=up.trans (up2.le G.size)
    have G:=G.up up ag2
    have hA:=hA.step ag2 hMC1
    have hH:=hH2
    refine Br rfl rfl<|Af rfl<|Fo 32 rfl (fun h10=>?_) (fun h10=>?_)
    ·
     have q2:=h10
     rw[q2] at hH
     refine Ak (.loadR ([.slice na A.nodes.length nc,.slice fa A.free.length fc]) Cb rfl c.row rfl)<|Av Da rfl<|Ak (.indexArr Eb rfl rfl (by omega))<|Ba Dm rfl d rfl<|Af rfl<|Az rfl AFb (ih2 _ C2 M w8 (hxo.kids _ (by simp[Node.kids])) (by omega) hA hMC2 hH) ?_;rintro _ w11 ⟨C3,rfl,hH3,ag3,up3⟩
     have up3:=up2.trans (up3.le G.size)
     have G:=G.up up2 ag3
     refine Br rfl rfl<|Ah rfl<|Ae<|Ab<|Bb 6 rfl rfl rfl ?_
     rw[Ov q1,ADO q2]
     exact⟨C3,rfl,hH3,G,up3⟩
    ·
     have q2:=h10
     refine Bd 6 rfl<|Bq rfl rfl<|Ah rfl<|Ae<|Ab<|Bb 6 rfl rfl rfl ?_
     rw[q2] at hH
     rw[Ov q1,AHp q2]
     exact⟨C2,rfl,hH,G,up2⟩
   ·
    have q1:=h7
    refine Bd 7 rfl<|Bq rfl rfl<|Af rfl<|Bd 6 rfl<|Bq rfl rfl<|Ah rfl<|Ae<|Ab<|Bb 6 rfl rfl rfl ?_
    rw[AAW q1]
    exact⟨C1,by rw[q1];rfl,hH,G,up⟩
theorem AG9{σ:Type}(l:Nat)(H:σ→Bool→(Nat→Prop)→World→Prop)(step:σ→It→σ × Bool)(cnt:σ→Nat)(N:Nat)(hc:∀s x,cnt (step s x).1≤cnt s+1)(hT:YT Tryz.prog l It.val It.ok cnt N H step)
  (A:Ar) (na fa:Option Addr) (nc fc:Nat) (r:Int) (L:List It) (hL:IsT A r L) (s:σ) (C M:Nat→Prop) (b2 b3:Nat) (w:World) (hr:U64 r) (hN:cnt s+L.length≤N) (hA:Ft M (fun u=>ArR u na fa A) w) (hMC:∀k,M k→¬C k) (hH:Ft C (H s true C) w)
  (h2:Has w b2 [.slice na A.nodes.length nc,.slice fa A.free.length fc] 26) (h3:Has w b3 [.int .u64 r] 31) :
  FC Tryz.prog 165 [.func (.yield l) #[] #[],.pointer (some ⟨b2,0,none⟩),.pointer (some ⟨b3,0,none⟩)] w (fun _ w'=>∃C',Ft C' (H (Dj step s L).1 (Dj step s L).2 C') w'∧Agr C w w'∧Up C w C'):=by
 refine As Tryz.func165 rfl Tryz.ntmps165 rfl ?_
 refine Aa rfl<|Ak (.loadR ([.slice na A.nodes.length nc,.slice fa A.free.length fc]) Cb rfl h2.row rfl)<|Ba Dm rfl h3 rfl<|Af rfl<|Az rfl AFb (AJ6 l H step cnt N hc hT A na fa nc fc r L hL s C M w hr hN hA hMC hH) ?_;rintro _ w1 ⟨C1,rfl,hH1,ag,up⟩;refine Ae ?_
 refine fun a ka=>⟨ka.defers,_,Dg (rs:=[]) (vs:=[]) ka rfl trivial,?_⟩
 exact⟨C1,hH1,ag,up⟩
theorem AII(A:Ar)(na fa:Option Addr)(nc fc:Nat)(r:Int)(w:World):
  FC Tryz.prog 96 [arV na fa nc fc A,.int .u64 r] w (fun v w'=>∃b2 b3,v=.func (.func 165) #[] #[.pointer (some ⟨b2,0,none⟩),.pointer (some ⟨b3,0,none⟩)]∧Has w' b2 [.slice na A.nodes.length nc,.slice fa A.free.length fc] 26∧Has w' b3 [.int .u64 r] 31∧Sub w w'):=by
 refine As Tryz.func96 rfl Tryz.ntmps96 rfl ?_
 have S:=Ax w
 refine Ac<|Aa rfl<|Bu rfl rfl rfl (fun d e l i a f=>?_);have S:=S.trans f
 have a:Has e d ([.slice na A.nodes.length nc,.slice fa A.free.length fc]) _:=a
 refine Bu rfl rfl rfl (fun g j k h b c=>?_);have S:=S.trans c;have a:=a.sub c;refine Ah rfl<|Ae<|Ab<|Ac<|Aa rfl<|Ak (.func (xs:=[]) (ys:=[_,_]) rfl rfl)<|Ah rfl<|Ae<|Ab<|Bb 4 rfl rfl rfl ?_
 exact⟨d,g,rfl,a,b,S⟩
def inR(low high:Int)(l:List It):List It:=l.filter fun x=>decide (low≤x.k∧x.k≤high)
def Kq(low high:Int)(s:List It)(x:It):List It × Bool:=if x.k>high then(s,false) else if low≤x.k then(s++[x],true) else(s,true)
theorem AD8(low high:Int)(s:List It)(x:It):(Kq low high s x).1.length≤s.length+1:=by
 unfold Kq
 split
 ·simp
 ·split<;>simp
theorem Vo{low high:Int}:∀ {l:List It},Srt l→∀s,(Dj (Kq low high) s l).1=s++inR low high l
 | [],_,s=>by simp[Dj,inR]
 |x::l,h,s=>by
  have h2:=List.pairwise_cons.1 h
  rw[Dj]
  by_cases q:x.k>high
  ·have e:Kq low high s x=(s,false):=if_pos q
   rw[e]
   have:inR low high (x::l)=[]:=by
    unfold inR
    rw[List.filter_eq_nil_iff]
    intro y hy
    rcases List.mem_cons.1 hy with rfl|hy
    ·simp;omega
    ·have:=h2.1 y hy;simp;omega
   simp[this]
  ·by_cases q2:low≤x.k
   ·have e:Kq low high s x=(s++[x],true):=by rw[Kq,if_neg q,if_pos q2]
    rw[e,if_pos rfl,Vo h2.2]
    have:inR low high (x::l)=x::inR low high l:=by
     unfold inR;rw[List.filter_cons,if_pos (by simp;omega)]
    rw[this];simp
   ·have e:Kq low high s x=(s,true):=by rw[Kq,if_neg q,if_neg q2]
    rw[e,if_pos rfl,Vo h2.2]
    have:inR low high (x::l)=inR low high l:=by
     unfold inR;rw[List.filter_cons,if_neg (by simp;omega)]
    rw[this]
def HAll(l:Nat)(rL:Loop)(b6 b7 b10 base:Nat)(low high:Int)(rows:List It)(b:Bool)(C:Nat→Prop)(W:World):Prop :=
 ∃v,(Lp l (Uu rL 0 b) W∧Has W b6 [.int .i64 low] 2∧Has W b7 [.int .i64 high] 2∧Has W b10 [v] 42∧Ows base W 51 2 v (rows.map It.cells))∧(∀k,ob v=some k→k≠l∧k≠b6∧k≠b7∧k≠b10)∧∀k,C k↔(k=l∨k=b10∨ob v=some k)∨(k=b6∨k=b7)
theorem HAll.ft{l:Nat}{rL:Loop}{b6 b7 b10 base:Nat}{low high:Int}{rows:List It}{b:Bool}{C:Nat→Prop}{W:World}{v:Value}(hC:∀k,C k↔(k=l∨k=b10∨ob v=some k)∨(k=b6∨k=b7))
  (h1:Lp l (Uu rL 0 b) W) (h2:Has W b6 [.int .i64 low] 2) (h3:Has W b7 [.int .i64 high] 2) (h4:Has W b10 [v] 42) (h5:Ows base W 51 2 v (rows.map It.cells)) (hob:∀k,ob v=some k→k≠l∧k≠b6∧k≠b7∧k≠b10) :
  Ft C (HAll l rL b6 b7 b10 base low high rows b C) W:=by
 refine⟨fun k hk=>?_,fun u a=>⟨v,⟨h1.step a (fun hn=>hn ((hC _).2 (.inl (.inl rfl)))),h2.step a (fun hn=>hn ((hC _).2 (.inr (.inl rfl)))),h3.step a (fun hn=>hn ((hC _).2 (.inr (.inr rfl)))),h4.step a (fun hn=>hn ((hC _).2 (.inl (.inr (.inl rfl))))),h5.step a (fun k hk hn=>hn ((hC k).2 (.inl (.inr (.inr hk)))))⟩,hob,hC⟩⟩
 rcases(hC k).1 hk with(rfl|rfl|h)|(rfl|rfl)
 ·exact h1.lt
 ·exact h4.lt
 ·exact(h5.ge k h).2
 ·exact h2.lt
 ·exact h3.lt
theorem AMG(A:Ar)(na fa:Option Addr)(nc fc:Nat)(r:Int)(hr:U64 r)(low high:Int)(w:World)(hA:ArR w na fa A):
  FC Tryz.prog 43 [arV na fa nc fc A,.int .u64 r,.int .i64 low,.int .i64 high] w (fun v w'=>Sub w w'∧∃a c rows e,v=.tuple #[.slice a (rows.map It.cells).length c,.int .i64 e]∧Ows w.heap.size w' 51 2 (.slice a (rows.map It.cells).length c) (rows.map It.cells)∧(¬isMap A r→e=1)∧∀L,isMap A r→IsT A r L→rows=inR low high L∧e=0):=by
 refine Zv Tryz.func43 rfl Tryz.ntmps43 rfl ?_
 have S:=Ax w
 refine Ac<|Aa rfl<|Bu rfl rfl rfl (fun az bd bn bt n bi=>?_);have bm:=S.le bn;have S:=S.trans bi
 have n:Has bd az ([.slice na A.nodes.length nc,.slice fa A.free.length fc]) _:=n
 refine Bu rfl rfl rfl (fun am bu a5 bs d a2=>?_);have bl:=S.le a5;have ax:=n.ne a5;have S:=S.trans a2;have n:=n.sub a2;refine Bu rfl rfl rfl (fun al bc ay br f au=>?_);have bk:=S.le ay;have aw:=n.ne ay;have av:=d.ne ay;have S:=S.trans au;have n:=n.sub au;have d:=d.sub au;refine Ah rfl<|Ah rfl<|Ae<|Ab<|Ac<|Ac<|Aa rfl<|Ak (.loadR ([.slice na A.nodes.length nc,.slice fa A.free.length fc]) Cb rfl n.row rfl)<|Af rfl<|Az rfl AKd (ABV A na fa nc fc r hr bc (hA.sub S)) ?_;rintro _ w1 ⟨rfl,s2⟩;have S:=S.trans s2;have n:=n.sub s2;have d:=d.sub s2;have f:=f.sub s2;refine Ak (.not rfl)<|Ae<|Ab<|Db rfl (fun h3=>?_) (fun h3=>?_)
 ·
  have hno:¬isMap A r:=(fun h=>by have h2:=h3;rw[Qk h] at h2;cases h2)
  refine Ac<|Aa rfl<|Ah rfl<|Ah rfl<|Ae<|Ab<|AE4 (rs:=[.tmp 8,.tmp 9]) (vs:=[_,_]) rfl rfl ⟨rfl,rfl,trivial⟩ ?_
  exact⟨S,none,0,[],1,rfl,Ows.nil _ _ _ _,fun _=>rfl,fun L hm _=>absurd hm hno⟩
 ·
  have hmb:isMapB A r=true:=(by simpa using h3)
  have hmap:isMap A r:=(Ic A r).1 (by simpa using h3)
  obtain⟨_,L,hT,hL2⟩:=id hmap
  have hsrt:=hT.srt
  refine Ao<|Ab<|Ac<|Aa rfl<|Ay AKV rfl rfl (fun Q ar Y bb b R=>?_);have a4:=S.le Y;have aq:=n.ne Y;have X:=d.ne Y;have U:=f.ne Y;have S:=S.trans R;have n:=n.sub R;have d:=d.sub R;have f:=f.sub R;refine Ae<|Ab<|Ac<|Ac<|Aa rfl<|Ak (.loadR ([.slice na A.nodes.length nc,.slice fa A.free.length fc]) Cb rfl n.row rfl)<|Af rfl<|Az rfl AMS (AII A na fa nc fc r ar) ?_;rintro _ w4 ⟨bA,bR,rfl,hbA,hbR,s5⟩;have S:=S.trans s5;have n:=n.sub s5;have d:=d.sub s5;have f:=f.sub s5;have b:=b.sub s5;refine Ae<|Ab<|ABn (cs:=[_,_]) rfl ALt ?_
  intro rL W1 hst hpe hps hasg hbd hk1 s1 z1 hL hD
  obtain⟨b_D,eD⟩:∃D,D=w4.heap.size:=⟨_,rfl⟩
  rw[←eD] at hk1 z1 hL hD ⊢
  obtain⟨b_l,el⟩:∃l,l=b_D+1:=⟨_,rfl⟩
  rw[←el] at hk1 hL ⊢
  have n_D_l:b_D≠b_l:=by omega
  have ge_D:_≤b_D:=Ad S.size (by omega)
  have ge_l:_≤b_l:=Ad S.size (by omega)
  have ae:az≠b_D:=fun e=>by have:=n.lt;omega
  have ad:az≠b_l:=fun e=>by have:=n.lt;omega
  have ac:am≠b_D:=fun e=>by have:=d.lt;omega
  have q:am≠b_l:=fun e=>by have:=d.lt;omega
  have ab:al≠b_D:=fun e=>by have:=f.lt;omega
  have p:al≠b_l:=fun e=>by have:=f.lt;omega
  have M:Q≠b_D:=fun e=>by have:=b.lt;omega
  have i:Q≠b_l:=fun e=>by have:=b.lt;omega
  have S:=S.trans s1;have n:=n.sub s1;have d:=d.sub s1;have f:=f.sub s1;have b:=b.sub s1
  rw[AFo (id:=0) hst hpe] at hL
  have hY:YT Tryz.prog b_l It.val It.ok List.length 200 (HAll b_l rL am al Q w.heap.size low high) (Kq low high):=by
   intro s x C W hx hcn hH
   obtain⟨v,⟨hL,d,f,b,o⟩,hob,hC⟩:=hH.now
   have szB:w.heap.size≤W.heap.size:=(by have:=hL.lt;omega)
   have G:Agr (fun k=>k=b_l∨k=Q∨ob v=some k) W W:=Agr.refl _ _
   refine FY.intro (m:=33) (F:=upd _ (some 19) x.val) [0] hL rfl (by show 1=rL.params.size;rw[hps];rfl) (AFu hps hk1 rfl) ?_
   show RC _ _ rL.assign _ _ _
   rw[hasg]
   refine Aa rfl<|Ay Rv rfl rfl (fun a0 bg N ba g J=>?_);have t:=hL.ne N;have V:=d.ne N;have T:=f.ne N;have I:=b.ne N;have y:=o.neNew N;have hL:=hL.sub J;have d:=d.sub J;have f:=f.sub J;have b:=b.sub J;have o:=o.sub J
   have geG_11:=Gi G N
   have G:=G.trans J.agr;have szB:=Ad szB J.size;refine At Ub rfl rfl rfl g (fun w6 z6 g a6=>?_);have hL:=hL.upd a6 t;have d:=d.upd a6 V;have f:=f.upd a6 T;have b:=b.upd a6 I;have o:=o.updD a6 y
   have G:=Dv G a6 geG_11
   have szB:=Ad szB a6.size
   have g:Has w6 a0 (x.cells) _:=g.now (by kernel_rfl)
   refine Ae (ABp hL ?_)
   intro w7 a7 z7 hL
   have d:=d.step a7 (fun e=>q e);have f:=f.step a7 (fun e=>p e);have b:=b.step a7 (fun e=>i e);have o:=o.step a7 (fun k hk e=>(fun k hk=>(hob k hk).1) k hk e);have G:=G.trans (a7.mono fun k _ e=>.inl e);have szB:=Ad szB a7.size;have g:=g.step a7 (fun e=>t.symm e)
   show RC _ _ rL.body _ _ _
   rw[hbd]
   refine Bh<|Ac<|Ac<|Aa rfl<|Av Sg rfl<|Ba sh2 rfl g rfl<|Ba sh2 rfl f rfl<|Bc rfl rfl rfl<|Ae<|Ab<|An rfl (fun h8=>?_) (fun h8=>?_)
   ·
    have q1:=h8
    refine Co rfl (Ur (j:=some (.exit 0)) hL ?_)
    intro w9 a9 z9 hL
    have d:=d.step a9 (fun e=>q e);have f:=f.step a9 (fun e=>p e);have b:=b.step a9 (fun e=>i e);have o:=o.step a9 (fun k hk e=>(fun k hk=>(hob k hk).1) k hk e);have G:=G.trans (a9.mono fun k _ e=>.inl e);have szB:=Ad szB a9.size;have g:=g.step a9 (fun e=>t.symm e)
    -- round end 1
    rw[show Kq low high s x=(s,false) from if_pos q1]
    exact⟨C,rfl,HAll.ft hC hL d f b o hob,G.mono fun k _ e=>(hC k).2 (.inl e),Up.refl _ _⟩
   ·
    have q1:=h8
    refine Ao<|Ab<|Ac<|Aa rfl<|Av Sg rfl<|Ba sh2 rfl g rfl<|Ba sh2 rfl d rfl<|Bc rfl rfl rfl<|Ae<|Ab<|An rfl (fun h10=>?_) (fun h10=>?_)
    ·
     have q2:=h10
     refine Aa rfl<|Ba Qp rfl b rfl<|Ak (.loadR (x.cells) Ub rfl g.row rfl)<|Bi Kx _ Rv rfl rfl rfl rfl rfl rfl rfl (fun bp bf K a8 Z H=>?_);have ap:=d.ne K;have ao:=f.ne K;have ai:=b.ne K;have ah:=g.ne K;have an:=hL.ne K;have ak:=o.neNew K;have d:=d.sub H;have f:=f.sub H;have b:=b.sub H;have o:=o.sub H
     have geG_30:=Gi G K
     have G:=G.trans H.agr;have szB:=Ad szB H.size;have g:=g.sub H;have hL:=hL.sub H
     have ltb_6_31:=d.lt
     have ltb_7_31:=f.lt
     have ltb_10_31:=b.lt
     have szG_31:=G.size
     have ltb_11_31:=g.lt
     have ltb_l_31:=hL.lt
     have ltb_30_31:=Z.lt
     refine De (base:=w.heap.size) (rows:=s.map It.cells) (news:=[_]) Kx Rv rfl rfl rfl rfl (.inl o) (Dr Z) rfl (by intro r hr;rw[List.mem_singleton] at hr;subst hr;rfl) rfl (by(try simp only[Aj,Am,Ag,Al]);omega) (by(try simp only[Aj,Am,Ag,Al]);omega) (by omega) rfl rfl (fun bh be hc_31 aj B ob_31=>?_)
     have o31:=aj (.inl (by simp))
     rw[show _++[_]=((s++[x]).map It.cells) from by rw[List.map_append];rfl] at o31
     have P:=Ng ob_31 (fun k hk=>(hob k hk).2.1) d.lt;have O:=Ng ob_31 (fun k hk=>(hob k hk).2.2.1) f.lt;have z:=Ng ob_31 (fun k hk=>(hob k hk).2.2.2) b.lt;have aa:=Ng ob_31 y g.lt;have E:=Ng ob_31 (fun k hk=>(hob k hk).1) hL.lt;have d:=d.step B (fun e=>(fun k hk=>(hob k hk).2.1) _ e.1 rfl);have f:=f.step B (fun e=>(fun k hk=>(hob k hk).2.2.1) _ e.1 rfl);have b:=b.step B (fun e=>(fun k hk=>(hob k hk).2.2.2) _ e.1 rfl);have G:=G.trans (B.mono fun k _ e=>.inr (.inr e.1));have szB:=Ad szB B.size;have g:=g.step B (fun e=>y _ e.1 rfl);have hL:=hL.step B (fun e=>(fun k hk=>(hob k hk).1) _ e.1 rfl)
     obtain⟨bq,bo,rfl,bj⟩:=o31.form
     refine At Qp rfl rfl rfl b (fun w11 z11 b a11=>?_);have d:=d.upd a11 X;have f:=f.upd a11 U;have G:=G.trans (a11.mono fun k _ e=>.inr (.inl e));have szB:=Ad szB a11.size;have g:=g.upd a11 I.symm;have hL:=hL.upd a11 i.symm;have o31:=o31.updD a11 z;refine Ae (Ur (j:=none) hL ?_)
     intro w12 a12 z12 hL
     have d:=d.step a12 (fun e=>q e);have f:=f.step a12 (fun e=>p e);have b:=b.step a12 (fun e=>i e);have G:=G.trans (a12.mono fun k _ e=>.inl e);have szB:=Ad szB a12.size;have g:=g.step a12 (fun e=>t.symm e);have o31:=o31.step a12 (fun k hk e=>E k hk e)
     -- round end 2
     rw[show Kq low high s x=(s++[x],true) from by rw[Kq,if_neg q1,if_pos q2]]
     refine⟨_,rfl,HAll.ft (fun _=>Iff.rfl) hL d f b o31 (fun k hk=>⟨E k hk,P k hk,O k hk,z k hk⟩),G.mono fun k _ e=>(hC k).2 (.inl e),fun k hk=>?_⟩
     rcases hk with(e|e|e)|e
     ·exact .inl ((hC k).2 (.inl (.inl e)))
     ·exact .inl ((hC k).2 (.inl (.inr (.inl e))))
     ·rcases ob_31 with h|⟨c,h,h3⟩
      ·exact .inl ((hC k).2 (.inl (.inr (.inr (h▸e)))))
      ·rw[h] at e;cases e;exact .inr (Ad szG_31 h3)
     ·exact .inl ((hC k).2 (.inr e))
    ·
     have q2:=h10
     refine Ao (Ur (j:=none) hL ?_)
     intro w13 a13 z13 hL
     have d:=d.step a13 (fun e=>q e);have f:=f.step a13 (fun e=>p e);have b:=b.step a13 (fun e=>i e);have o:=o.step a13 (fun k hk e=>(fun k hk=>(hob k hk).1) k hk e);have G:=G.trans (a13.mono fun k _ e=>.inl e);have szB:=Ad szB a13.size;have g:=g.step a13 (fun e=>t.symm e)
     -- round end 3
     rw[show Kq low high s x=(s,true) from by rw[Kq,if_neg q1,if_neg q2]]
     exact⟨C,rfl,HAll.ft hC hL d f b o hob,G.mono fun k _ e=>(hC k).2 (.inl e),Up.refl _ _⟩
  refine FC.mono (AG9 b_l _ _ _ _ (AD8 low high) hY A na fa nc fc r L hT [] (fun k=>(k=b_l∨k=Q∨ob (.slice none 0 0)=some k)∨(k=am∨k=al)) (· < w.heap.size) bA bR W1 hr (by simpa using hL2) ((Hm fun u s=>hA.sub s).sub S) (fun k hk e=>by rcases e with(e|e|e)|(e|e)<;>first|(cases e;done)|omega) (HAll.ft (fun _=>Iff.rfl) hL d f b (Ows.nil _ _ _ _) (fun k e=>by cases e)) (hbA.sub s1) (hbR.sub s1)) ?_
  rintro _ W2 ⟨C2,hH,ag,up⟩
  obtain⟨v,⟨hL,d,f,b,o⟩,hob,hC⟩:=hH.now
  have hDC:¬((b_D=b_l∨b_D=Q∨ob (.slice none 0 0)=some b_D)∨(b_D=am∨b_D=al)):=(fun e=>by rcases e with(e|e|e)|(e|e)<;>first|(cases e;done)|omega)
  have S:=S.agrN ag (fun k e=>by rcases e with(e|e|e)|(e|e)<;>first|(cases e;done)|omega)
  have hDn:¬C2 b_D:=up.not hD.lt hDC
  have hD:=hD.step ag hDC
  have hoD:∀k,ob v=some k→k≠b_D:=fun k hk e=>hDn (e▸(hC k).2 (.inl (.inr (.inr hk))))
  obtain⟨a1,c1,rfl,_⟩:=o.form
  refine⟨_,hL,ADM,fun W3 a3 z3=>.inl ⟨ADL,ABq ?_⟩⟩
  have S:=S.agrN a3 (fun k e=>e▸ge_l)
  have o:=o.step a3 (fun k hk e=>(fun k hk=>(hob k hk).1) k hk e);have b:=b.step a3 (fun e=>i e);have hD:=hD.step a3 (fun e=>n_D_l e);refine Ac<|Aa rfl<|Ba Qp rfl b rfl<|Ah rfl<|Ah rfl<|Ae<|Ab<|ABo (rs:=[.tmp 8,.tmp 9]) (vs:=[_,_]) rfl rfl (fun _=>⟨rfl,rfl,trivial⟩) hD (fun w14 a14 z14=>?_)
  have S:=S.agrN a14 (fun k e=>e▸ge_D)
  have o:=o.step a14 (fun k hk e=>hoD k hk e);have b:=b.step a14 (fun e=>M e)
  exact⟨S,a1,c1,_,0,rfl,o,fun h=>absurd hmap h,fun L' hm hl=>⟨by rw[hl.unique hT,Vo hsrt];simp,rfl⟩⟩
theorem AGW(A:Ar):Dc A [0]=[]:=by
 unfold Dc
 rw[List.foldl_cons,List.foldl_nil,Lw (Jp A)]
theorem ACr(A:Ar)(na fa:Option Addr)(nc fc:Nat)(hok:AOk A)(w:World)(hA:ArR w na fa A):
  FC Tryz.prog 45 [arV na fa nc fc A,.int .u64 0] w (Val (.tuple #[.slice none 0 0,.int .i64 0]) w):=by
 have hall:allHp A [0]=true:=AE0.2 ⟨hok,fun r hr=>⟨[],[],by rw[List.mem_singleton.1 hr];exact IsP.zero A⟩⟩
 refine As Tryz.func45 rfl Tryz.ntmps45 rfl ?_
 have S:=Ax w
 refine Ac<|Aa rfl<|Bu rfl rfl rfl (fun i m q p b n=>?_);have S:=S.trans n
 have b:Has m i ([.slice na A.nodes.length nc,.slice fa A.free.length fc]) _:=b
 refine Ah rfl<|Ah rfl<|Ae<|Ab<|Ac<|Aa rfl<|Ak (.loadR ([.slice na A.nodes.length nc,.slice fa A.free.length fc]) Cb rfl b.row rfl)<|Af rfl<|Bi Kw _ Zw rfl rfl rfl rfl rfl rfl rfl (fun j g o k f d=>?_);have S:=S.trans d;have b:=b.sub d;refine Az rfl ADC (ABf A na fa nc fc [0] 1 rfl (some ⟨j,0,none⟩) 1 (by decide) (fun x hx=>by rw[List.mem_singleton.1 hx];unfold U64;decide) g (hA.sub S) (Ik (enc:=u6) (l:=[0]) f)) ?_;rintro v_ w1 ⟨s2,hr⟩
 obtain⟨a1,c1,hv⟩:∃a1 c1,v_=Value.tuple #[.slice a1 0 c1,.int .i64 0]:=hr.elim (fun h=>absurd hok h.1) (fun⟨_,a,c,e,_⟩=>⟨a,c,by rw[e,AGW];rfl⟩)
 subst hv
 have S:=S.trans s2;have b:=b.sub s2;refine Af rfl<|Bz rfl rfl<|Bz rfl rfl<|Ah rfl<|Ah rfl<|Ae<|Ab<|Ac<|Ac<|Aa rfl<|Af rfl<|Bc rfl rfl rfl<|Af rfl<|Bn 20 rfl (fun h3=>?_) (fun h3=>?_)
 ·
  exact absurd rfl h3
 ·
  refine Ak (.loadR ([.slice na A.nodes.length nc,.slice fa A.free.length fc]) Cb rfl b.row rfl)<|Af rfl<|Az rfl AL6 ((hall▸AEq A na fa nc fc 0 (by unfold U64;decide) w1 (hA.sub S))) ?_;rintro _ w4 ⟨rfl,s5⟩;have S:=S.trans s5;have b:=b.sub s5;refine Ak (.not rfl)<|Bq rfl rfl<|Ae<|Ab<|Bw rfl<|Ao<|Ab<|Ac<|Aa rfl<|Ah rfl<|Ae<|Ab<|Ac<|Ac<|Aa rfl<|Af rfl ?_;refine Cm Dd rfl<|Af rfl<|Ae<|Ab<|Bh<|Cw (α:=Unit) (fun _=>[(2,.pointer (some ⟨i,0,none⟩)),(8,.slice none 0 0),(26,.slice a1 0 c1),(27,.int .i64 0),(28,.int .i64 0)]) (fun _ w6=>Has w6 i [.slice na A.nodes.length nc,.slice fa A.free.length fc] 26∧Sub w w6) (fun _=>0) () (Bf (by repeat (first|exact trivial|refine And.intro rfl ?_))) (⟨b,S⟩) (fun _ w6 hJ=>?_)
  obtain⟨b,S⟩:=hJ
  refine Ac<|Aa rfl<|Bc rfl rfl rfl<|Ae<|Ab<|Ac<|An rfl (fun h7=>?_) (fun h7=>?_)
  ·
   exact absurd h7 (by decide)
  ·
   refine Co rfl<|Ab<|Ac<|Aa rfl<|Af rfl<|Az rfl AKf (Xa none 0 _ w6) ?_;rintro _ w8 ⟨rfl,s9⟩;have S:=S.trans s9;refine Ae<|Ab<|Ac<|Aa rfl<|Af rfl<|Ah rfl<|Ah rfl<|Ae<|Ab<|Bo (rs:=[.tmp 4,.tmp 5]) (vs:=[_,_]) rfl rfl ⟨rfl,rfl,trivial⟩ ?_
   exact⟨rfl,S⟩
theorem ADV{l:List It}(h:∀x∈l,Yf x):inR (-4611686018427387904) 4611686018427387904 l=l:=by
 unfold inR
 rw[List.filter_eq_self]
 intro x hx
 have:=h x hx
 unfold Yf at this
 simp only[decide_eq_true_eq]
 omega
theorem AGo{l:List It}(h:AFE l)(ha:Ap l):Srt l:=by
 unfold AFE Ap Srt at *
 exact(h.and ha).imp (fun {x y} ⟨h1,h2⟩=>by omega)
set_option maxHeartbeats 2000000 in
theorem AAf(A:Ar)(na fa:Option Addr)(nc fc:Nat)(hnc:A.nodes.length≤nc)(hfc:A.free.length≤fc)(R:Rt)(hR:R.ok)(h0:R.h=0)(m:Mo)(hC:IsC A R m)(w:World)(hA:ArR w na fa A):
  FC Tryz.prog 14 [arV na fa nc fc A,R.val] w (fun v w'=>Sub w w'∧∃p M,v=.tuple #[moV p m,.int .i64 0]∧MoS p m∧UpN w M∧Ft M (fun u=>MoR u p m) w'):=by
 obtain⟨u1,u2,u3,u4⟩:=hR
 obtain⟨T,t1,t2,t3,t4⟩:=hC.tab
 obtain⟨P0,r1⟩:=hC.row
 have hh:m.heap=[]:=by
  obtain⟨Q,L,p1,p2⟩:=hC.heap
  rw[h0] at p1
  rw[((IsP.zero A).unique p1).2] at p2
  exact List.perm_nil.1 p2
 have hk1:∀x∈m.map,Yf x:=fun x hx=>hC.keys x (by simp[hx])
 have hl1:=hC.mapl
 have hrp:=Yn t1
 have hl2:(Ko A R.t).length≤200:=by rw[hrp.length_eq];exact t3
 have hl3:=hC.rowl
 have hmt:∀l',l'.Perm (Ko A R.t)→AFE l'→l'=m.tab:=fun l' hp hs=>by
  have hpT:=hp.trans hrp
  exact AA4 (AGo hs (t2.perm hpT.symm)) hC.tabs (hpT.trans t4.symm)
 have htl:m.tab.length=(Ko A R.t).length:=by rw[t4.length_eq,hrp.length_eq]
 obtain⟨rm,rt,rr,rh⟩:=R
 simp only[] at h0 u1 u2 u3 u4 t1 t2 t3 t4 r1 hrp hl2 hmt htl
 subst h0
 refine As Tryz.func14 rfl Tryz.ntmps14 rfl ?_
 have S:=Ax w
 refine Ac<|Aa rfl<|Bu rfl rfl rfl (fun ac V aj ah c Y=>?_);have S:=S.trans Y
 have c:Has V ac ([.slice na A.nodes.length nc,.slice fa A.free.length fc]) _:=c
 refine Bu rfl rfl rfl (fun ab U ai ae d K=>?_);have S:=S.trans K;have c:=c.sub K
 have d:Has U ab ([.int .u64 rm,.int .u64 rt,.int .u64 rr,.int .u64 0]) _:=d
 refine Ay AB5 rfl rfl (fun E P aa ad b G=>?_);have H:=S.le aa;have S:=S.trans G;have c:=c.sub G;have d:=d.sub G;refine Ah rfl<|Ae<|Ab<|Ac<|Aa rfl<|Ak (.loadR ([.slice na A.nodes.length nc,.slice fa A.free.length fc]) Cb rfl c.row rfl)<|Av ACO rfl<|Ba Dm rfl d rfl<|Az rfl AMf (AMG A na fa nc fc rm u1 _ _ P (hA.sub S)) ?_;rintro _ w1 ⟨s2,a1,c1,Po,e1,rfl,o1,_,hx1⟩
 obtain⟨rfl,rfl⟩:=hx1 m.map hC.isMap hC.map
 rw[ADV hk1,Aj] at o1
 rw[ADV hk1,Aj]
 have k1:m.map.length≤c1:=(by obtain⟨_,c',e,h⟩:=o1.form;rw[Aj] at e h;simp only[Value.slice.injEq] at e;omega)
 have upA:UpN _ _:=(fun k hk=>.inr (o1.ge k hk).1)
 have F1:=o1.ft.imp (fun u h=>h.sl.1)
 have z:=Di upA (fun _ (h:False)=>h.elim) b.lt
 have up1:=upA.low S.size
 have S:=S.trans s2;have c:=c.sub s2;have d:=d.sub s2;have b:=b.sub s2;refine Af rfl<|Ak (.as (v':=.slice a1 m.map.length c1) (.extract rfl rfl) (by rfl))<|Bz rfl rfl<|Ah rfl<|Ah rfl<|Ae<|Ab<|Ac<|Aa rfl<|Ak (.loadR ([.slice na A.nodes.length nc,.slice fa A.free.length fc]) Cb rfl c.row rfl)<|Av AF4 rfl<|Ba Dm rfl d rfl<|Az rfl AMi (AH7 A na fa nc fc hnc hfc rt u2 w1 (hA.sub S)) ?_;rintro _ w3 ⟨s4,a2,c2,rows2,e2,rfl,k2,o2,_,hx2⟩
 obtain⟨rfl,rfl⟩:=hx2 hC.isTab
 have upB:UpN _ _:=(fun k hk=>.inr (o2.ge k hk).1)
 have d24:∀k,ob (.slice a2 (Ko A rt).length c2)=some k→k≠E:=(fun k hk e=>by have h1:=(o2.ge k hk).1;have h2:=b.lt;omega)
 have d21:∀k,ob (.slice a1 m.map.length c1)=some k→¬ob (.slice a2 (Ko A rt).length c2)=some k:=(fun k hk e=>by have h1:=(o2.ge k e).1;have h2:=F1.lt k hk;omega)
 have up2:=upB.low S.size
 have o2:=o2.low S.size
 have S:=S.trans s4;have c:=c.sub s4;have d:=d.sub s4;have b:=b.sub s4;have F1:=F1.sub s4;refine Af rfl<|Ak (.as (v':=.slice a2 (Ko A rt).length c2) (.extract rfl rfl) (by rfl))<|Bz rfl rfl<|Ah rfl<|Ah rfl<|Ae<|Ab<|Ac<|Aa rfl<|Ak (.loadR ([.slice na A.nodes.length nc,.slice fa A.free.length fc]) Cb rfl c.row rfl)<|Av Lc rfl<|Ba Dm rfl d rfl<|Az rfl AMe (AIR A na fa nc fc hnc hfc rr u3 w3 (hA.sub S)) ?_;rintro _ w5 ⟨s6,a3,c3,V3,e3,rfl,k3,o3,_,hx3⟩
 obtain⟨rfl,rfl⟩:=hx3 m.row P0 hC.isRow r1
 rw[Aj] at o3
 rw[Aj]
 have upC:UpN _ _:=(fun k hk=>.inr (o3.ge k hk).1)
 have F3:=o3.ft.imp (fun u h=>h.sl.1)
 have s:=Di upC (fun _ (h:False)=>h.elim) b.lt
 have d23:∀k,ob (.slice a3 m.row.length c3)=some k→¬ob (.slice a2 (Ko A rt).length c2)=some k:=(fun k hk e=>by have h1:=(o3.ge k hk).1;have h2:=(o2.ge k e).2;omega)
 have up3:=upC.low S.size
 have S:=S.trans s6;have c:=c.sub s6;have d:=d.sub s6;have b:=b.sub s6;have F1:=F1.sub s6;have o2:=o2.sub s6;refine Af rfl<|Ak (.as (v':=.slice a3 m.row.length c3) (.extract rfl rfl) (by rfl))<|Bz rfl rfl<|Ah rfl<|Ah rfl<|Ae<|Ab<|Ac<|Aa rfl<|Ak (.loadR ([.slice na A.nodes.length nc,.slice fa A.free.length fc]) Cb rfl c.row rfl)<|Av AF3 rfl<|Ba Dm rfl d rfl<|Az rfl AMd (ACr A na fa nc fc hC.ok w5 (hA.sub S)) ?_;rintro _ w7 ⟨rfl,s8⟩;have S:=S.trans s8;have c:=c.sub s8;have d:=d.sub s8;have b:=b.sub s8;have F1:=F1.sub s8;have o2:=o2.sub s8;have F3:=F3.sub s8;refine Af rfl<|Ak (.as (v':=.slice none 0 0) (.extract rfl rfl) (by rfl))<|Bz rfl rfl<|Ah rfl<|Ah rfl<|Ae<|Ab<|Ac<|Aa rfl<|Ak (.loadR ([.slice na A.nodes.length nc,.slice fa A.free.length fc]) Cb rfl c.row rfl)<|Av ACO rfl<|Ba Dm rfl d rfl<|Az rfl AMc (AIG A na fa nc fc rm u1 w7 (hA.sub S)) ?_;rintro _ w9 ⟨s10,n5,e5,rfl,_,hx5⟩
 obtain⟨rfl,rfl⟩:=hx5 m.map hC.isMap hC.map
 have S:=S.trans s10;have b:=b.sub s10;have F1:=F1.sub s10;have o2:=o2.sub s10;have F3:=F3.sub s10;refine Af rfl<|Bz rfl rfl<|Bz rfl rfl<|Ah rfl<|Ah rfl<|Ae<|Ab<|Ac<|Ac<|Aa rfl<|Af rfl<|Ak (.as (v':=.bool false) (.bin rfl rfl rfl) (Bt (fun h=>h rfl)))<|Af rfl<|Af rfl<|Ak (.as (v':=.bool false) (.bin rfl rfl rfl) (Bt (fun h=>h rfl)))<|Bq rfl rfl ?_;refine Af rfl<|Af rfl<|Ak (.as (v':=.bool false) (.bin rfl rfl rfl) (Bt (fun h=>h rfl)))<|Bq rfl rfl<|Af rfl<|Af rfl<|Ak (.as (v':=.bool false) (.bin rfl rfl rfl) (Bt (fun h=>h rfl)))<|Bq rfl rfl<|Af rfl<|Af rfl<|Af rfl<|Cm Kx rfl<|Ak (.as (v':=.bool false) (.bin rfl rfl rfl) (Bt (fun h=>h rfl)))<|Bq rfl rfl<|Ae (Ab ?_);refine Bw rfl<|Ao<|Ab<|Ac<|Aa rfl<|Af rfl<|Az rfl AKf (AIC (Ko A rt) (by omega) a2 c2 w.heap.size w9 o2) ?_;rintro _ w11 ⟨rfl,ag,l',hp,hs,o2'⟩
 have S:=S.agrN ag (fun k e=>(o2.ge k e).1)
 have b:=b.step ag (fun e=>d24 _ e rfl);have F1:=F1.step ag d21;have F3:=F3.step ag d23
 have o2:=o2'
 obtain rfl:=hmt l' hp hs
 have k2':m.tab.length≤c2:=(by rw[htl];exact k2)
 have hts:∀t∈([⟨m.map,a1,c1⟩,⟨m.tab,a2,c2⟩,⟨[],none,0⟩]:List Tri),t.l.length≤1000:=(by intro t ht;simp only[List.mem_cons,List.not_mem_nil,or_false] at ht;rcases ht with rfl|rfl|rfl;show m.map.length≤1000;omega;show m.tab.length≤1000;omega;exact Nat.zero_le _)
 have hcat:Lh [⟨m.map,a1,c1⟩,⟨m.tab,a2,c2⟩,⟨[],none,0⟩]=m.map++m.tab:=(by simp[Lh])
 refine Ae<|Ab<|Ac<|Ac<|Aa rfl<|Af rfl<|Ak (.as (v':=.slice a2 m.tab.length c2) (.move rfl) (by rw[htl]))<|Af rfl<|Iu (vs:=[_,_,_]) AAy _ AKV rfl ⟨rfl,rfl,rfl,trivial⟩ rfl rfl rfl rfl rfl rfl (fun I F Z N C r=>?_);have S:=S.trans r;have b:=b.sub r;have F1:=F1.sub r;have o2:=o2.sub r;have F3:=F3.sub r;refine Az rfl AMb (AHJ [⟨m.map,a1,c1⟩,⟨m.tab,a2,c2⟩,⟨[],none,0⟩] (by simp) hts (some ⟨I,0,none⟩) 3 F (Ik (enc:=Tri.v) (l:=[⟨m.map,a1,c1⟩,⟨m.tab,a2,c2⟩,⟨[],none,0⟩]) C) (by intro t ht;simp only[List.mem_cons,List.not_mem_nil,or_false] at ht;rcases ht with rfl|rfl|rfl;exact F1.now;exact o2.sl.1;exact Sl.nil _ _ _)) ?_;rintro _ w13 ⟨s14,a8,c8,rfl,hc⟩
 rw[hcat] at hc
 rw[hcat]
 have S:=S.trans s14;have b:=b.sub s14;have F1:=F1.sub s14;have o2:=o2.sub s14;have F3:=F3.sub s14
 obtain⟨W1,S1,hc⟩:∃W,Sub W w13∧Sl W a8 2 ((m.map++m.tab).map It.cells):=⟨_,Ax _,hc⟩
 refine Cm Kx rfl<|Af rfl<|Ae<|Ab<|Bh<|Cw (α:=Nat) (fun i=>[(4,.pointer (some ⟨E,0,none⟩)),(6,.slice a1 m.map.length c1),(8,.slice a2 (Ko A rt).length c2),(10,.slice a3 m.row.length c3),(12,.slice none 0 0),(80,.slice a8 (m.map++m.tab).length c8),(81,.int .i64 ((m.map++m.tab).length:Int)),(82,.int .i64 (i:Int))]) (fun i w15=>i≤(m.map++m.tab).length∧Has w15 E [.slice none 0 0,.slice none 0 0,.slice none 0 0,.slice none 0 0] 45∧Ft (fun k=>ob (.slice a1 m.map.length c1)=some k) (fun u=>Sl u a1 2 (m.map.map It.cells)) w15∧Ft (fun k=>ob (.slice a3 m.row.length c3)=some k) (fun u=>Sl u a3 1 (m.row.map fun x=>[i6 x])) w15∧Ows w.heap.size w15 51 2 (.slice a2 (Ko A rt).length c2) (m.tab.map It.cells)∧Sub W1 w15∧Sub w w15) (fun i=>(m.map++m.tab).length-i) 0 (Bf (by repeat (first|exact trivial|refine And.intro rfl ?_))) (⟨Nat.zero_le _,b,F1,F3,o2,S1,S⟩) (fun i w15 hJ=>?_)
 obtain⟨hi,b,F1,F3,o2,S1,S⟩:=hJ;have hml:(m.map++m.tab).length≤400:=(by rw[Ag];omega)
 refine Ac<|Aa rfl<|Bc rfl rfl rfl<|Ae<|Ab<|Ac<|An rfl (fun h16=>?_) (fun h16=>?_)
 ·
  obtain⟨x,hx⟩:=Ce (l:=m.map++m.tab) (i:=i) (by omega)
  have hxk:Yf x:=hC.keys x (by have h9:=Au hx;rw[hh,List.append_nil];exact h9)
  unfold Yf at hxk
  refine Ao<|Ab<|Ac<|Bh<|Ac<|Aa rfl<|Ak (.indexS Kx rfl rfl (by omega) (hc.is (i:=0) (by simp only[Aj,Al,Am];omega)))<|Ak (.loadR (x.cells) Ub rfl ((hc.sub S1).rowAt (enc:=It.cells) (i:=i) hx) rfl)<|Ay Rv rfl rfl (fun J X j O f g=>?_);have D:=S.le j;have B:=b.ne j;have q:=F1.neNew j;have o:=F3.neNew j;have n:=o2.neNew j;have S:=S.trans g
  have geS1_17:=S1.le j
  have S1:=S1.trans g;have b:=b.sub g;have F1:=F1.sub g;have F3:=F3.sub g;have o2:=o2.sub g;refine At Ub rfl rfl rfl f (fun w17 z17 f a17=>?_);have S:=S.upd a17 D;have S1:=S1.upd a17 geS1_17;have b:=b.upd a17 B;have F1:=F1.updD a17 q;have F3:=F3.updD a17 o;have o2:=o2.updD a17 n
  have f:Has w17 J (x.cells) _:=f.now (by kernel_rfl)
  refine Ae<|Ab<|Ac<|Aa rfl<|Av Sg rfl<|Ba sh2 rfl f rfl<|Bc rfl rfl rfl<|Af rfl<|Bn 89 rfl (fun h18=>?_) (fun h18=>?_)
  ·
   exact absurd h18 (by omega)
  ·
   refine Av Sg rfl<|Ba sh2 rfl f rfl<|Bc rfl rfl rfl<|Bq rfl rfl<|Ae<|Ab<|An rfl (fun h19=>?_) (fun h19=>?_)
   ·
    exact absurd h19 (by omega)
   ·
    refine Ao<|Ab<|Aa rfl<|Ak (.as (.bin rfl rfl rfl) (Cs (y:=((i+1:Nat):Int)) (by omega) (by omega)))<|Af rfl ?_
    exact Ae (fun a ka=>⟨i+1,⟨by omega,b,F1,F3,o2,S1,S⟩,by omega,ka.keep (Bf (by repeat (first|exact trivial|refine And.intro rfl ?_)))⟩)
 ·
  refine Co rfl<|Ab<|Ac<|Aa rfl<|Af rfl<|Ak (.as (v':=.slice a2 m.tab.length c2) (.move rfl) (by rw[htl]))<|Af rfl<|Ak (.as (v':=.slice none m.heap.length 0) (.move rfl) (by rw[hh];rfl))<|Ak (.buildS AB5 AJX rfl rfl)<|At AB7 rfl rfl rfl b (fun w20 z20 b a20=>?_);have S:=S.upd a20 H;have F1:=F1.updD a20 z;have F3:=F3.updD a20 s;have o2:=o2.updD a20 d24
  have b:Has w20 E (moC ⟨a1,c1,a2,c2,a3,c3,none,0⟩ m) _:=b.now (by kernel_rfl)
  refine Ah rfl<|Ae<|Ab<|Bo (rs:=[.cell 4 45,.tmp 5]) (vs:=[_,_]) rfl rfl ⟨⟨_,rfl,.inr ⟨moC ⟨a1,c1,a2,c2,a3,c3,none,0⟩ m,AB7,b.row,rfl⟩⟩,rfl,trivial⟩ ?_
  exact⟨S,⟨a1,c1,a2,c2,a3,c3,none,0⟩,_,rfl,⟨k1,k2',k3,by rw[hh];exact Nat.le_refl _,by omega,by omega,by omega,by rw[hh];exact Nat.zero_le _⟩,up1.or (up2.or up3),(F1.and (o2.ft.and F3)).imp fun u h=>⟨h.1,h.2.1.sl.1,h.2.2,by rw[hh];exact Sl.nil _ _ _⟩⟩
end Go.Proofs.YtbjmllnddanniaaGreat
