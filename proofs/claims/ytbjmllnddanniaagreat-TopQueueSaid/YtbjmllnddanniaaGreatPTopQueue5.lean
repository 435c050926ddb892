/-
  What the law TopQueue leans on, part 5.
-/
import Derived.Test.YtbjmllnddanniaaGreatPTopQueue4
set_option linter.unusedVariables false
set_option linter.unusedSimpArgs false
namespace Go.Proofs.YtbjmllnddanniaaGreat
open Go Go.XL
def Pe(l:List Int)(f:Int→Option Value):Int→Option Value:=fun i=>if i∈l then some (.bool true) else f i
theorem AGO(f:Int→Option Value):Pe [] f=f:=by funext i;simp[Pe]
theorem AED{l:List Int}{k:Nat}{x:Int}{f:Int→Option Value}(h:l[k]?=some x):(fun i=>if i=x then some (.bool true) else Pe (l.take k) f i)=Pe (l.take (k+1)) f:=by
 funext i
 unfold Pe
 rw[List.take_add_one,h]
 by_cases e:i=x
 ·subst e;simp
 ·simp[e]
theorem Vv(b:Nat)(l:List Int)(a:Option Addr)(c m:Nat)(hm:m=l.length)(f:Int→Option Value)(M:Nat→Prop)(w:World)(hb:HasM w b .i64 f)(hL:Ft M (fun u=>Sl u a 1 (l.map fun x=>[i6 x])) w)(hMb:∀k,M k→k≠b)(hlen:l.length≤1000):
  FC Tryz.prog 266 [.map (some b),.slice a m c] w (fun u w'=>HasM w' b .i64 (Pe l f)∧Agr (· = b) w w'):=by
 subst hm
 refine As Tryz.func266 rfl Tryz.ntmps266 rfl ?_
 have G:Agr (· = b) w w:=Agr.refl _ _
 refine Ac<|Aa rfl<|Af rfl<|Cm Dd rfl<|Af rfl<|Ae<|Ab<|Bh<|Cw (α:=Nat) (fun i=>[(0,.map (some b)),(6,.slice a l.length c),(7,.int .i64 (l.length:Int)),(8,.int .i64 (i:Int))]) (fun i w1=>i≤l.length∧HasM w1 b .i64 (Pe (l.take i) f)∧Ft M (fun u=>Sl u a 1 (l.map fun x=>[i6 x])) w1∧Agr (· = b) w w1) (fun i=>l.length-i) 0 (Bf (by repeat (first|exact trivial|refine And.intro rfl ?_))) (⟨Nat.zero_le _,by rw[List.take_zero,AGO];exact hb,hL,G⟩) (fun i w1 hJ=>?_)
 obtain⟨hi,hb,hL,G⟩:=hJ
 refine Ac<|Aa rfl<|Bc rfl rfl rfl<|Ae<|Ab<|Ac<|An rfl (fun h2=>?_) (fun h2=>?_)
 ·
  obtain⟨x,hx⟩:=Ce (l:=l) (i:=i) (by omega)
  refine Ao<|Ab<|Ac<|Bh<|Ac<|Aa rfl<|Ak (.indexS Dd rfl rfl (by omega) (hL.now.is (i:=0) (by simp only[Aj,Al,Am];omega)))<|Ak (.load1 sh3 rfl (hL.now.one (enc:=i6) (i:=i) hx))<|Ah rfl<|Ae<|Ab<|Aa rfl<|Af rfl<|Af rfl<|AAs Tryz.underlying343 Tryz.underlying3 rfl rfl rfl hb rfl (fun w3 z3 hb a3=>?_);have G:=G.trans a3;have hL:=hL.updD a3 hMb;refine Ae<|Ab<|Aa rfl<|Ak (.as (.bin rfl rfl rfl) (Cs (y:=((i+1:Nat):Int)) (by omega) (by omega)))<|Af rfl ?_
  exact Ae (fun a ka=>⟨i+1,⟨by omega,AED hx▸hb,hL,G⟩,by omega,ka.keep (Bf (by repeat (first|exact trivial|refine And.intro rfl ?_)))⟩)
 ·
  obtain rfl:i=l.length:=(by omega)
  rw[List.take_length] at hb
  refine Co rfl ?_
  refine fun a ka=>⟨ka.defers,_,Dg (rs:=[]) (vs:=[]) ka rfl trivial,?_⟩
  exact⟨hb,G⟩
def Pj(f:Int→Option Value)(x:RcP):Bool:=match f x.no with|some (.bool b)=>b|_=>false
theorem ABW(bp b:Nat)(f:Int→Option Value)(hf:∀i v,f i=some v→v=.bool true)(x:RcP)(w:World)(hp:Has w bp [.map (some b)] 343)(hb:HasM w b .i64 f):
  FC Tryz.prog 267 [x.val,.pointer (some ⟨bp,0,none⟩)] w (Val (.bool (Pj f x)) w):=by
 refine As Tryz.func267 rfl Tryz.ntmps267 rfl ?_
 have S:=Ax w
 refine Ac<|Aa rfl<|Bu rfl rfl rfl (fun g d e j a c=>?_)
 have np__2:=hp.ne e
 have S:=S.trans c;have hp:=hp.sub c;have hb:=hb.sub c
 have a:Has d g (x.cells) _:=a
 refine Ah rfl<|Ae<|Ab<|Ac<|Aa rfl<|Ba Ya rfl hp rfl<|Av Hy rfl<|Ba sh3 rfl a rfl<|Ak (.as (v':=.bool (Pj f x)) (.lookup Tryz.underlying343 Tryz.underlying3 ze4 rfl rfl hb) (by unfold Pj;cases h:f x.no with|none=>rfl|some v=>rw[hf _ _ h];rfl))<|Ah rfl<|Ae<|Ab<|Bb 3 rfl rfl rfl ?_
 exact⟨rfl,S⟩
theorem AG3(bf bp b:Nat)(f:Int→Option Value)(hf:∀i v,f i=some v→v=.bool true)(x:RcP)(w:World)(hg:Has w bf [.func (.func 267) #[] #[.pointer (some ⟨bp,0,none⟩)]] 210)(hp:Has w bp [.map (some b)] 343)(hb:HasM w b .i64 f):
  FC Tryz.prog 270 [x.val,.pointer (some ⟨bf,0,none⟩)] w (Val (.bool (!Pj f x)) w):=by
 refine As Tryz.func270 rfl Tryz.ntmps270 rfl ?_
 have S:=Ax w
 refine Ac<|Aa rfl<|Bu rfl rfl rfl (fun g d e h a c=>?_)
 have np__2:=hp.ne e
 have S:=S.trans c;have hp:=hp.sub c;have hb:=hb.sub c;have hg:=hg.sub c
 have a:Has d g (x.cells) _:=a
 refine Ah rfl<|Ae<|Ab<|Ac<|Aa rfl<|Ba AFM rfl hg rfl<|Ak (.loadR (x.cells) Fs rfl a.row rfl)<|Dl rfl rfl (us:=[]) (cs:=[.pointer (some ⟨bp,0,none⟩)]) AIu (ABW bp b f hf x d hp hb) rfl rfl ?_;rintro _ w1 ⟨rfl,s2⟩;have S:=S.trans s2;refine Ak (.not rfl)<|Ah rfl<|Ae<|Ab<|Bb 3 rfl rfl rfl ?_
 exact⟨rfl,S⟩
theorem AG2(b:Nat)(l:List Int)(a:Option Addr)(n c:Nat)(hn:n=l.length)(M:Nat→Prop)(x:Int)(w:World)(hb:Has w b [.slice a n c] 24)(hL:Ft M (fun u=>Sl u a 1 (l.map fun x=>[i6 x])) w)(hlen:l.length≤1000):
  FC Tryz.prog 273 [.int .i64 x,.pointer (some ⟨b,0,none⟩)] w (Val (.bool (decide (x∈l))) w):=by
 refine As Tryz.func273 rfl Tryz.ntmps273 rfl ?_
 have S:=Ax w
 refine Ac<|Aa rfl<|Ah rfl<|Ae<|Ab<|Ac<|Aa rfl<|Ba El rfl hb rfl<|Af rfl<|Az rfl AIq (Tx l a c n hn x w hL.now (by omega)) ?_;rintro _ w1 ⟨rfl,s2⟩;have S:=S.trans s2;refine Ah rfl<|Ae<|Ab<|Bb 3 rfl rfl rfl ?_
 exact⟨rfl,S⟩
def Dn(l:List RcP):List Int:=l.flatMap fun x=>rtL x.rt
theorem Qh(l:List RcP):(Dn l).length=4*l.length:=by
 induction l with
 |nil=>rfl
 |cons x l ih=>unfold Dn at *;rw[List.flatMap_cons,Ag,ih,Al];simp[rtL];omega
theorem ABu{l:List RcP}{i:Nat}{x:RcP}(h:l[i]?=some x):Dn (l.take (i+1))=Dn (l.take i)++rtL x.rt:=by
 unfold Dn
 rw[List.take_add_one,h,List.flatMap_append]
 simp
theorem Yp(R:Rt):Kd [R]=rtL R:=by simp[Kd]
theorem ADo(l:List RcP)(a:Option Addr)(c m:Nat)(hm:m=l.length)(hb:l.length≤100)(w:World)(hl:Sl w a 7 (l.map RcP.cells)):
  FC Tryz.prog 271 [.slice a m c] w (fun u w'=>∃a' c',u=.slice a' ((Dn l).map fun x=>[u6 x]).length c'∧Ows w.heap.size w' 31 1 (.slice a' ((Dn l).map fun x=>[u6 x]).length c') ((Dn l).map fun x=>[u6 x])∧Sub w w'):=by
 subst hm
 refine As Tryz.func271 rfl Tryz.ntmps271 rfl ?_
 have S:=Ax w
 refine Ac<|Aa rfl<|Ah rfl<|Ae<|Ab<|Ac<|Aa rfl<|Ah rfl<|Ae<|Ab<|Ac<|Ac<|Aa rfl<|Af rfl<|Cm Fm rfl<|Af rfl ?_;refine Ae<|Ab<|Bh<|Cw (α:=Nat × Option Addr × Nat × Nat) (fun x=>[(3,.slice x.2.1 x.2.2.1 x.2.2.2),(6,.slice a l.length c),(7,.int .i64 (l.length:Int)),(8,.int .i64 (x.1:Int))]) (fun x w1=>x.1≤l.length∧Ows w.heap.size w1 31 1 (.slice x.2.1 x.2.2.1 x.2.2.2) ((Dn (l.take x.1)).map fun x=>[u6 x])∧Sub w w1) (fun x=>l.length-x.1) (0,none,0,0) (Bf (by repeat (first|exact trivial|refine And.intro rfl ?_))) (⟨Nat.zero_le _,Ows.nil _ _ _ _,S⟩) (fun x w1 hJ=>?_)
 obtain⟨i,ao,mo,co⟩:=x;obtain⟨hi,o,S⟩:=hJ;simp only[] at hi o;obtain rfl:=o.sl.2;have szB:=S.size;have hdl:=Qh (l.take i);rw[List.length_take] at hdl
 refine Ac<|Aa rfl<|Bc rfl rfl rfl<|Ae<|Ab<|Ac<|An rfl (fun h2=>?_) (fun h2=>?_)
 ·
  obtain⟨x,hx⟩:=Ce (l:=l) (i:=i) (by omega)
  have hnext:=ABu hx
  have hrl:(rtL x.rt).length=4:=rfl
  refine Ao<|Ab<|Ac<|Bh<|Ac<|Aa rfl<|Ak (.indexS Fm rfl rfl (by omega) (hl.is (i:=0) (by simp only[Aj,Al,Am];omega)))<|Ak (.loadR (x.cells) Fs rfl ((hl.sub S).rowAt (enc:=RcP.cells) (i:=i) hx) rfl)<|Ay Gx rfl rfl (fun G I A H b p=>?_);have q:=S.le A;have g:=o.neNew A;have S:=S.trans p;have o:=o.sub p;have szB:=Ad szB p.size;refine At Fs rfl rfl rfl b (fun w3 z3 b a3=>?_);have S:=S.upd a3 q;have o:=o.updD a3 g;have szB:=Ad szB a3.size
  have b:Has w3 G (x.cells) _:=b.now (by kernel_rfl)
  refine Ae<|Ab<|Aa rfl<|Af rfl<|Av Qc rfl<|Ak (.loadR (x.rt.cells) Nf rfl (Ee (pre:=[.int .i64 x.no]) (mid:=x.rt.cells) (post:=[.slice x.aa x.an x.ac,.slice x.ra x.rn x.rc]) b rfl) rfl)<|Bi AC2 _ AE7 rfl rfl rfl rfl rfl rfl rfl (fun t n F B d f=>?_);have S:=S.trans f;have o:=o.sub f;have szB:=Ad szB f.size;have b:=b.sub f;refine Az rfl AKj (AF9 [x.rt] (some ⟨t,0,none⟩) 1 1 rfl (by show 1≤1000;omega) n (Dr (cs:=x.rt.cells) d)) ?_;rintro _ w4 ⟨a16,c16,rfl,o16,s5⟩
  have l16:=o16.sl.1
  rw[Yp] at l16
  rw[Yp]
  have S:=S.trans s5;have o:=o.sub s5;have szB:=Ad szB s5.size;have b:=b.sub s5;have d:=d.sub s5;have z:=S.size
  have ltb_5_17:=b.lt
  have ltb_15_17:=d.lt
  refine De (base:=w.heap.size) (rows:=(Dn (l.take i)).map fun x=>[u6 x]) (news:=(rtL x.rt).map fun x=>[u6 x]) Kw Zw rfl rfl rfl rfl (.inl o) l16 (by(try simp only[Aj]);first|done|rfl) (by intro r hr;obtain⟨x,_,rfl⟩:=List.mem_map.1 hr;rfl) (by rw[List.all_eq_true];intro r hr;obtain⟨x,_,rfl⟩:=List.mem_map.1 hr;rfl) (by(try simp only[Aj,Am,Ag,Al]);omega) (by(try simp only[Aj,Am,Ag,Al]);omega) (by omega) rfl rfl (fun D C hc_17 j h ob_17=>?_)
  have o17:=j (.inl (by simp[rtL]))
  have S:=S.agrN h (fun k e=>Ad (by omega) e.2)
  have szB:=Ad szB h.size
  obtain⟨v,s,rfl,E⟩:=o17.form
  refine Ah rfl<|Ae<|Ab<|Aa rfl<|Ak (.as (.bin rfl rfl rfl) (Cs (y:=((i+1:Nat):Int)) (by omega) (by omega)))<|Af rfl ?_
  exact Ae (fun a ka=>⟨(i+1,v,_,s),⟨by omega,by show Ows _ _ _ _ _ ((Dn (l.take (i+1))).map fun x=>[u6 x]);rw[hnext,List.map_append];exact o17,S⟩,by omega,ka.keep (Bf (by repeat (first|exact trivial|refine And.intro rfl ?_)))⟩)
 ·
  obtain rfl:i=l.length:=(by omega)
  rw[List.take_length] at o
  refine Co rfl<|Ab<|Ac<|Aa rfl<|Af rfl<|Ah rfl<|Ae<|Ab<|Bb 2 rfl rfl rfl ?_
  exact⟨ao,co,by rw[List.take_length];rfl,o,S⟩
open Go Go.XL
theorem ADs(l:List RcP)(h0:0<l.length)(a:Option Addr)(c m:Nat)(hm:m=l.length)(w:World)(hl:Sl w a 7 (l.map RcP.cells))(hb:l.length≤10000):
  FC Tryz.prog 269 [.slice a m c] w (fun u w'=>Sub w w'∧∃g ex,u=.slice (some ⟨g,0,none⟩) l.length (l.length+List.length ex)∧w.heap.size≤g∧l.length+ex.length≤9223372036854775807∧(∀r∈ex,r.length=7)∧Has w' g (l.map RcP.cells++ex).flatten 77):=by
 refine FC.mono (AEw l a c m hm w hl hb) ?_
 rintro u w' ⟨a',c',rfl,o,s⟩
 obtain⟨g,ex,e1,e2,e3,e4,e5⟩:=o.whole.resolve_left (fun q=>by have:=congrArg List.length q.2;simp only[Aj,Am] at this;omega)
 rw[Aj] at e1 e5
 injection e1 with f1 f2 f3
 subst f1 f3
 exact⟨s,g,ex,rfl,e2,Ad e5 (by decide),e4,e3⟩
theorem Zn(A:Ar)(na fa:Option Addr)(nc fc:Nat)(hok:AOk A)(l:List Int)(m:Nat)(hm:m=l.length)(pa:Option Addr)(pc:Nat)(hl:l.length≤10000)(hli:∀x∈l,U64 x)(w:World)(hA:ArR w na fa A)(hP:Sl w pa 1 (l.map fun x=>[u6 x])):
  FC Tryz.prog 100 [arV na fa nc fc A,.slice pa m pc] w (fun v w'=>Sub w w'∧∃a c,v=.tuple #[.slice a ((Dc A l).map fun x=>[i6 x]).length c,.int .i64 0]∧Ows w.heap.size w' 3 1 (.slice a ((Dc A l).map fun x=>[i6 x]).length c) ((Dc A l).map fun x=>[i6 x])) :=
 FC.mono (Zo A na fa nc fc l m hm pa pc hl hli w hA hP) fun v w' ⟨s,h⟩=>⟨s,h.elim (fun h=>absurd hok h.1) fun⟨_,a,c,h1,_,_,h2⟩=>⟨a,c,h1,h2⟩⟩
theorem AHH(f:FuncId)(hf:calleeOK Tryz.prog f=true)(us cs:List Value)(w:World):
  FC Tryz.prog 272 [.slice none 0 0,.func (.func f) us.toArray cs.toArray] w (Val (.slice none 0 0) w):=by
 refine As Tryz.func272 rfl Tryz.ntmps272 rfl ?_
 have S:=Ax w
 refine Ac<|Aa rfl<|Ah rfl<|Ae<|Ab<|Ac<|Aa rfl<|Af rfl<|Af rfl<|Az rfl AFT ((show FC Tryz.prog _ _ _ (Val (.int .i64 (-1)) _) from AGB (fun _=>false) [] none 0 f hf us cs w (Sl.nil _ _ _) (by decide) (fun x hx=>by cases hx))) ?_;rintro _ w1 ⟨rfl,s2⟩;have S:=S.trans s2;refine Ah rfl<|Ae<|Ab<|Ac<|Ac<|Aa rfl<|Af rfl<|Bc rfl rfl rfl<|Ae<|Ab<|An rfl (fun h3=>?_) (fun h3=>?_)
 ·
  refine Ac<|Aa rfl<|Af rfl<|Ah rfl<|Ae<|Ab<|Bb 4 rfl rfl rfl ?_
  exact⟨rfl,S⟩
 ·
  exact absurd rfl h3
theorem AHG(p:Int→Bool)(l:List Int)(base:Nat)(a:Option Addr)(n c:Nat)(hn:n=l.length)(hll:l.length≤1000000)(f:FuncId)(hf:calleeOK Tryz.prog f=true)(us cs:List Value)(w:World)(o:Ows base w 3 1 (.slice a n c) (l.map iC))
  (hp:∀x∈l,∀w',Agr (fun k=>ob (.slice a n c)=some k) w w'→FC Tryz.prog f (us++[i6 x]++cs) w' (Val (.bool (p x)) w')) :
  FC Tryz.prog 272 [.slice a n c,.func (.func f) us.toArray cs.toArray] w (fun u w'=>(∃a' c',u=.slice a' (l.filter fun x => !p x).length c'∧Sl w' a' 1 ((l.filter fun x => !p x).map fun x=>[i6 x]))∧Agr (fun k=>ob (.slice a n c)=some k) w w'):=by
 rcases o.whole with⟨e1,e2⟩|⟨g,ex,e1,e2,e3,e4,e5⟩
 ·have hl:l=[]:=List.map_eq_nil_iff.1 e2
  subst hl
  simp only[Value.slice.injEq] at e1
  obtain⟨rfl,rfl,rfl⟩:=e1
  refine FC.mono (AHH f hf us cs w) fun u w' h=>⟨⟨none,0,h.1,Sl.nil _ _ _⟩,h.2.agr⟩
 ·rw[Aj] at e1 e5
  simp only[Value.slice.injEq] at e1
  obtain⟨rfl,rfl,rfl⟩:=e1
  refine FC.mono (AIQ p l g ex e4 (Ad e5 (by decide)) hll f hf us cs w e3 (fun x hx w' ag=>hp x hx w' (ag.mono fun k _ e=>by rw[e];rfl))) ?_
  rintro u w' ⟨rfl,⟨ex',h1,h2,h3⟩,ag⟩
  exact⟨⟨_,_,rfl,AFl h3⟩,ag.mono fun k _ e=>by rw[e];rfl⟩
def Er(n:Nat):List Int:=List.replicate n (-1)
def Qq(n:Nat)(no:Int):Int→Option Value:=fun i=>if i = -1 then none else Pe Fz (Pe (Er n) (Pe [no] fun _=>none)) i
theorem Sj{l:List Int}{f:Int→Option Value}(hf:∀i v,f i=some v→v=.bool true):∀i v,Pe l f i=some v→v=.bool true:=by
 intro i v h
 unfold Pe at h
 split at h
 ·cases h;rfl
 ·exact hf i v h
theorem Vy(n:Nat)(no:Int):∀i v,Qq n no i=some v→v=.bool true:=by
 intro i v h
 unfold Qq at h
 split at h
 ·cases h
 ·exact Sj (Sj (Sj (fun _ _ h=>by cases h))) i v h
theorem Qz(n:Nat)(no:Int)(x:RcP)(h:0≤x.no):Pj (Qq n no) x=decide (x.no=no):=by
 have h1:¬x.no∈Fz:=fun e=>by have:=List.eq_of_mem_replicate e;omega
 have h2:¬x.no∈Er n:=fun e=>by have:=List.eq_of_mem_replicate e;omega
 unfold Pj Qq
 rw[if_neg (by omega)]
 simp only[Pe,if_neg h1,if_neg h2]
 by_cases e:x.no=no
 ·rw[if_pos (by rw[e];simp),decide_eq_true e]
 ·rw[if_neg (by simpa using e),decide_eq_false e]
set_option maxRecDepth 10000 in
set_option maxHeartbeats 1000000 in
theorem AIB(n:Nat)(hn8:1≤n∧n≤8)(A:Ar)(na fa:Option Addr)(nc fc:Nat)(hnc:A.nodes.length≤nc)(hfc:A.free.length≤fc)(t:TbP)(p0 p1:VP)(hok:TbOk n A [p0,p1] (Er n))(M:Nat→Prop)(w:World)(hA:Ft M (fun u=>ArR u na fa A) w)(hT:TbR t [p0,p1] (Er n) w):
  FC Tryz.prog 228 [arV na fa nc fc A,.agg t.cells.toArray] w (fun u w'=>Sub w w'∧∃D nd fd ncd fcd ra rc C,u=.tuple #[arV nd fd ncd fcd D,.agg ({t with ra:=ra,rn:=1,rc:=rc}:TbP).cells.toArray,.int .i64 0]∧D.nodes.length≤ncd∧D.free.length≤fcd∧1≤rc∧Ft C (fun u=>ArR u nd fd D∧Sl u ra 7 ([p1.x].map RcP.cells)) w'∧Up M w C∧RowA D p1.v.rt p1.V∧D.nodes.length=A.nodes.length∧A.free.length≤D.free.length):=by
 have hr:=AEk n hn8 A na fa nc fc hnc hfc t [p0,p1] (Er n) hok
 have hT0:=hT
 have hv0:=hok.ver p0 (by simp)
 have hv1:=hok.ver p1 (by simp)
 have hinc:=hok.inc 0 p0 p1 rfl rfl
 have hx0:=hT.v p0 (by simp)
 have hx1:=hT.v p1 (by simp)
 have hn0:=hv0.1.no
 have hn1:=hv1.1.no
 unfold Hn at hn0 hn1
 have hAok:=hv1.2.ok
 have hpl:(Er n).length=n:=List.length_replicate
 obtain⟨ra,rn,rc,pa,pn,pc,sa,sn,sc⟩:=t
 obtain⟨hl,rfl,hrc,hp,rfl,hsn,rfl,hv⟩:=hT
 simp only[] at hr hl hrc hp hsn hv
 have hU0:∀x∈Dn [p0.x],U64 x:=fun x hx=>by
  rw[show Dn [p0.x]=rtL p0.v.rt from by rw[←hx0.2.1];simp[Dn]] at hx;exact AFN hv0.2.rok x hx
 have hU1:∀x∈Dn [p1.x],U64 x:=fun x hx=>by
  rw[show Dn [p1.x]=rtL p1.v.rt from by rw[←hx1.2.1];simp[Dn]] at hx;exact AFN hv1.2.rok x hx
 have hR1:Dn [p1.x]=rtL p1.v.rt:=by rw[←hx1.2.1];simp[Dn]
 have hgone:([p0.x,p1.x].filter fun x => !Pj (Qq n p1.x.no) x)=[p0.x]:=by
  rw[List.filter_cons,List.filter_cons,Qz n _ _ (by rw[hx0.1];exact hn0.1),Qz n _ _ (by rw[hx1.1];exact hn1.1),decide_eq_false (by rw[hx0.1,hx1.1];omega),decide_eq_true rfl];rfl
 have hstay:([p0.x,p1.x].filter fun x => !!Pj (Qq n p1.x.no) x)=[p1.x]:=by
  rw[List.filter_cons,List.filter_cons,Qz n _ _ (by rw[hx0.1];exact hn0.1),Qz n _ _ (by rw[hx1.1];exact hn1.1),decide_eq_false (by rw[hx0.1,hx1.1];omega),decide_eq_true rfl];rfl
 have hF1:Ft (· < w.heap.size) (fun u=>Sl u pa 1 ((Er n).map fun x=>[i6 x])) w:=Hm fun u s=>hp.sub s
 have hF2:Ft (· < w.heap.size) (fun u=>Sl u sa 1 (Fz.map fun x=>[i6 x])) w:=Hm fun u s=>hsn.sub s
 refine As Tryz.func228 rfl Tryz.ntmps228 rfl ?_
 have S:=Ax w
 refine Ac<|Aa rfl<|Bu rfl rfl rfl (fun b_2 w_2 e_2 z_2 hb_2 s_2=>?_);have ge_2:=S.le e_2;have d_hA_b_2:=hA.neNew e_2;have d_hF1_b_2:=hF1.neNew e_2;have d_hF2_b_2:=hF2.neNew e_2;have S:=S.trans s_2;have hA:=hA.sub s_2;have hF1:=hF1.sub s_2;have hF2:=hF2.sub s_2
 have hb_2:Has w_2 b_2 ([.slice na A.nodes.length nc,.slice fa A.free.length fc]) _:=hb_2
 refine Bu rfl rfl rfl (fun b_3 w_3 e_3 z_3 hb_3 s_3=>?_);have ge_3:=S.le e_3;have n_2__3:=hb_2.ne e_3;have d_hA_b_3:=hA.neNew e_3;have d_hF1_b_3:=hF1.neNew e_3;have d_hF2_b_3:=hF2.neNew e_3;have S:=S.trans s_3;have hA:=hA.sub s_3;have hF1:=hF1.sub s_3;have hF2:=hF2.sub s_3;have hb_2:=hb_2.sub s_3
 have hb_3:Has w_3 b_3 ([.slice ra 2 rc,.slice pa (Er n).length pc,.slice sa 8 sc]) _:=hb_3
 refine Ay Fy rfl rfl (fun b_4 w_4 e_4 z_4 hb_4 s_4=>?_);have ge_4:=S.le e_4;have n_2__4:=hb_2.ne e_4;have n_3__4:=hb_3.ne e_4;have d_hA_b_4:=hA.neNew e_4;have d_hF1_b_4:=hF1.neNew e_4;have d_hF2_b_4:=hF2.neNew e_4;have S:=S.trans s_4;have hA:=hA.sub s_4;have hF1:=hF1.sub s_4;have hF2:=hF2.sub s_4;have hb_2:=hb_2.sub s_4;have hb_3:=hb_3.sub s_4;refine Ay Kb rfl rfl (fun b_5 w_5 e_5 z_5 hb_5 s_5=>?_);have ge_5:=S.le e_5;have n_2__5:=hb_2.ne e_5;have n_3__5:=hb_3.ne e_5;have n_4__5:=hb_4.ne e_5;have d_hA_b_5:=hA.neNew e_5;have d_hF1_b_5:=hF1.neNew e_5;have d_hF2_b_5:=hF2.neNew e_5;have S:=S.trans s_5;have hA:=hA.sub s_5;have hF1:=hF1.sub s_5;have hF2:=hF2.sub s_5;have hb_2:=hb_2.sub s_5;have hb_3:=hb_3.sub s_5;have hb_4:=hb_4.sub s_5;refine Ah rfl<|Ae<|Ab<|Ac<|Ac<|Aa rfl<|Ak (.loadR ([.slice na A.nodes.length nc,.slice fa A.free.length fc]) Cb rfl hb_2.row rfl)<|Ak (.loadR ([.slice ra 2 rc,.slice pa (Er n).length pc,.slice sa 8 sc]) Ef rfl hb_3.row rfl)<|Az rfl ALN (hr w_5 hA.now (hT0.sub S)) ?_;rintro _ w1 ⟨rfl,s2⟩;have S:=S.trans s2;have hA:=hA.sub s2;have hF1:=hF1.sub s2;have hF2:=hF2.sub s2;have hb_2:=hb_2.sub s2;have hb_3:=hb_3.sub s2;have hb_4:=hb_4.sub s2;have hb_5:=hb_5.sub s2;refine Ak (.not rfl)<|Ae<|Ab<|Bw rfl<|Ao<|Ab<|Ac<|Aa rfl<|Xf .i64 rfl rfl (fun b_23 w_23 e_23 z_23 hb_23 s_23=>?_);have ge_23:=S.le e_23;have n_2__23:=hb_2.ne e_23;have n_3__23:=hb_3.ne e_23;have n_4__23:=hb_4.ne e_23;have n_5__23:=hb_5.ne e_23;have d_hA_b_23:=hA.neNew e_23;have d_hF1_b_23:=hF1.neNew e_23;have d_hF2_b_23:=hF2.neNew e_23;have S:=S.trans s_23;have hA:=hA.sub s_23;have hF1:=hF1.sub s_23;have hF2:=hF2.sub s_23;have hb_2:=hb_2.sub s_23;have hb_3:=hb_3.sub s_23;have hb_4:=hb_4.sub s_23;have hb_5:=hb_5.sub s_23;refine Ay AKt rfl rfl (fun b_7 w_7 e_7 z_7 hb_7 s_7=>?_);have ge_7:=S.le e_7;have n_2__7:=hb_2.ne e_7;have n_3__7:=hb_3.ne e_7;have n_4__7:=hb_4.ne e_7;have n_5__7:=hb_5.ne e_7;have n_23__7:=hb_23.ne e_7;have d_hA_b_7:=hA.neNew e_7;have d_hF1_b_7:=hF1.neNew e_7;have d_hF2_b_7:=hF2.neNew e_7;have S:=S.trans s_7;have hA:=hA.sub s_7;have hF1:=hF1.sub s_7;have hF2:=hF2.sub s_7;have hb_2:=hb_2.sub s_7;have hb_3:=hb_3.sub s_7;have hb_4:=hb_4.sub s_7;have hb_5:=hb_5.sub s_7;have hb_23:=hb_23.sub s_7;refine At Ya rfl rfl rfl hb_7 (fun w3 z3 hb_7 a3=>?_);have S:=S.upd a3 ge_7;have hA:=hA.updD a3 d_hA_b_7;have hF1:=hF1.updD a3 d_hF1_b_7;have hF2:=hF2.updD a3 d_hF2_b_7;have hb_2:=hb_2.upd a3 n_2__7;have hb_3:=hb_3.upd a3 n_3__7;have hb_4:=hb_4.upd a3 n_4__7;have hb_5:=hb_5.upd a3 n_5__7;have hb_23:=hb_23.upd a3 n_23__7;refine Ae<|Ab<|Ac<|Bs (fun k=>k=b_23) [11] w3.heap.size 12 rfl rfl mxo (fun w4 s5=>?_)
 have hNN:∀k,((k=b_23)∨w3.heap.size≤k)→w.heap.size≤k:=fun k e=>e.elim (fun e=>e▸ge_23) (fun e=>Ad S.size e)
 have ent_S:=S.size
 have hN0:∀k,w3.heap.size≤k→w.heap.size≤k:=fun k e=>Ad S.size e
 have ltD_hA:=fun k hk=>(hA.ge k hk).2
 have ltD_hF1:=fun k hk=>(hF1.ge k hk).2
 have ltD_hF2:=fun k hk=>(hF2.ge k hk).2
 have ltD_b_2:=hb_2.lt;have ltD_b_3:=hb_3.lt;have ltD_b_4:=hb_4.lt;have ltD_b_5:=hb_5.lt;have ltD_b_23:=hb_23.lt;have ltD_b_7:=hb_7.lt;have szD:=Nat.le_refl w3.heap.size;have S:=S.trans s5;have hA:=hA.sub s5;have hF1:=hF1.sub s5;have hF2:=hF2.sub s5;have hb_2:=hb_2.sub s5;have hb_3:=hb_3.sub s5;have hb_4:=hb_4.sub s5;have hb_5:=hb_5.sub s5;have hb_23:=hb_23.sub s5;have hb_7:=hb_7.sub s5;have szD:=Ad szD s5.size;refine Ck 0 rfl Ya rfl hb_7 (nE n_23__7.symm ltD_b_7) rfl<|Bl 1 rfl Gq rfl<|Ck 2 rfl Nd rfl hb_3 (nE n_3__23 ltD_b_3) rfl<|Bl 3 rfl Gq rfl<|Ck 4 rfl Nd rfl hb_3 (nE n_3__23 ltD_b_3) rfl<|Bg 5 rfl (fun _ _=>.len Fm rfl)<|Bg 6 rfl (fun _ _=>.as (.bin rfl rfl rfl) (Cs (y:=(1:Int)) (by rfl) (by omega)))<|Bg 7 rfl (fun _ _=>.indexS Fm rfl rfl (by omega) (hl.is (i:=0) (by simp only[Aj,Al,Am];omega)))<|Bg 8 rfl (fun _ _=>.fieldA Hy rfl)<|Bg 9 rfl (fun w' s'=>.load1 sh3 rfl ((hl.sub (S.agrN s' hNN)).rowAt (enc:=VP.cells) (i:=1) (x:=p1) rfl 0 _ rfl))<|Aq 10 rfl<|Bi Dd _ ze3 rfl rfl rfl rfl rfl rfl rfl (fun b_34 w_34 e_34 z_34 hb_34 s_34=>?_)
 have fr_b_34:w3.heap.size≤b_34:=by rw[e_34];exact szD
 have ge_34:=S.le e_34;have n_2__34:=hb_2.ne e_34;have n_3__34:=hb_3.ne e_34;have n_4__34:=hb_4.ne e_34;have n_5__34:=hb_5.ne e_34;have n_23__34:=hb_23.ne e_34;have n_7__34:=hb_7.ne e_34;have d_hA_b_34:=hA.neNew e_34;have d_hF1_b_34:=hF1.neNew e_34;have d_hF2_b_34:=hF2.neNew e_34;have S:=S.trans s_34;have hA:=hA.sub s_34;have hF1:=hF1.sub s_34;have hF2:=hF2.sub s_34;have hb_2:=hb_2.sub s_34;have hb_3:=hb_3.sub s_34;have hb_4:=hb_4.sub s_34;have hb_5:=hb_5.sub s_34;have hb_23:=hb_23.sub s_34;have hb_7:=hb_7.sub s_34;have szD:=Ad szD s_34.size;refine Be s_34.agr<|Aq 11 rfl<|Az rfl AFV (Vv b_23 [p1.x.no] (some ⟨b_34,0,none⟩) 1 1 rfl (fun _=>none) (· = b_34) w_34 hb_23 (hb_34.ft.imp fun u h=>Ik (enc:=i6) (l:=[p1.x.no]) h) (fun k hk e=>n_23__34 (e.symm.trans hk)) (by show 1≤1000;omega)) ?_;rintro _ w6 ⟨hb_23,a35⟩;have S:=S.upd a35 ge_23;have hA:=hA.updD a35 d_hA_b_23;have hF1:=hF1.updD a35 d_hF1_b_23;have hF2:=hF2.updD a35 d_hF2_b_23;have hb_2:=hb_2.upd a35 n_2__23;have hb_3:=hb_3.upd a35 n_3__23;have hb_4:=hb_4.upd a35 n_4__23;have hb_5:=hb_5.upd a35 n_5__23;have hb_7:=hb_7.upd a35 n_23__7.symm;have szD:=Ad szD a35.size;have hb_34:=hb_34.upd a35 n_23__34.symm;refine Cv rfl (a35.mono fun k _ e=>.inl e)<|Cp<|Ab<|Ac<|Aa rfl<|Ba Ya rfl hb_7 rfl<|Av Nq rfl<|Ba El rfl hb_3 rfl<|Az rfl AFV (Vv b_23 (Er n) pa pc _ rfl (Pe [p1.x.no] fun _=>none) _ w6 hb_23 hF1 d_hF1_b_23 (by omega)) ?_;rintro _ w8 ⟨hb_23,a39⟩;have S:=S.upd a39 ge_23;have hA:=hA.updD a39 d_hA_b_23;have hF1:=hF1.updD a39 d_hF1_b_23;have hF2:=hF2.updD a39 d_hF2_b_23;have hb_2:=hb_2.upd a39 n_2__23;have hb_3:=hb_3.upd a39 n_3__23;have hb_4:=hb_4.upd a39 n_4__23;have hb_5:=hb_5.upd a39 n_5__23;have hb_7:=hb_7.upd a39 n_23__7.symm;refine Ae<|Ab<|Ac<|Aa rfl<|Ba Ya rfl hb_7 rfl<|Av AAM rfl<|Ba El rfl hb_3 rfl<|Az rfl AFV (Vv b_23 Fz sa sc _ rfl (Pe (Er n) (Pe [p1.x.no] fun _=>none)) _ w8 hb_23 hF2 d_hF2_b_23 (by decide)) ?_;rintro _ w10 ⟨hb_23,a43⟩;have S:=S.upd a43 ge_23;have hA:=hA.updD a43 d_hA_b_23;have hF1:=hF1.updD a43 d_hF1_b_23;have hF2:=hF2.updD a43 d_hF2_b_23;have hb_2:=hb_2.upd a43 n_2__23;have hb_3:=hb_3.upd a43 n_3__23;have hb_4:=hb_4.upd a43 n_4__23;have hb_5:=hb_5.upd a43 n_5__23;have hb_7:=hb_7.upd a43 n_23__7.symm;refine Ae<|Ab<|Ac<|Aa rfl<|Ba Ya rfl hb_7 rfl<|ACw Tryz.underlying343 Tryz.underlying3 rfl rfl hb_23 rfl rfl (fun w12 z12 hb_23 a12=>?_);have S:=S.upd a12 ge_23;have hA:=hA.updD a12 d_hA_b_23;have hF1:=hF1.updD a12 d_hF1_b_23;have hF2:=hF2.updD a12 d_hF2_b_23;have hb_2:=hb_2.upd a12 n_2__23;have hb_3:=hb_3.upd a12 n_3__23;have hb_4:=hb_4.upd a12 n_4__23;have hb_5:=hb_5.upd a12 n_5__23;have hb_7:=hb_7.upd a12 n_23__7.symm;refine Ae<|Ab<|Ac<|Aa rfl<|Ak (.func (xs:=[]) (ys:=[_]) rfl rfl)<|Ay AKx rfl rfl (fun b_8 w_8 e_8 z_8 hb_8 s_8=>?_);have ge_8:=S.le e_8;have n_2__8:=hb_2.ne e_8;have n_3__8:=hb_3.ne e_8;have n_4__8:=hb_4.ne e_8;have n_5__8:=hb_5.ne e_8;have n_23__8:=hb_23.ne e_8;have n_7__8:=hb_7.ne e_8;have d_hA_b_8:=hA.neNew e_8;have d_hF1_b_8:=hF1.neNew e_8;have d_hF2_b_8:=hF2.neNew e_8;have S:=S.trans s_8;have hA:=hA.sub s_8;have hF1:=hF1.sub s_8;have hF2:=hF2.sub s_8;have hb_2:=hb_2.sub s_8;have hb_3:=hb_3.sub s_8;have hb_4:=hb_4.sub s_8;have hb_5:=hb_5.sub s_8;have hb_23:=hb_23.sub s_8;have hb_7:=hb_7.sub s_8;refine At AFM rfl rfl rfl hb_8 (fun w13 z13 hb_8 a13=>?_);have S:=S.upd a13 ge_8;have hA:=hA.updD a13 d_hA_b_8;have hF1:=hF1.updD a13 d_hF1_b_8;have hF2:=hF2.updD a13 d_hF2_b_8;have hb_2:=hb_2.upd a13 n_2__8;have hb_3:=hb_3.upd a13 n_3__8;have hb_4:=hb_4.upd a13 n_4__8;have hb_5:=hb_5.upd a13 n_5__8;have hb_23:=hb_23.upd a13 n_23__8
 have hb_7:=hb_7.upd a13 n_7__8
 have hb_8:Has w13 b_8 ([.func (.func 267) #[] #[.pointer (some ⟨b_7,0,none⟩)]]) _:=hb_8
 refine Ae<|Ab<|Ac<|Bs (fun k=>False) [4] w13.heap.size 6 rfl rfl mxo (fun w14 s15=>?_)
 have hNN:∀k,((False)∨w13.heap.size≤k)→w.heap.size≤k:=fun k e=>e.elim (fun e=>e.elim) (fun e=>Ad S.size e)
 have ent_S:=S.size
 have hN0:∀k,w13.heap.size≤k→w.heap.size≤k:=fun k e=>Ad S.size e
 have ltD_hA:=fun k hk=>(hA.ge k hk).2
 have ltD_hF1:=fun k hk=>(hF1.ge k hk).2
 have ltD_hF2:=fun k hk=>(hF2.ge k hk).2
 have ltD_b_2:=hb_2.lt;have ltD_b_3:=hb_3.lt;have ltD_b_4:=hb_4.lt;have ltD_b_5:=hb_5.lt;have ltD_b_23:=hb_23.lt;have ltD_b_7:=hb_7.lt;have ltD_b_8:=hb_8.lt;have szD:=Nat.le_refl w13.heap.size;have S:=S.trans s15;have hA:=hA.sub s15;have hF1:=hF1.sub s15;have hF2:=hF2.sub s15;have hb_2:=hb_2.sub s15;have hb_3:=hb_3.sub s15;have hb_4:=hb_4.sub s15;have hb_5:=hb_5.sub s15;have hb_23:=hb_23.sub s15;have hb_7:=hb_7.sub s15;have hb_8:=hb_8.sub s15;have szD:=Ad szD s15.size;refine Bl 0 rfl Gq rfl<|Ck 1 rfl Nd rfl hb_3 (nE id ltD_b_3) rfl<|Ck 3 rfl AFM rfl hb_8 (nE id ltD_b_8) rfl<|Aq 2 rfl<|Az rfl AIs (ADs [p0.x,p1.x] (by simp) ra rc _ rfl w14 (show Sl _ ra 7 ([p0.x,p1.x].map RcP.cells) from hl.sub S) (by show 2≤10000;omega)) ?_;rintro _ w16 ⟨s17,g1,ex1,rfl,fr_g1,cap1,rx1,hg1⟩
 have ng1_b_2:g1≠b_2:=by have:=hb_2.lt;omega
 have ng1_b_3:g1≠b_3:=by have:=hb_3.lt;omega
 have ng1_b_4:g1≠b_4:=by have:=hb_4.lt;omega
 have ng1_b_5:g1≠b_5:=by have:=hb_5.lt;omega
 have ng1_b_7:g1≠b_7:=by have:=hb_7.lt;omega
 have ng1_b_8:g1≠b_8:=by have:=hb_8.lt;omega
 have ng1_b_23:g1≠b_23:=by have:=hb_23.lt;omega
 have d_hA_g1:∀k,M k→k≠g1:=fun k hk e=>by have:=(hA.ge k hk).2;omega
 have d_hF1_g1:∀k,k<w.heap.size→k≠g1:=fun k hk e=>by have:=(hF1.ge k hk).2;omega
 have d_hF2_g1:∀k,k<w.heap.size→k≠g1:=fun k hk e=>by have:=(hF2.ge k hk).2;omega
 have fr_g1:=Ad szD fr_g1
 have ge1:=hN0 _ fr_g1
 have hb_23:HasM _ b_23 .i64 (Qq n p1.x.no):=hb_23
 have S:=S.trans s17;have hA:=hA.sub s17;have hF1:=hF1.sub s17;have hF2:=hF2.sub s17;have hb_2:=hb_2.sub s17;have hb_3:=hb_3.sub s17;have hb_4:=hb_4.sub s17;have hb_5:=hb_5.sub s17;have hb_23:=hb_23.sub s17;have hb_7:=hb_7.sub s17;have hb_8:=hb_8.sub s17;have szD:=Ad szD s17.size;refine Be s17.agr<|Aq 4 rfl<|Az rfl AIt ((by have q:=ABZ (fun x=>Pj (Qq n p1.x.no) x) [p0.x,p1.x] g1 ex1 rx1 cap1 (by show 2≤1000000;omega) 267 AIu [] [.pointer (some ⟨b_7,0,none⟩)] w16 hg1 (fun x hx w' ag=>ABW b_7 b_23 _ (Vy n _) x w' (hb_7.upd ag ng1_b_7.symm) (hb_23.upd ag ng1_b_23.symm));rw[hgone] at q;exact q)) ?_;rintro _ w18 ⟨rfl,⟨ex2,rx2,le2,hg1⟩,ag50⟩;have S:=S.upd ag50 ge1;have hA:=hA.updD ag50 d_hA_g1;have hF1:=hF1.updD ag50 d_hF1_g1;have hF2:=hF2.updD ag50 d_hF2_g1;have hb_2:=hb_2.upd ag50 ng1_b_2.symm;have hb_3:=hb_3.upd ag50 ng1_b_3.symm;have hb_4:=hb_4.upd ag50 ng1_b_4.symm;have hb_5:=hb_5.upd ag50 ng1_b_5.symm;have hb_23:=hb_23.upd ag50 ng1_b_23.symm;have hb_7:=hb_7.upd ag50 ng1_b_7.symm;have hb_8:=hb_8.upd ag50 ng1_b_8.symm;have szD:=Ad szD ag50.size;refine Cv rfl (ag50.mono fun k _ e=>.inr (by rw[e];exact fr_g1))<|Cu 5 rfl rfl<|Cp<|Ab<|Ac<|Aa rfl<|Av Gq rfl<|Ba Nd rfl hb_3 rfl<|Az rfl AIs (ADs [p0.x,p1.x] (by simp) ra rc _ rfl w18 (show Sl _ ra 7 ([p0.x,p1.x].map RcP.cells) from hl.sub S) (by show 2≤10000;omega)) ?_;rintro _ w20 ⟨s21,g2,ex3,rfl,fr_g2,cap3,rx3,hg2⟩
 have ng2_b_2:g2≠b_2:=by have:=hb_2.lt;omega
 have ng2_b_3:g2≠b_3:=by have:=hb_3.lt;omega
 have ng2_b_4:g2≠b_4:=by have:=hb_4.lt;omega
 have ng2_b_5:g2≠b_5:=by have:=hb_5.lt;omega
 have ng2_b_7:g2≠b_7:=by have:=hb_7.lt;omega
 have ng2_b_8:g2≠b_8:=by have:=hb_8.lt;omega
 have ng2_b_23:g2≠b_23:=by have:=hb_23.lt;omega
 have ng2_g1:g2≠g1:=by have:=hg1.lt;omega
 have d_hA_g2:∀k,M k→k≠g2:=fun k hk e=>by have:=(hA.ge k hk).2;omega
 have d_hF1_g2:∀k,k<w.heap.size→k≠g2:=fun k hk e=>by have:=(hF1.ge k hk).2;omega
 have d_hF2_g2:∀k,k<w.heap.size→k≠g2:=fun k hk e=>by have:=(hF2.ge k hk).2;omega
 have ge2:=Ad S.size fr_g2
 have S:=S.trans s21;have hA:=hA.sub s21;have hF1:=hF1.sub s21;have hF2:=hF2.sub s21;have hb_2:=hb_2.sub s21;have hb_3:=hb_3.sub s21;have hb_4:=hb_4.sub s21;have hb_5:=hb_5.sub s21;have hb_23:=hb_23.sub s21;have hb_7:=hb_7.sub s21;have hb_8:=hb_8.sub s21;have hg1:=hg1.sub s21;refine Ak (.func (xs:=[]) (ys:=[_]) rfl rfl)<|Az rfl AIt ((by have q:=ABZ (fun x => !Pj (Qq n p1.x.no) x) [p0.x,p1.x] g2 ex3 rx3 cap3 (by show 2≤1000000;omega) 270 ALM [] [.pointer (some ⟨b_8,0,none⟩)] w20 hg2 (fun x hx w' ag=>AG3 b_8 b_7 b_23 _ (Vy n _) x w' (hb_8.upd ag ng2_b_8.symm) (hb_7.upd ag ng2_b_7.symm) (hb_23.upd ag ng2_b_23.symm));rw[hstay] at q;exact q)) ?_;rintro _ w22 ⟨rfl,⟨ex4,rx4,le4,hg2⟩,ag55⟩;have S:=S.upd ag55 ge2;have hA:=hA.updD ag55 d_hA_g2;have hF1:=hF1.updD ag55 d_hF1_g2;have hF2:=hF2.updD ag55 d_hF2_g2;have hb_2:=hb_2.upd ag55 ng2_b_2.symm;have hb_3:=hb_3.upd ag55 ng2_b_3.symm;have hb_4:=hb_4.upd ag55 ng2_b_4.symm;have hb_5:=hb_5.upd ag55 ng2_b_5.symm;have hb_23:=hb_23.upd ag55 ng2_b_23.symm;have hb_7:=hb_7.upd ag55 ng2_b_7.symm;have hb_8:=hb_8.upd ag55 ng2_b_8.symm;have hg1:=hg1.upd ag55 ng2_g1.symm;refine Ah rfl<|Ae<|Ab<|Ac<|Bs (fun k=>False) [] w22.heap.size 9 rfl rfl mxo (fun w24 s25=>?_)
 have hNN:∀k,((False)∨w22.heap.size≤k)→w.heap.size≤k:=fun k e=>e.elim (fun e=>e.elim) (fun e=>Ad S.size e)
 have ent_S:=S.size
 have hN0:∀k,w22.heap.size≤k→w.heap.size≤k:=fun k e=>Ad S.size e
 have ltD_hA:=fun k hk=>(hA.ge k hk).2
 have ltD_hF1:=fun k hk=>(hF1.ge k hk).2
 have ltD_hF2:=fun k hk=>(hF2.ge k hk).2
 have ltD_b_2:=hb_2.lt;have ltD_b_3:=hb_3.lt;have ltD_b_4:=hb_4.lt;have ltD_b_5:=hb_5.lt;have ltD_b_23:=hb_23.lt;have ltD_b_7:=hb_7.lt;have ltD_b_8:=hb_8.lt;have ltD_g1:=hg1.lt;have ltD_g2:=hg2.lt;have szD:=Nat.le_refl w22.heap.size;have S:=S.trans s25;have hA:=hA.sub s25;have hF1:=hF1.sub s25;have hF2:=hF2.sub s25;have hb_2:=hb_2.sub s25;have hb_3:=hb_3.sub s25;have hb_4:=hb_4.sub s25;have hb_5:=hb_5.sub s25;have hb_23:=hb_23.sub s25;have hb_7:=hb_7.sub s25;have hb_8:=hb_8.sub s25;have hg1:=hg1.sub s25;have hg2:=hg2.sub s25;have szD:=Ad szD s25.size;refine Bg 0 rfl (fun w' s'=>.loadR ([.slice na A.nodes.length nc,.slice fa A.free.length fc]) Cb rfl (hb_2.step s' (nE id ltD_b_2)).row rfl)<|Bp 1 rfl rfl<|Aq 2 rfl<|Az rfl AIr (ADo [p0.x] _ _ _ rfl (by show 1≤100;omega) w24 (Ue hg1)) ?_;rintro _ w26 ⟨a59,c59,rfl,o59,s27⟩
 have l59:=o59.sl.1
 have S:=S.trans s27;have hA:=hA.sub s27;have hF1:=hF1.sub s27;have hF2:=hF2.sub s27;have hb_2:=hb_2.sub s27;have hb_3:=hb_3.sub s27;have hb_4:=hb_4.sub s27;have hb_5:=hb_5.sub s27;have hb_23:=hb_23.sub s27;have hb_7:=hb_7.sub s27;have hb_8:=hb_8.sub s27;have hg1:=hg1.sub s27;have hg2:=hg2.sub s27;have szD:=Ad szD s27.size;refine Be s27.agr<|Aq 3 rfl<|Az rfl ADC (Zn A na fa nc fc hAok (Dn [p0.x]) _ (by rw[Aj]) a59 c59 (by rw[Qh];show 4*1≤10000;omega) hU0 w26 hA.now l59) ?_;rintro _ w28 ⟨s29,a60,c60,rfl,o60⟩
 have d60_b_2:=Zy o60 hb_2.lt
 have d60_b_3:=Zy o60 hb_3.lt
 have d60_b_4:=Zy o60 hb_4.lt
 have d60_b_5:=Zy o60 hb_5.lt
 have d60_b_7:=Zy o60 hb_7.lt
 have d60_b_8:=Zy o60 hb_8.lt
 have d60_b_23:=Zy o60 hb_23.lt
 have d60_g1:=Zy o60 hg1.lt
 have d60_g2:=Zy o60 hg2.lt
 have d60_hA:=fun k (hk:_) (h2:ob (.slice a60 _ c60)=some k)=>(by have h3:=(o60.ge k h2).1;have h4:=(hA.ge k hk).2;omega:False)
 have d60_hF1:=fun k (hk:_) (h2:ob (.slice a60 _ c60)=some k)=>(by have h3:=(o60.ge k h2).1;have h4:=(hF1.ge k hk).2;omega:False)
 have d60_hF2:=fun k (hk:_) (h2:ob (.slice a60 _ c60)=some k)=>(by have h3:=(o60.ge k h2).1;have h4:=(hF2.ge k hk).2;omega:False)
 have o60:=o60.low S.size
 have S:=S.trans s29;have hA:=hA.sub s29;have hF1:=hF1.sub s29;have hF2:=hF2.sub s29;have hb_2:=hb_2.sub s29;have hb_3:=hb_3.sub s29;have hb_4:=hb_4.sub s29;have hb_5:=hb_5.sub s29;have hb_23:=hb_23.sub s29;have hb_7:=hb_7.sub s29;have hb_8:=hb_8.sub s29;have hg1:=hg1.sub s29;have hg2:=hg2.sub s29;have szD:=Ad szD s29.size;refine Be s29.agr<|Bp 4 rfl rfl<|Fv 5 rfl rfl rfl<|Fv 6 rfl rfl rfl<|Cu 7 rfl rfl<|Cu 8 rfl rfl<|Cp<|Ab<|Ac<|Bs (fun k=>False) [8] w28.heap.size 10 rfl rfl mxo (fun w30 s31=>?_)
 have hNN:∀k,((False)∨w28.heap.size≤k)→w.heap.size≤k:=fun k e=>e.elim (fun e=>e.elim) (fun e=>Ad S.size e)
 have ent_S:=S.size
 have hN0:∀k,w28.heap.size≤k→w.heap.size≤k:=fun k e=>Ad S.size e
 have ltD_hA:=fun k hk=>(hA.ge k hk).2
 have ltD_hF1:=fun k hk=>(hF1.ge k hk).2
 have ltD_hF2:=fun k hk=>(hF2.ge k hk).2
 have ltD_b_2:=hb_2.lt;have ltD_b_3:=hb_3.lt;have ltD_b_4:=hb_4.lt;have ltD_b_5:=hb_5.lt;have ltD_b_23:=hb_23.lt;have ltD_b_7:=hb_7.lt;have ltD_b_8:=hb_8.lt;have ltD_g1:=hg1.lt;have ltD_g2:=hg2.lt
 have ltD_o60:=fun k hk=>(o60.ge k hk).2
 have szD:=Nat.le_refl w28.heap.size;have S:=S.trans s31;have hA:=hA.sub s31;have hF1:=hF1.sub s31;have hF2:=hF2.sub s31;have hb_2:=hb_2.sub s31;have hb_3:=hb_3.sub s31;have hb_4:=hb_4.sub s31;have hb_5:=hb_5.sub s31;have hb_23:=hb_23.sub s31;have hb_7:=hb_7.sub s31;have hb_8:=hb_8.sub s31;have hg1:=hg1.sub s31;have hg2:=hg2.sub s31;have o60:=o60.sub s31;have szD:=Ad szD s31.size;refine Bg 0 rfl (fun w' s'=>.loadR ([.slice na A.nodes.length nc,.slice fa A.free.length fc]) Cb rfl (hb_2.step s' (nE id ltD_b_2)).row rfl)<|Bp 1 rfl rfl<|Qf 8 (fun _=>False) 3 [4,5,6,9] [⟨7,8,24,[.slice none 0 0],fun u=>(Gy (u) 0).cells.toList⟩] (ACA [(3,[2]),(4,[3]),(5,[4,3]),(6,[4,3]),(8,[5,7,3]),(9,[6,3])]) (AB9 [(5,0),(6,1),(9,1)]) (fun u C I=>∃a c,u=.tuple #[.slice a ((Dc A (Dn [p1.x])).map fun x=>[i6 x]).length c,.int .i64 0]∧I=(fun u=>Sl u a 1 ((Dc A (Dn [p1.x])).map fun x=>[i6 x]))) [2] (fun _=>fun v w=>∃a' c',v=.slice a' ((Dn [p1.x]).map fun x=>[u6 x]).length c'∧Sl w a' 1 ((Dn [p1.x]).map fun x=>[u6 x])) (by kernel_rfl) (by kernel_rfl) rfl rfl (by kernel_rfl) (by decide) szD (fun _ h=>h.elim) (by decide) (by decide) (fun _=>rfl) (fun _ v w1 w2 h s=>let ⟨a',c',h1,h2⟩:=h;⟨a',c',h1,h2.sub s⟩) (fun i0 hi0 o0 ho0 vals wc sc hp0=>?_) (by decide) (by decide) (fun o0 ho0 vals wc sc hp0=>?_) (fun i0 hi0 o0 ho0 vals wc hd0 hq0=>?_) (fun j0 hj0 o0 ho0 F0 wc=>?_) (fun j0 hj0 o0 ho0 vals wc b0 hb0 hd0 hq0 hh0=>?_) (fun vals wg C_ I_ sg hQ hF_ hup_ hps_ hjs_ hdis_=>?_)
 ·obtain rfl:i0=2:=by simpa using hi0
  cases ho0
  refine Gd rfl AIr (ADo [p1.x] _ _ _ rfl (by show 1≤100;omega) wc (Ue (hg2.sub sc))) rfl ?_
  rintro u_ w_ ⟨a',c',rfl,o,s2⟩
  exact⟨s2,a',c',rfl,o.sl.1⟩
 ·cases ho0
  obtain⟨aw,cw,ep,lw⟩:(fun v w=>∃a' c',v=.slice a' ((Dn [p1.x]).map fun x=>[u6 x]).length c'∧Sl w a' 1 ((Dn [p1.x]).map fun x=>[u6 x])) (vals 2) wc:=hp0 2 (by decide)
  show OpRun _ _ _ ((66,vals 2)::_) _ _
  rw[ep]
  refine Gd rfl ADC (Zn A na fa nc fc hAok (Dn [p1.x]) _ (by rw[Aj]) aw cw (by rw[Qh];show 4*1≤10000;omega) hU1 wc (hA.sub sc).now lw) rfl ?_
  rintro u_ w_ ⟨s2,a,c,rfl,o⟩
  exact⟨s2,_,_,⟨a,c,rfl,rfl⟩,o.ft.imp (fun u h=>h.sl.1),fun k hk=>.inr (o.ge k hk).1⟩
 ·obtain⟨_,_,hq0⟩:=hq0
  obtain⟨aL,cL,hu,rfl⟩:=hq0
  simp only[List.mem_cons,List.not_mem_nil,or_false] at hi0
  rcases hi0 with rfl|rfl|rfl|rfl<;>cases ho0
  ·show OpRun _ _ _ ((67,vals 3)::_) _ _
   rw[hu]
   exact Dz (.move rfl) rfl ⟨rfl,rfl⟩
  ·have e0:=hd0 4 (by decide);show OpRun _ _ _ ((63,vals 4)::_) _ _
   rw[e0,hu]
   exact Dz (.extract rfl rfl) rfl ⟨rfl,rfl⟩
  ·have e0:=hd0 4 (by decide);show OpRun _ _ _ ((63,vals 4)::_) _ _
   rw[e0,hu]
   exact Dz (.extract rfl rfl) rfl ⟨rfl,rfl⟩
  ·have e0:=hd0 6 (by decide);show OpRun _ _ _ ((69,vals 6)::_) _ _
   rw[e0,hu]
   exact Dz (.assign rfl) rfl ⟨rfl,rfl⟩
 ·simp only[List.mem_cons,List.not_mem_nil,or_false] at hj0
  rcases hj0 with rfl<;>cases ho0
  ·exact Fi AJT rfl
 ·obtain⟨_,_,hq0⟩:=hq0
  obtain⟨aL,cL,hu,rfl⟩:=hq0
  simp only[List.mem_cons,List.not_mem_nil,or_false] at hj0
  rcases hj0 with rfl<;>cases ho0
  ·have e0:=hd0 5 (by decide) (by decide);have hb0:vals 7=.pointer (some ⟨b0,0,none⟩):=hb0
   show OpRun _ _ _ ((68,vals 5)::(13,vals 7)::(67,vals 3)::_) _ _
   rw[e0,hb0,hu]
   exact Fh El rfl rfl rfl hh0 rfl rfl
 obtain⟨aL,cL,hu,rfl⟩:=hQ
 have p_4:vals 4=_:=hps_ 4 (by decide)
 have p_5:vals 5=_:=hps_ 5 (by decide)
 have p_6:vals 6=_:=hps_ 6 (by decide)
 have p_9:vals 9=_:=hps_ 9 (by decide)
 obtain⟨b_13,v_13,fr_b_13,hb_13,nc_13⟩:∃b,vals 7=.pointer (some ⟨b,0,none⟩)∧w30.heap.size≤b∧Has wg b ((Gy (vals 3) 0)).cells.toList 24∧¬C_ b:=hjs_ _ (.head _)
 rw[hu] at hb_13
 show RD _ _ _ _ _ _ _ _ ((67,vals 3)::(63,vals 4)::(68,vals 5)::(69,vals 6)::(14,vals 9)::(13,vals 7)::(66,vals 2)::_) _ _
 rw[p_4,p_5,p_6,p_9,v_13,hu]
 have fr_b_13:=Ad szD fr_b_13;have ge_13:=hN0 _ fr_b_13;have d_hL_b_2:=Di hup_ (fun _ (h:False)=>h.elim) ltD_b_2;have d_hL_b_3:=Di hup_ (fun _ (h:False)=>h.elim) ltD_b_3;have d_hL_b_4:=Di hup_ (fun _ (h:False)=>h.elim) ltD_b_4;have d_hL_b_5:=Di hup_ (fun _ (h:False)=>h.elim) ltD_b_5;have d_hL_b_23:=Di hup_ (fun _ (h:False)=>h.elim) ltD_b_23;have d_hL_b_7:=Di hup_ (fun _ (h:False)=>h.elim) ltD_b_7;have d_hL_b_8:=Di hup_ (fun _ (h:False)=>h.elim) ltD_b_8;have d_hL_g1:=Di hup_ (fun _ (h:False)=>h.elim) ltD_g1;have d_hL_g2:=Di hup_ (fun _ (h:False)=>h.elim) ltD_g2
 have hL:=hF_
 have d_hL_b_13:∀k,C_ k→k≠b_13:=fun k hk e=>nc_13 (e▸hk)
 have d_hA_b_13:=fun k hk (e:k=b_13)=>(by have:=ltD_hA k hk;omega:False)
 have d_hF1_b_13:=fun k hk (e:k=b_13)=>(by have:=ltD_hF1 k hk;omega:False)
 have d_hF2_b_13:=fun k hk (e:k=b_13)=>(by have:=ltD_hF2 k hk;omega:False)
 have nb_13_b_2:b_13≠b_2:=by omega
 have nb_13_b_3:b_13≠b_3:=by omega
 have nb_13_b_4:b_13≠b_4:=by omega
 have nb_13_b_5:b_13≠b_5:=by omega
 have nb_13_b_23:b_13≠b_23:=by omega
 have nb_13_b_7:b_13≠b_7:=by omega
 have nb_13_b_8:b_13≠b_8:=by omega
 have nb_13_g1:b_13≠g1:=by omega
 have nb_13_g2:b_13≠g2:=by omega
 have d_o60_b_13:=fun k hk (e:k=b_13)=>(by have:=ltD_o60 k hk;omega:False)
 have S:=S.trans sg;have hA:=hA.sub sg;have hF1:=hF1.sub sg;have hF2:=hF2.sub sg;have hb_2:=hb_2.sub sg;have hb_3:=hb_3.sub sg;have hb_4:=hb_4.sub sg;have hb_5:=hb_5.sub sg;have hb_23:=hb_23.sub sg;have hb_7:=hb_7.sub sg;have hb_8:=hb_8.sub sg;have hg1:=hg1.sub sg;have hg2:=hg2.sub sg;have o60:=o60.sub sg;have szD:=Ad szD sg.size
 have hb_13:Has wg b_13 [.slice aL ((Dc A (Dn [p1.x])).map fun x=>[i6 x]).length cL] 24:=hb_13
 have dLo:∀k,C_ k→ob (.slice a60 ((Dc A (Dn [p0.x])).map fun x=>[i6 x]).length c60)=some k→False:=fun k h1 h2=>(hup_ k h1).elim id (fun h3=>by have:=ltD_o60 k h2;omega)
 refine Cp<|Ab<|Ac<|Aa rfl<|Af rfl<|Ak (.func (xs:=[]) (ys:=[_]) rfl rfl)<|Az rfl ALL (AHG (fun x=>decide (x∈Dc A (Dn [p1.x]))) (Dc A (Dn [p0.x])) w.heap.size a60 _ c60 (by rw[Aj]) (by have:=(Ou A (Dn [p0.x])).len;have:=hAok.most;omega) 273 ALK [] [.pointer (some ⟨b_13,0,none⟩)] wg o60 (fun x hx w' ag=>AG2 b_13 _ aL _ cL (by rw[Aj]) C_ x w' (hb_13.step ag (fun e=>d_o60_b_13 _ e rfl)) (hL.step ag dLo) (by have:=(Ou A (Dn [p1.x])).len;have:=hAok.most;omega))) ?_;rintro _ w32 ⟨⟨a72,c72,rfl,l72⟩,ag72⟩
 have S:=S.agrN ag72 (fun k e=>(o60.ge k e).1)
 have hb_2:=hb_2.step ag72 (fun e=>d60_b_2 _ e rfl);have hb_3:=hb_3.step ag72 (fun e=>d60_b_3 _ e rfl);have hb_4:=hb_4.step ag72 (fun e=>d60_b_4 _ e rfl);have hb_5:=hb_5.step ag72 (fun e=>d60_b_5 _ e rfl);have hg2:=hg2.step ag72 (fun e=>d60_g2 _ e rfl);have hA:=hA.step ag72 d60_hA;refine Ah rfl<|Ae<|Ab<|Ac<|Aa rfl<|Ak (.loadR ([.slice na A.nodes.length nc,.slice fa A.free.length fc]) Cb rfl hb_2.row rfl)<|Af rfl<|Az rfl AI0 (ABg A na fa nc fc ((Dc A (Dn [p0.x])).filter fun x => !decide (x∈Dc A (Dn [p1.x]))) a72 c72 _ rfl (Ad (List.length_filter_le _ _) (by have:=(Ou A (Dn [p0.x])).len;have:=hAok.most;omega)) hAok ((Ou A (Dn [p0.x])).nd.filter _) (fun p hp=>ACa hAok (List.mem_filter.1 hp).1) hfc M w32 hA l72) ?_;rintro _ w34 ⟨s35,D,nd,fd,ncd,fcd,CD,rfl,hnD,hfD,hD,upD,cutD⟩;have d_hD_b_2:=Di upD d_hA_b_2 hb_2.lt;have d_hD_b_3:=Di upD d_hA_b_3 hb_3.lt;have d_hD_b_4:=Di upD d_hA_b_4 hb_4.lt;have d_hD_b_5:=Di upD d_hA_b_5 hb_5.lt;have d_hD_g2:=Di upD d_hA_g2 hg2.lt
 have upD:=upD.le S.size
 have S:=S.trans s35;have hA:=hA.sub s35;have hb_2:=hb_2.sub s35;have hb_3:=hb_3.sub s35;have hb_4:=hb_4.sub s35;have hb_5:=hb_5.sub s35;have hg2:=hg2.sub s35;refine Af rfl<|Bz rfl rfl<|Bz rfl rfl<|Ay Fy rfl rfl (fun b_15 w_15 e_15 z_15 hb_15 s_15=>?_);have ge_15:=S.le e_15;have n_2__15:=hb_2.ne e_15;have n_3__15:=hb_3.ne e_15;have n_4__15:=hb_4.ne e_15;have n_5__15:=hb_5.ne e_15
 have n2__15:=hg2.ne e_15
 have d_hA_b_15:=hA.neNew e_15;have d_hD_b_15:=hD.neNew e_15;have S:=S.trans s_15;have hA:=hA.sub s_15;have hb_2:=hb_2.sub s_15;have hb_3:=hb_3.sub s_15;have hb_4:=hb_4.sub s_15;have hb_5:=hb_5.sub s_15;have hg2:=hg2.sub s_15;have hD:=hD.sub s_15;refine At Cb rfl rfl rfl hb_15 (fun w36 z36 hb_15 a36=>?_);have S:=S.upd a36 ge_15;have hA:=hA.updD a36 d_hA_b_15;have hb_2:=hb_2.upd a36 n_2__15;have hb_3:=hb_3.upd a36 n_3__15;have hb_4:=hb_4.upd a36 n_4__15;have hb_5:=hb_5.upd a36 n_5__15;have hg2:=hg2.upd a36 n2__15;have hD:=hD.updD a36 d_hD_b_15
 have hb_15:Has w36 b_15 ([.slice nd D.nodes.length ncd,.slice fd D.free.length fcd]) _:=hb_15.now (by kernel_rfl)
 refine Ah rfl<|Ae<|Ab<|Ac<|Aa rfl<|Af rfl<|Av Gq rfl<|At Nd rfl rfl rfl hb_3 (fun w37 z37 hb_3 a37=>?_);have S:=S.upd a37 ge_3;have hA:=hA.updD a37 d_hA_b_3;have hb_2:=hb_2.upd a37 n_2__3;have hb_4:=hb_4.upd a37 n_3__4.symm;have hb_5:=hb_5.upd a37 n_3__5.symm;have hg2:=hg2.upd a37 ng2_b_3;have hD:=hD.updD a37 d_hD_b_3;have hb_15:=hb_15.upd a37 n_3__15.symm
 have hb_3:Has w37 b_3 ((⟨some ⟨g2,0,none⟩,1,2+ex3.length,pa,(Er n).length,pc,sa,8,sc⟩:TbP).cells) _:=hb_3
 refine Ae<|Ab<|Ac<|Bs (fun k=>k=b_4∨k=b_5) [3,4] w37.heap.size 6 rfl rfl mxo (fun w38 s39=>?_)
 have hNN:∀k,((k=b_4∨k=b_5)∨w37.heap.size≤k)→w.heap.size≤k:=fun k e=>e.elim (fun e=>e.elim (fun e=>e▸ge_4) (fun e=>e▸ge_5)) (fun e=>Ad S.size e)
 have ent_S:=S.size
 have hN0:∀k,w37.heap.size≤k→w.heap.size≤k:=fun k e=>Ad S.size e
 have ltD_hA:=fun k hk=>(hA.ge k hk).2
 have ltD_b_2:=hb_2.lt;have ltD_b_3:=hb_3.lt;have ltD_b_4:=hb_4.lt;have ltD_b_5:=hb_5.lt;have ltD_g2:=hg2.lt
 have ltD_hD:=fun k hk=>(hD.ge k hk).2
 have ltD_b_15:=hb_15.lt;have szD:=Nat.le_refl w37.heap.size;have S:=S.trans s39;have hA:=hA.sub s39;have hb_2:=hb_2.sub s39;have hb_3:=hb_3.sub s39;have hb_4:=hb_4.sub s39;have hb_5:=hb_5.sub s39;have hg2:=hg2.sub s39;have hD:=hD.sub s39;have hb_15:=hb_15.sub s39;have szD:=Ad szD s39.size;refine Bg 0 rfl (fun w' s'=>.loadR ([.slice nd D.nodes.length ncd,.slice fd D.free.length fcd]) Cb rfl (hb_15.step s' (nE (nO n_4__15.symm n_5__15.symm) ltD_b_15)).row rfl)<|Bg 1 rfl (fun w' s'=>.loadR ((⟨some ⟨g2,0,none⟩,1,2+ex3.length,pa,(Er n).length,pc,sa,8,sc⟩:TbP).cells) Ef rfl (hb_3.step s' (nE (nO n_3__4 n_3__5) ltD_b_3)).row rfl)<|Bp 2 rfl rfl<|Aq 3 rfl<|At Cb rfl rfl rfl hb_4 (fun w40 z40 hb_4 a40=>?_);have S:=S.upd a40 ge_4;have hA:=hA.updD a40 d_hA_b_4;have hb_2:=hb_2.upd a40 n_2__4;have hb_3:=hb_3.upd a40 n_3__4;have hb_5:=hb_5.upd a40 n_4__5.symm;have hg2:=hg2.upd a40 ng2_b_4;have hD:=hD.updD a40 d_hD_b_4;have hb_15:=hb_15.upd a40 n_4__15.symm;have szD:=Ad szD a40.size
 have hb_4:Has w40 b_4 ([.slice nd D.nodes.length ncd,.slice fd D.free.length fcd]) _:=hb_4.now (by kernel_rfl)
 refine Cq rfl a40 (.inl rfl)<|Aq 4 rfl<|At Ef rfl rfl rfl hb_5 (fun w41 z41 hb_5 a41=>?_);have S:=S.upd a41 ge_5;have hA:=hA.updD a41 d_hA_b_5;have hb_2:=hb_2.upd a41 n_2__5;have hb_3:=hb_3.upd a41 n_3__5;have hb_4:=hb_4.upd a41 n_4__5;have hg2:=hg2.upd a41 ng2_b_5;have hD:=hD.updD a41 d_hD_b_5;have hb_15:=hb_15.upd a41 n_5__15.symm;have szD:=Ad szD a41.size
 have hb_5:Has w41 b_5 ((⟨some ⟨g2,0,none⟩,1,2+ex3.length,pa,(Er n).length,pc,sa,8,sc⟩:TbP).cells) _:=hb_5.now (by kernel_rfl)
 refine Cq rfl a41 (.inr (rfl))<|Cu 5 rfl rfl<|Cp<|Ab<|Bo (rs:=[.cell 4 26,.cell 5 59,.tmp 6]) (vs:=[_,_,_]) rfl rfl ⟨⟨_,rfl,.inr ⟨[.slice nd D.nodes.length ncd,.slice fd D.free.length fcd],Cb,hb_4.row,rfl⟩⟩,⟨_,rfl,.inr ⟨(⟨some ⟨g2,0,none⟩,1,2+ex3.length,pa,(Er n).length,pc,sa,8,sc⟩:TbP).cells,Ef,hb_5.row,rfl⟩⟩,rfl,trivial⟩ ?_
 exact⟨S,D,nd,fd,ncd,fcd,some ⟨g2,0,none⟩,2+ex3.length,_,rfl,hnD,hfD,by omega,(hD.and hg2.ft).imp (fun u h=>⟨h.1,Ue h.2⟩),fun k hk=>hk.elim (upD k) (fun e=>.inr (e▸ge2)),hv1.2.cut cutD (fun p hp hpl=>by rw[←hR1] at hp;have q:=(List.mem_filter.1 hpl).2;rw[decide_eq_true hp] at q;cases q),cutD.len,by have:=cutD.free;omega⟩
theorem Fx{w:World}{b e P j:Nat}{pre mid post:List Value}{v:Value}(h:Has w b (pre++mid++post) e)(hP:pre.length=P)(hv:mid[j]?=some v):w.cell? ⟨b,P+j,none⟩=some v:=by
 have hj:=Cc hv
 refine h.cell ?_
 rw[List.append_assoc,List.getElem?_append_right (by omega),hP,Nat.add_sub_cancel_left,List.getElem?_append_left hj,hv]
theorem ACH{w:World}{b e P:Nat}{pre mid post m1 m2 m3:List Value}(h:Has w b (pre++mid++post) e)(hP:pre.length=P)(hm:mid=m1++m2++m3):Row w ⟨b,P+m1.length,none⟩ m2:=by
 subst hm
 refine Ee (pre:=pre++m1) (mid:=m2) (post:=m3++post) (e:=e) (by simpa[List.append_assoc] using h) (by rw[Ag,hP])
theorem Ia{w:World}{b e:Nat}{cs m1 m2 m3:List Value}(h:Has w b cs e)(hm:cs=m1++m2++m3):Row w ⟨b,m1.length,none⟩ m2:=by
 subst hm
 exact Ee (pre:=m1) (mid:=m2) (post:=m3) h rfl
theorem Wd{pre post:List Value}:∀(vs mid:List Value) (j:Nat),j+vs.length≤mid.length→Eh (pre++mid++post) (pre.length+j) vs=pre++Eh mid j vs++post
 | [],mid,j,_=>rfl
 |v::vs,mid,j,h=>by
  rw[Al] at h
  have e:(pre++mid++post).set (pre.length+j) v=pre++mid.set j v++post:=by
   rw[List.append_assoc,List.set_append_right _ _ (by omega),Nat.add_sub_cancel_left,List.set_append_left _ _ (by omega),List.append_assoc]
  unfold Eh
  rw[e,Nat.add_assoc]
  exact Wd vs (mid.set j v) (j+1) (by rw[List.length_set];omega)
theorem Du{w:World}{b e P j:Nat}{pre mid post vs:List Value}(h:Has w b (Eh (pre++mid++post) (P+j) vs) e)(hP:pre.length=P)(hj:j+vs.length≤mid.length):Has w b (pre++Eh mid j vs++post) e:=by
 subst hP
 rw[←Wd vs mid j hj];exact h
structure UwP where
 wd:WdP
 k:Nat
 b:Nat
 P:Nat
 now:RcP
 ans:Bool
 res:RsT
def UwP.cells(x:UwP):List Value:=[.slice x.wd.na x.wd.nn x.wd.nc,.slice x.wd.fa x.wd.fn x.wd.fc,.slice x.wd.tb.ra x.wd.tb.rn x.wd.tb.rc,.slice x.wd.tb.pa x.wd.tb.pn x.wd.tb.pc,.slice x.wd.tb.sa x.wd.tb.sn x.wd.tb.sc,.slice x.wd.aa x.wd.an x.wd.ac,.slice x.wd.wa x.wd.wn x.wd.wc,
 .int .i64 (x.k:Int),.pointer (some ⟨x.b,x.P,none⟩),.int .i64 x.now.no,.int .u64 x.now.rt.m,.int .u64 x.now.rt.t,.int .u64 x.now.rt.r,.int .u64 x.now.rt.h,.slice x.now.aa x.now.an x.now.ac,.slice x.now.ra x.now.rn x.now.rc,.bool x.ans,.int .i64 x.res.e,.int .i64 x.res.a,.int .i64 x.res.b]
theorem Qs(l:List AnT):∀r∈l.map AnT.cells,r.length=5:=fun r hr=>by obtain⟨z,_,rfl⟩:=List.mem_map.1 hr;rfl
theorem ABz(b:Nat)(u:UwP)(pre post:List Value)(hP:pre.length=u.P)(x:WkP)(ks:u.k<8)(l:List AnT)(hl8:l.length≤8)(hk:u.k<l.length)(hn:u.wd.an=l.length)(hne:b≠u.b)(w:World)(hu:Has w b u.cells 250)(hW:Has w u.b (pre++x.cells++post) 90)(M:Nat→Prop)(hL:Ft M (fun v=>Sl v u.wd.aa 5 (l.map AnT.cells)) w)(hMb:∀k,M k→k≠b)(hMW:∀k,M k→k≠u.b):
  FC Tryz.prog 157 [.pointer (some ⟨b,0,none⟩)] w (fun _ w'=>∃a c M',Has w' b ({u with wd:={u.wd with aa:=a,an:=l.length,ac:=c}}:UwP).cells 250∧Has w' u.b (pre++({x with st:=2}:WkP).cells++post) 90∧Ft M' (fun v=>Sl v a 5 ((l.set u.k ⟨x.seq,x.op⟩).map AnT.cells)) w'∧UpN w M'∧l.length≤c∧Agr (fun k=>k=b∨k=u.b) w w'):=by
 obtain⟨wd,k,bW,P,now,ans,res⟩:=u
 simp only[] at hP ks hk hn hL hne hW hMW
 obtain⟨na,nn,nc,fa,fn,fc,tb,aa,an,ac,wa,wn,wc⟩:=wd
 simp only[] at hn hL
 subst hn
 refine As Tryz.func157 rfl Tryz.ntmps157 rfl ?_
 have G:Agr (fun k=>k=b∨k=bW) w w:=Agr.refl _ _
 have hne':=hne.symm
 refine Ac<|Aa rfl<|Af rfl<|Af rfl<|Ak (.nilCheck rfl)<|Av Fa rfl<|Av Np rfl<|Ba Nc rfl hu rfl<|Az rfl ALe (AKL l (by omega) aa ac _ rfl w hL.now (by omega)) ?_;rintro _ w1 ⟨s2,i,o,n,rfl,m,k8,f⟩
 have d:i≠b:=by have:=hu.lt;omega
 have g:i≠bW:=by have:=hW.lt;omega
 have dL8:∀k,M k→k≠i:=fun k hk e=>by have:=(hL.ge k hk).2;omega
 have geG_8:=Ad G.size m
 have G:=G.trans s2.agr;have hu:=hu.sub s2;have hW:=hW.sub s2;refine Ak (.nilCheck rfl)<|Av Fa rfl<|Av Np rfl<|At Nc rfl rfl rfl hu (fun w3 z3 hu a3=>?_);have G:=G.trans (a3.mono fun k _ e=>.inl e);have hW:=hW.upd a3 hne';have f:=f.upd a3 d
 have hu:Has w3 b ((⟨⟨na,nn,nc,fa,fn,fc,tb,some ⟨i,0,none⟩,l.length,o,wa,wn,wc⟩,k,bW,P,now,ans,res⟩:UwP).cells) _:=hu
 refine Ae<|Ab<|Ac<|Bs (fun k=>k=i) [25] w3.heap.size 26 rfl rfl mxo (fun w4 s5=>?_)
 have ent_G:=G.size
 have ltD_b:=hu.lt;have ltD_bW:=hW.lt;have G:=G.trans s5.agr;have hu:=hu.sub s5;have hW:=hW.sub s5;have f:=f.sub s5;refine Bp 0 rfl rfl<|Ci 1 rfl rfl<|Bl 2 rfl Fa rfl<|Bl 3 rfl Np rfl<|Ck 4 rfl Nc rfl hu (nE d.symm ltD_b) rfl<|Bp 5 rfl rfl<|Ci 6 rfl rfl<|Bl 7 rfl Ju rfl<|Ck 8 rfl sh3 rfl hu (nE d.symm ltD_b) rfl<|Bp 9 rfl rfl<|Ci 10 rfl rfl<|Bl 11 rfl Cz rfl<|Ck 12 rfl Dy rfl hu (nE d.symm ltD_b) rfl<|Ci 13 rfl rfl<|Bl 14 rfl Vj rfl<|Bg 15 rfl (fun w' s'=>.load1 sh3 rfl (Fx (j:=5) (hW.step s' (nE g.symm ltD_bW)) hP rfl)) ?_;refine Bp 16 rfl rfl<|Ci 17 rfl rfl<|Bl 18 rfl Cz rfl<|Ck 19 rfl Dy rfl hu (nE d.symm ltD_b) rfl<|Ci 20 rfl rfl<|Bl 21 rfl ACN rfl<|Bg 22 rfl (fun w' s'=>.loadR (x.op.cells) Uc rfl (ACH (m1:=List.take 1 (x.cells)) (m2:=x.op.cells) (m3:=List.drop 5 (x.cells)) (hW.step s' (nE g.symm ltD_bW)) hP rfl) rfl)<|Bg 23 rfl (fun _ _=>.buildS (vs:=[(0,.int .i64 x.seq),(1,.agg x.op.cells.toArray)]) (cs:=((⟨x.seq,x.op⟩:AnT).cells).toArray) Tk AK5 rfl (by kernel_rfl))<|Bg 24 rfl (fun _ _=>.indexO Iv rfl rfl (by show 0≤(k:Int)∧(k:Int)<((l.length:Nat):Int);omega))<|Aq 25 rfl<|Cg AFK rfl rfl rfl f (by rw[Ag,Cy (sz:=5) _ (Qs _),Aj,Int.toNat_natCast];show 0+k*5+5≤_;omega) (by rfl) rfl (fun w6 z6 f a6=>?_)
 have G:=Dv G a6 geG_8
 have hu:=hu.upd a6 d.symm;have hW:=hW.upd a6 g.symm
 rw[Nat.zero_add,Int.toNat_natCast] at f
 have f:=Gh (r:=(⟨x.seq,x.op⟩:AnT).cells) f (Qs _) (by rw[Aj];omega) rfl
 rw[←List.map_set] at f
 refine Cq rfl a6 (rfl)<|Cp<|Ab<|Aa rfl<|Af rfl<|Ak (.nilCheck rfl)<|Av Cz rfl<|Ba Dy rfl hu rfl<|Ak (.nilCheck rfl)<|Av Gn rfl<|Cg sh3 rfl rfl rfl hW (by rw[Ag,Ag,hP];show P+0+1≤P+24+List.length post;omega) (by rfl) rfl (fun w7 z7 hW a7=>?_);have G:=G.trans (a7.mono fun k _ e=>.inr (e));have hu:=hu.upd a7 hne;have f:=f.upd a7 g
 have hW:Has w7 bW (pre++(({x with st:=2}:WkP).cells)++post) _:=Du (mid:=x.cells) hW hP (by show 0+1≤24;decide)
 refine Ae ?_
 refine fun a ka=>⟨ka.defers,_,Dg (rs:=[]) (vs:=[]) ka rfl trivial,?_⟩
 exact⟨_,o,_,hu,hW,f.ft.imp (fun v h=>Has.sl (extra:=n) h (Qs _)),By geG_8,k8,G⟩
structure TbL (tb:TbP) (ps:List Int):Prop where
 r:1≤tb.rn∧tb.rn≤64
 s:tb.sn=8
 p:tb.pn=ps.length
 l:ps.length≤8
set_option maxRecDepth 10000 in
theorem Zj(b:Nat)(u:UwP)(ps:List Int)(ht:TbL u.wd.tb ps)(hk:u.k<ps.length)(no:Int)(hno : -1≤no∧no≤1099511627776)(w:World)(hwk:Has w b u.cells 250)(M:Nat→Prop)(hL:Ft M (fun v=>Sl v u.wd.tb.pa 1 (ps.map fun x=>[i6 x])) w)(hMb:∀k,M k→k≠b):
  FC Tryz.prog 223 [.pointer (some ⟨b,0,none⟩),.int .i64 no] w (fun _ w'=>∃b2 c M',Has w' b ({u with wd:={u.wd with tb:={u.wd.tb with pa:=some ⟨b2,0,none⟩,pn:=ps.length,pc:=c}}}:UwP).cells 250∧Ft M' (fun v=>Sl v (some ⟨b2,0,none⟩) 1 ((ps.set u.k no).map fun x=>[i6 x])) w'∧UpN w M'∧Agr (· = b) w w'):=by
 obtain⟨⟨na,nn,nc,fa,fn,fc,tb,aa,an,ac,wa,wn,wc⟩,k,bW,P,now,ans,res⟩:=u
 simp only[] at ht hk hL
 refine As Tryz.func223 rfl Tryz.ntmps223 rfl ?_
 have G:Agr (· = b) w w:=Agr.refl _ _
 have S:=Ax w
 refine Ac<|Bs (fun k=>False) [15] w.heap.size 17 rfl rfl mxo (fun w1 s2=>?_)
 have hNN:∀k,((False)∨w.heap.size≤k)→w.heap.size≤k:=fun k e=>e.elim (fun e=>e.elim) (fun e=>Ad S.size e)
 have ent_S:=S.size
 have hN0:∀k,w.heap.size≤k→w.heap.size≤k:=fun k e=>Ad S.size e
 have ent_G:=G.size
 have ltD_b:=hwk.lt;have szD:=Nat.le_refl w.heap.size;have G:=G.trans s2.agr;have hwk:=hwk.sub s2;have hL:=hL.sub s2;have szD:=Ad szD s2.size;refine Bp 0 rfl rfl<|Ci 1 rfl rfl<|Bl 2 rfl Fa rfl<|Bl 3 rfl Md rfl<|Bg 4 rfl (fun w' s'=>.loadR (tb.cells) Ef rfl (Ia (m1:=List.take 2 ((⟨⟨na,nn,nc,fa,fn,fc,tb,aa,an,ac,wa,wn,wc⟩,k,bW,P,now,ans,res⟩:UwP).cells)) (m2:=tb.cells) (m3:=List.drop 5 ((⟨⟨na,nn,nc,fa,fn,fc,tb,aa,an,ac,wa,wn,wc⟩,k,bW,P,now,ans,res⟩:UwP).cells)) (hwk.step s' (nE id ltD_b)) rfl) rfl)<|Bp 5 rfl rfl<|Ci 6 rfl rfl<|Bl 7 rfl Ju rfl<|Ck 8 rfl sh3 rfl hwk (nE id ltD_b) rfl<|Bp 9 rfl rfl<|Qf 7 (fun _=>False) 10 [11,12,13,16] [⟨14,15,59,[.slice none 0 0,.slice none 0 0,.slice none 0 0],fun u=>(Gy (u) 0).cells.toList⟩] (ACA [(11,[10]),(12,[11,10]),(13,[11,10]),(15,[12,14,10]),(16,[13,10])]) (AB9 [(12,0),(13,1),(16,1)]) (fun v C I=>∃b2 c2,v=.tuple #[.agg ({tb with pa:=some ⟨b2,0,none⟩,pn:=ps.length,pc:=c2}:TbP).cells.toArray,.int .i64 0]∧I=(fun u=>Sl u (some ⟨b2,0,none⟩) 1 ((ps.set k no).map fun x=>[i6 x]))) [] (fun _=>fun _ _=>True) (by kernel_rfl) (by kernel_rfl) rfl rfl (by kernel_rfl) (by decide) szD (fun _ h=>h.elim) (by decide) (by decide) (fun _=>rfl) (fun _ _ _ _ _ _=>trivial) (fun i0 hi0 o0 ho0 vals wc sc hp0=>?_) (by decide) (by decide) (fun o0 ho0 vals wc sc hp0=>?_) (fun i0 hi0 o0 ho0 vals wc hd0 hq0=>?_) (fun j0 hj0 o0 ho0 F0 wc=>?_) (fun j0 hj0 o0 ho0 vals wc b0 hb0 hd0 hq0 hh0=>?_) (fun vals wg C_ I_ sg hQ hF_ hup_ hps_ hjs_ hdis_=>?_)
 ·cases hi0
 ·cases ho0
  refine Gd rfl ALT (AJ2 tb ht.r ht.s ps ht.p k hk ht.l no hno wc (hL.sub sc).now) rfl ?_
  rintro u_ w_ ⟨s2,b2,c2,C1,rfl,_,g3,up2⟩
  exact⟨s2,C1,_,⟨b2,c2,rfl,rfl⟩,g3,up2⟩
 ·obtain⟨_,_,hq0⟩:=hq0
  obtain⟨b2,c2,hu,rfl⟩:=hq0
  simp only[List.mem_cons,List.not_mem_nil,or_false] at hi0
  rcases hi0 with rfl|rfl|rfl|rfl<;>cases ho0
  ·show OpRun _ _ _ ((17,vals 10)::_) _ _
   rw[hu]
   exact Dz (.move rfl) rfl ⟨rfl,rfl⟩
  ·have e0:=hd0 11 (by decide);show OpRun _ _ _ ((6,vals 11)::_) _ _
   rw[e0,hu]
   exact Dz (.extract rfl rfl) rfl ⟨rfl,rfl⟩
  ·have e0:=hd0 11 (by decide);show OpRun _ _ _ ((6,vals 11)::_) _ _
   rw[e0,hu]
   exact Dz (.extract rfl rfl) rfl ⟨rfl,rfl⟩
  ·have e0:=hd0 13 (by decide);show OpRun _ _ _ ((19,vals 13)::_) _ _
   rw[e0,hu]
   exact Dz (.assign rfl) rfl ⟨rfl,rfl⟩
 ·simp only[List.mem_cons,List.not_mem_nil,or_false] at hj0
  rcases hj0 with rfl<;>cases ho0
  ·exact Fi Kb rfl
 ·obtain⟨_,_,hq0⟩:=hq0
  obtain⟨b2,c2,hu,rfl⟩:=hq0
  simp only[List.mem_cons,List.not_mem_nil,or_false] at hj0
  rcases hj0 with rfl<;>cases ho0
  ·have e0:=hd0 12 (by decide) (by decide);have hb0:vals 14=.pointer (some ⟨b0,0,none⟩):=hb0
   show OpRun _ _ _ ((18,vals 12)::(4,vals 14)::(17,vals 10)::_) _ _
   rw[e0,hb0,hu]
   exact Fh Ef rfl rfl rfl hh0 rfl rfl
 obtain⟨b2,c2,hu,rfl⟩:=hQ
 have m:vals 11=_:=hps_ 11 (by decide)
 have j:vals 12=_:=hps_ 12 (by decide)
 have i:vals 13=_:=hps_ 13 (by decide)
 have g:vals 16=_:=hps_ 16 (by decide)
 obtain⟨q,t,o,f,nc_4⟩:∃b,vals 14=.pointer (some ⟨b,0,none⟩)∧w1.heap.size≤b∧Has wg b ((Gy (vals 10) 0)).cells.toList 59∧¬C_ b:=hjs_ _ (.head _)
 rw[hu] at f
 show RD _ _ _ _ _ _ _ _ ((17,vals 10)::(6,vals 11)::(18,vals 12)::(19,vals 13)::(5,vals 16)::(4,vals 14)::_) _ _
 rw[m,j,i,g,t,hu]
 have d_hPn_b:=Di hup_ (fun _ (h:False)=>h.elim) ltD_b
 have hPn:=hF_
 have d:∀k,C_ k→k≠q:=fun k hk e=>nc_4 (e▸hk)
 have n:q≠b:=by omega
 have G:=G.trans sg.agr;have hwk:=hwk.sub sg
 have up2:UpN w C_:=fun k hk=>(hup_ k hk).imp id (fun h=>Ad ent_S h)
 refine Cp<|Ab<|Ac<|Aa rfl<|Af rfl<|Ak (.as (v':=.bool true) (.bin rfl rfl rfl) (Cr (rfl)))<|Ae<|Ab<|Bm rfl<|Aa rfl<|Af rfl<|Ak (.loadR (({tb with pa:=some ⟨b2,0,none⟩,pn:=ps.length,pc:=c2}:TbP).cells) Ef rfl f.row rfl)<|Ak (.nilCheck rfl)<|Av Fa rfl<|Av Md rfl<|At Ef rfl rfl rfl hwk (fun w3 z3 hwk a3=>?_);have G:=G.trans a3;have hPn:=hPn.updD a3 d_hPn_b
 have hwk:Has w3 b ((⟨⟨na,nn,nc,fa,fn,fc,{tb with pa:=some ⟨b2,0,none⟩,pn:=ps.length,pc:=c2},aa,an,ac,wa,wn,wc⟩,k,bW,P,now,ans,res⟩:UwP).cells) _:=hwk.eqc (by kernel_rfl)
 refine Ae ?_
 refine fun a ka=>⟨ka.defers,_,Dg (rs:=[]) (vs:=[]) ka rfl trivial,?_⟩
 exact⟨b2,c2,C_,hwk,hPn,up2,G⟩
theorem AJy(b:Nat)(u:UwP)(pre post:List Value)(hP:pre.length=u.P)(x:WkP)(ps:List Int)(ht:TbL u.wd.tb ps)(hk:u.k<ps.length)(hno:0≤x.rc.no∧x.rc.no≤1099511627776)(hne:b≠u.b)(w:World)(hwk:Has w b u.cells 250)(hW:Has w u.b (pre++x.cells++post) 90)(M:Nat→Prop)(hL:Ft M (fun v=>Sl v u.wd.tb.pa 1 (ps.map fun x=>[i6 x])) w)(hMb:∀k,M k→k≠b):
  FC Tryz.prog 159 [.pointer (some ⟨b,0,none⟩)] w (fun _ w'=>∃b2 c M',Has w' b ({u with wd:={u.wd with tb:={u.wd.tb with pa:=some ⟨b2,0,none⟩,pn:=ps.length,pc:=c}}}:UwP).cells 250∧Has w' u.b (pre++({x with st:=4}:WkP).cells++post) 90∧Ft M' (fun v=>Sl v (some ⟨b2,0,none⟩) 1 ((ps.set u.k x.rc.no).map fun x=>[i6 x])) w'∧UpN w M'∧Agr (fun k=>k=b∨k=u.b) w w'):=by
 have hpn:=Zj b u ps ht hk x.rc.no ⟨by omega,hno.2⟩
 obtain⟨⟨na,nn,nc,fa,fn,fc,tb,aa,an,ac,wa,wn,wc⟩,k,bW,P,now,ans,res⟩:=u
 simp only[] at hP ht hk hne hW hL hpn
 refine As Tryz.func159 rfl Tryz.ntmps159 rfl ?_
 have G:Agr (fun k=>k=b∨k=bW) w w:=Agr.refl _ _
 have hne':=hne.symm
 refine Ac<|Aa rfl<|Af rfl<|Af rfl<|Ak (.nilCheck rfl)<|Av Cz rfl<|Ba Dy rfl hwk rfl<|Ak (.nilCheck rfl)<|Av Qb rfl<|Av Hy rfl<|Ak (.load1 sh3 rfl (Fx (j:=8) hW hP rfl))<|Az rfl AI2 (hpn w hwk M hL hMb) ?_;rintro _ w1 ⟨b2,c2,M2,hwk2,hPn,up2,a11⟩;have d_hPn_bW:=Di up2 (fun _ (h:False)=>h.elim) hW.lt;have G:=G.trans (a11.mono fun k _ e=>.inl e);have hW:=hW.upd a11 hne'
 have hwk:=hwk2
 refine Ae<|Ab<|Aa rfl<|Af rfl<|Ak (.nilCheck rfl)<|Av Cz rfl<|Ba Dy rfl hwk rfl<|Ak (.nilCheck rfl)<|Av Gn rfl<|Cg sh3 rfl rfl rfl hW (by rw[Ag,Ag,hP];show P+0+1≤P+24+List.length post;omega) (by rfl) rfl (fun w3 z3 hW a3=>?_);have G:=G.trans (a3.mono fun k _ e=>.inr (e));have hwk:=hwk.upd a3 hne;have hPn:=hPn.updD a3 d_hPn_bW
 have hW:Has w3 bW (pre++(({x with st:=4}:WkP).cells)++post) _:=Du (mid:=x.cells) hW hP (by show 0+1≤24;decide)
 refine Ae ?_
 refine fun a ka=>⟨ka.defers,_,Dg (rs:=[]) (vs:=[]) ka rfl trivial,?_⟩
 exact⟨b2,c2,M2,hwk,hW,hPn,up2,G⟩
theorem AGz(b:Nat)(u:UwP)(pre post:List Value)(hP:pre.length=u.P)(x:WkP)(heq:u.now.no=x.rc.no)(hne:b≠u.b)(w:World)(hwk:Has w b u.cells 250)(hW:Has w u.b (pre++x.cells++post) 90):
  FC Tryz.prog 160 [.pointer (some ⟨b,0,none⟩)] w (fun _ w'=>Has w' b u.cells 250∧Has w' u.b (pre++({x with st:=5,aa:=none,an:=0,ac:=0}:WkP).cells++post) 90∧Agr (fun k=>k=b∨k=u.b) w w'):=by
 obtain⟨⟨na,nn,nc,fa,fn,fc,tb,aa,an,ac,wa,wn,wc⟩,k,bW,P,now,ans,res⟩:=u
 simp only[] at hP heq hne hW
 refine As Tryz.func160 rfl Tryz.ntmps160 rfl ?_
 have G:Agr (fun k=>k=b∨k=bW) w w:=Agr.refl _ _
 have hne':=hne.symm
 refine Ac<|Bs (fun k=>k=bW) [10,13] w.heap.size 14 rfl rfl mxo (fun w1 s2=>?_)
 have ent_G:=G.size
 have ltD_b:=hwk.lt;have G:=G.trans s2.agr;have hwk:=hwk.sub s2;have hW:=hW.sub s2;refine Bp 0 rfl rfl<|Ci 1 rfl rfl<|Bl 2 rfl Cz rfl<|Ck 3 rfl Dy rfl hwk (nE hne ltD_b) rfl<|Bp 4 rfl rfl<|Ci 5 rfl rfl<|Bl 6 rfl Cz rfl<|Ck 7 rfl Dy rfl hwk (nE hne ltD_b) rfl<|Ci 8 rfl rfl<|Bl 9 rfl Gn rfl<|Aq 10 rfl<|Cg sh3 rfl rfl rfl hW (by rw[Ag,Ag,hP];show P+0+1≤P+24+List.length post;omega) (by rfl) rfl (fun w3 z3 hW a3=>?_);have G:=G.trans (a3.mono fun k _ e=>.inr (e));have hwk:=hwk.upd a3 hne
 have hW:Has w3 bW (pre++(({x with st:=8}:WkP).cells)++post) _:=Du (mid:=x.cells) hW hP (by show 0+1≤24;decide)
 refine Cq rfl a3 (rfl)<|Ci 11 rfl rfl<|Bl 12 rfl Lb rfl<|Aq 13 rfl<|Cg Nc rfl rfl rfl hW (by rw[Ag,Ag,hP];show P+15+1≤P+24+List.length post;omega) (by rfl) rfl (fun w4 z4 hW a4=>?_);have G:=G.trans (a4.mono fun k _ e=>.inr (e));have hwk:=hwk.upd a4 hne
 have hW:Has w4 bW (pre++(({x with st:=8,aa:=none,an:=0,ac:=0}:WkP).cells)++post) _:=Du (mid:=({x with st:=8}:WkP).cells) hW hP (by show 15+1≤24;decide)
 refine Cq rfl a4 (rfl)<|Cp<|Ab<|Ac<|Ev rfl mxo (by kernel_rfl)<|Cf rfl<|Aw (.nilCheck rfl)<|Aw (.field0 Ii rfl)<|Aw (.field0 Hy rfl)<|Aw (.load1 sh3 rfl (hwk.cell rfl))<|Cf rfl<|Aw (.nilCheck rfl)<|Aw (.field0 Cz rfl)<|Aw (.load1 Dy rfl (hwk.cell rfl))<|Aw (.nilCheck rfl)<|Aw (.field0 Qb rfl) ?_;refine Aw (.field0 Hy rfl)<|Aw (.load1 sh3 rfl (Fx (j:=8) hW hP rfl))<|Aw (.as (v':=.bool true) (.bin rfl rfl rfl) (Cr (heq)))<|Dq (fun w5 s6=>Ab ?_);have G:=G.trans s6.agr;have hwk:=hwk.sub s6;have hW:=hW.sub s6;refine Bm rfl<|Aa rfl<|Af rfl<|Ak (.nilCheck rfl)<|Av Cz rfl<|Ba Dy rfl hwk rfl<|Ak (.nilCheck rfl)<|Av Gn rfl<|Cg sh3 rfl rfl rfl hW (by rw[Ag,Ag,hP];show P+0+1≤P+24+List.length post;omega) (by rfl) rfl (fun w7 z7 hW a7=>?_);have G:=G.trans (a7.mono fun k _ e=>.inr (e));have hwk:=hwk.upd a7 hne
 have hW:Has w7 bW (pre++(({x with st:=5,aa:=none,an:=0,ac:=0}:WkP).cells)++post) _:=Du (mid:=({x with st:=8,aa:=none,an:=0,ac:=0}:WkP).cells) hW hP (by show 0+1≤24;decide)
 refine Ae ?_
 refine fun a ka=>⟨ka.defers,_,Dg (rs:=[]) (vs:=[]) ka rfl trivial,?_⟩
 exact⟨hwk,hW,G⟩
set_option maxRecDepth 10000 in
theorem AGy(b:Nat)(u:UwP)(pre post:List Value)(hP:pre.length=u.P)(x:WkP)(v:Ver)(s:Int)(hk:v.ap[u.k]?=some s)(hr:u.k<v.rs.length)(hs:¬s=x.seq)(hne:b≠u.b)(w:World)(hwk:Has w b u.cells 250)(hW:Has w u.b (pre++x.cells++post) 90)(M:Nat→Prop)(hV:Ft M (fun w=>RcR w u.now v) w)(hMb:∀k,M k→k≠b)(hMW:∀k,M k→k≠u.b):
  FC Tryz.prog 158 [.pointer (some ⟨b,0,none⟩)] w (fun _ w'=>Has w' b u.cells 250∧Has w' u.b (pre++({x with rc:=u.now,st:=3}:WkP).cells++post) 90∧Agr (fun k=>k=b∨k=u.b) w w'):=by
 obtain⟨⟨na,nn,nc,fa,fn,fc,tb,aa,an,ac,wa,wn,wc⟩,k,bW,P,now,ans,res⟩:=u
 simp only[] at hP hk hr hne hW hV hMW
 have hv0:=hV.now
 obtain⟨q1,q2,q3,q4,q5,q6,q7,q8⟩:=hv0
 have hkl:=Cc hk
 have hkz:v.ap[(k:Int).toNat]?=some s:=by rw[Int.toNat_natCast];exact hk
 refine As Tryz.func158 rfl Tryz.ntmps158 rfl ?_
 have G:Agr (fun k=>k=b∨k=bW) w w:=Agr.refl _ _
 have hne':=hne.symm
 refine Ac<|Bs (fun k=>k=bW) [14,17] w.heap.size 18 rfl rfl mxo (fun w1 s2=>?_)
 have ent_G:=G.size
 have ltD_b:=hwk.lt;have G:=G.trans s2.agr;have hwk:=hwk.sub s2;have hW:=hW.sub s2;have hV:=hV.sub s2;refine Bp 0 rfl rfl<|Ci 1 rfl rfl<|Bl 2 rfl Cz rfl<|Ck 3 rfl Dy rfl hwk (nE hne ltD_b) rfl<|Bp 4 rfl rfl<|Ci 5 rfl rfl<|Bl 6 rfl Cz rfl<|Ck 7 rfl Dy rfl hwk (nE hne ltD_b) rfl<|Bp 8 rfl rfl<|Ci 9 rfl rfl<|Bl 10 rfl Ii rfl<|Bg 11 rfl (fun w' s'=>.loadR (now.cells) Fs rfl (Ia (m1:=List.take 9 ((⟨⟨na,nn,nc,fa,fn,fc,tb,aa,an,ac,wa,wn,wc⟩,k,bW,P,now,ans,res⟩:UwP).cells)) (m2:=now.cells) (m3:=List.drop 16 ((⟨⟨na,nn,nc,fa,fn,fc,tb,aa,an,ac,wa,wn,wc⟩,k,bW,P,now,ans,res⟩:UwP).cells)) (hwk.step s' (nE hne ltD_b)) rfl) rfl)<|Ci 12 rfl rfl<|Bl 13 rfl Qb rfl<|Aq 14 rfl<|Cg Fs rfl rfl rfl hW (by rw[Ag,Ag,hP];show P+8+7≤P+24+List.length post;omega) (by rfl) rfl (fun w3 z3 hW a3=>?_);have G:=G.trans (a3.mono fun k _ e=>.inr (e));have hwk:=hwk.upd a3 hne;have hV:=hV.updD a3 hMW
 have hW:Has w3 bW (pre++(({x with rc:=now}:WkP).cells)++post) _:=Du (mid:=x.cells) hW hP (by show 8+7≤24;decide)
 refine Cq rfl a3 (rfl)<|Ci 15 rfl rfl<|Bl 16 rfl Gn rfl<|Aq 17 rfl<|Cg sh3 rfl rfl rfl hW (by rw[Ag,Ag,hP];show P+0+1≤P+24+List.length post;omega) (by rfl) rfl (fun w4 z4 hW a4=>?_);have G:=G.trans (a4.mono fun k _ e=>.inr (e));have hwk:=hwk.upd a4 hne;have hV:=hV.updD a4 hMW
 have hW:Has w4 bW (pre++(({x with rc:=now,st:=3}:WkP).cells)++post) _:=Du (mid:=({x with rc:=now}:WkP).cells) hW hP (by show 0+1≤24;decide)
 refine Cq rfl a4 (rfl)<|Cp<|Ab<|Ac<|Ev rfl mxo (by kernel_rfl)<|Cf rfl<|Aw (.nilCheck rfl)<|Aw (.field0 Ju rfl)<|Aw (.load1 sh3 rfl (hwk.cell rfl))<|Cf rfl<|Aw (.nilCheck rfl)<|Aw (.field0 Ii rfl)<|Aw (.field0 Jq rfl)<|Aw (.load1 El rfl (hwk.cell rfl))<|Aw (.len Dd rfl)<|Aw (.as (v':=.bool true) (.bin rfl rfl rfl) (Cr (by show(k:Int)<((now.an:Nat):Int);rw[q3];omega))) ?_;refine Cf rfl<|Cf rfl<|Aw (.nilCheck rfl)<|Aw (.field0 Ju rfl)<|Aw (.load1 sh3 rfl (hwk.cell rfl))<|Cf rfl<|Aw (.nilCheck rfl)<|Aw (.field0 Ii rfl)<|Aw (.field0 Sd rfl)<|Aw (.load1 ADy rfl (hwk.cell rfl))<|Aw (.len Xk rfl)<|Aw (.as (v':=.bool true) (.bin rfl rfl rfl) (Cr (by show(k:Int)<((now.rn:Nat):Int);rw[q4];omega)))<|Aw (.pick_t rfl rfl)<|Cf rfl<|Cf rfl<|Aw (.nilCheck rfl) ?_;refine Aw (.field0 Ii rfl)<|Aw (.field0 Jq rfl)<|Aw (.load1 El rfl (hwk.cell rfl))<|Cf rfl<|Aw (.nilCheck rfl)<|Aw (.field0 Ju rfl)<|Aw (.load1 sh3 rfl (hwk.cell rfl))<|Aw (.indexS Dd rfl rfl (by show 0≤(k:Int)∧(k:Int)<((now.an:Nat):Int);rw[q3];omega) (q7.is (i:=0) (by simp only[Aj,Al,Am];omega)))<|Aw (.load1 sh3 rfl (hV.now.2.2.2.2.2.2.1.one (enc:=i6) (i:=(k:Int).toNat) hkz))<|Cf rfl<|Aw (.nilCheck rfl)<|Aw (.field0 Cz rfl)<|Aw (.load1 Dy rfl (hwk.cell rfl))<|Aw (.nilCheck rfl)<|Aw (.field0 Vj rfl)<|Aw (.load1 sh3 rfl (Fx (j:=5) hW hP rfl)) ?_;refine Aw (.as (v':=.bool false) (.bin rfl rfl rfl) (Bt (hs)))<|Aw (.pick_t rfl rfl)<|Dq (fun w5 s6=>Ab ?_);have G:=G.trans s6.agr;have hwk:=hwk.sub s6;have hW:=hW.sub s6;refine Bw rfl<|Ao ?_
 refine fun a ka=>⟨ka.defers,_,Dg (rs:=[]) (vs:=[]) ka rfl trivial,?_⟩
 exact⟨hwk,hW,G⟩
set_option maxRecDepth 10000 in
theorem AGx(b:Nat)(u:UwP)(pre post:List Value)(hP:pre.length=u.P)(x:WkP)(v:Ver)(hk:v.ap[u.k]?=some x.seq)(r:RsT)(hr:v.rs[u.k]?=some r)(hne:b≠u.b)(w:World)(hwk:Has w b u.cells 250)(hW:Has w u.b (pre++x.cells++post) 90)(M:Nat→Prop)(hV:Ft M (fun w=>RcR w u.now v) w)(hMb:∀k,M k→k≠b)(hMW:∀k,M k→k≠u.b):
  FC Tryz.prog 158 [.pointer (some ⟨b,0,none⟩)] w (fun _ w'=>Has w' b ({u with ans:=true,res:=r}:UwP).cells 250∧Has w' u.b (pre++({x with rc:=Hr,st:=0,aa:=none,an:=0,ac:=0,nx:=Hr,ma:=none,mn:=0,mc:=0}:WkP).cells++post) 90∧Agr (fun k=>k=b∨k=u.b) w w'):=by
 obtain⟨⟨na,nn,nc,fa,fn,fc,tb,aa,an,ac,wa,wn,wc⟩,k,bW,P,now,ans,res⟩:=u
 simp only[] at hP hk hr hne hW hV hMW
 have hv0:=hV.now
 obtain⟨q1,q2,q3,q4,q5,q6,q7,q8⟩:=hv0
 have hkl:=Cc hk
 have hrl:=Cc hr
 have hkz:v.ap[(k:Int).toNat]?=some x.seq:=by rw[Int.toNat_natCast];exact hk
 have hrz:v.rs[(k:Int).toNat]?=some r:=by rw[Int.toNat_natCast];exact hr
 refine As Tryz.func158 rfl Tryz.ntmps158 rfl ?_
 have G:Agr (fun k=>k=b∨k=bW) w w:=Agr.refl _ _
 have hne':=hne.symm
 refine Ac<|Bs (fun k=>k=bW) [14,17] w.heap.size 18 rfl rfl mxo (fun w1 s2=>?_)
 have ent_G:=G.size
 have ltD_b:=hwk.lt
 have ltD_hV:=fun k hk=>(hV.ge k hk).2
 have G:=G.trans s2.agr;have hwk:=hwk.sub s2;have hW:=hW.sub s2;have hV:=hV.sub s2;refine Bp 0 rfl rfl<|Ci 1 rfl rfl<|Bl 2 rfl Cz rfl<|Ck 3 rfl Dy rfl hwk (nE hne ltD_b) rfl<|Bp 4 rfl rfl<|Ci 5 rfl rfl<|Bl 6 rfl Cz rfl<|Ck 7 rfl Dy rfl hwk (nE hne ltD_b) rfl<|Bp 8 rfl rfl<|Ci 9 rfl rfl<|Bl 10 rfl Ii rfl<|Bg 11 rfl (fun w' s'=>.loadR (now.cells) Fs rfl (Ia (m1:=List.take 9 ((⟨⟨na,nn,nc,fa,fn,fc,tb,aa,an,ac,wa,wn,wc⟩,k,bW,P,now,ans,res⟩:UwP).cells)) (m2:=now.cells) (m3:=List.drop 16 ((⟨⟨na,nn,nc,fa,fn,fc,tb,aa,an,ac,wa,wn,wc⟩,k,bW,P,now,ans,res⟩:UwP).cells)) (hwk.step s' (nE hne ltD_b)) rfl) rfl)<|Ci 12 rfl rfl<|Bl 13 rfl Qb rfl<|Aq 14 rfl<|Cg Fs rfl rfl rfl hW (by rw[Ag,Ag,hP];show P+8+7≤P+24+List.length post;omega) (by rfl) rfl (fun w3 z3 hW a3=>?_);have G:=G.trans (a3.mono fun k _ e=>.inr (e));have hwk:=hwk.upd a3 hne;have hV:=hV.updD a3 hMW
 have hW:Has w3 bW (pre++(({x with rc:=now}:WkP).cells)++post) _:=Du (mid:=x.cells) hW hP (by show 8+7≤24;decide)
 refine Cq rfl a3 (rfl)<|Ci 15 rfl rfl<|Bl 16 rfl Gn rfl<|Aq 17 rfl<|Cg sh3 rfl rfl rfl hW (by rw[Ag,Ag,hP];show P+0+1≤P+24+List.length post;omega) (by rfl) rfl (fun w4 z4 hW a4=>?_);have G:=G.trans (a4.mono fun k _ e=>.inr (e));have hwk:=hwk.upd a4 hne;have hV:=hV.updD a4 hMW
 have hW:Has w4 bW (pre++(({x with rc:=now,st:=3}:WkP).cells)++post) _:=Du (mid:=({x with rc:=now}:WkP).cells) hW hP (by show 0+1≤24;decide)
 refine Cq rfl a4 (rfl)<|Cp<|Ab<|Ac<|Ev rfl mxo (by kernel_rfl)<|Cf rfl<|Aw (.nilCheck rfl)<|Aw (.field0 Ju rfl)<|Aw (.load1 sh3 rfl (hwk.cell rfl))<|Cf rfl<|Aw (.nilCheck rfl)<|Aw (.field0 Ii rfl)<|Aw (.field0 Jq rfl)<|Aw (.load1 El rfl (hwk.cell rfl))<|Aw (.len Dd rfl)<|Aw (.as (v':=.bool true) (.bin rfl rfl rfl) (Cr (by show(k:Int)<((now.an:Nat):Int);rw[q3];omega))) ?_;refine Cf rfl<|Cf rfl<|Aw (.nilCheck rfl)<|Aw (.field0 Ju rfl)<|Aw (.load1 sh3 rfl (hwk.cell rfl))<|Cf rfl<|Aw (.nilCheck rfl)<|Aw (.field0 Ii rfl)<|Aw (.field0 Sd rfl)<|Aw (.load1 ADy rfl (hwk.cell rfl))<|Aw (.len Xk rfl)<|Aw (.as (v':=.bool true) (.bin rfl rfl rfl) (Cr (by show(k:Int)<((now.rn:Nat):Int);rw[q4];omega)))<|Aw (.pick_t rfl rfl)<|Cf rfl<|Cf rfl<|Aw (.nilCheck rfl) ?_;refine Aw (.field0 Ii rfl)<|Aw (.field0 Jq rfl)<|Aw (.load1 El rfl (hwk.cell rfl))<|Cf rfl<|Aw (.nilCheck rfl)<|Aw (.field0 Ju rfl)<|Aw (.load1 sh3 rfl (hwk.cell rfl))<|Aw (.indexS Dd rfl rfl (by show 0≤(k:Int)∧(k:Int)<((now.an:Nat):Int);rw[q3];omega) (q7.is (i:=0) (by simp only[Aj,Al,Am];omega)))<|Aw (.load1 sh3 rfl (hV.now.2.2.2.2.2.2.1.one (enc:=i6) (i:=(k:Int).toNat) hkz))<|Cf rfl<|Aw (.nilCheck rfl)<|Aw (.field0 Cz rfl)<|Aw (.load1 Dy rfl (hwk.cell rfl))<|Aw (.nilCheck rfl)<|Aw (.field0 Vj rfl)<|Aw (.load1 sh3 rfl (Fx (j:=5) hW hP rfl)) ?_;refine Aw (.as (v':=.bool true) (.bin rfl rfl rfl) (Cr (rfl)))<|Aw (.pick_t rfl rfl)<|Dq (fun w5 s6=>Ab ?_);have G:=G.trans s6.agr;have hwk:=hwk.sub s6;have hW:=hW.sub s6;have hV:=hV.sub s6;refine Bm rfl<|Ac<|Bs (fun k=>k=b) [15,18] w5.heap.size 19 rfl rfl mxo (fun w7 s8=>?_)
 have ent_G:=G.size
 have ltD_b:=hwk.lt
 have ltD_hV:=fun k hk=>(hV.ge k hk).2
 have G:=G.trans s8.agr;have hwk:=hwk.sub s8;have hW:=hW.sub s8;have hV:=hV.sub s8;refine Bp 0 rfl rfl<|Bp 1 rfl rfl<|Bp 2 rfl rfl<|Ci 3 rfl rfl<|Bl 4 rfl Ii rfl<|Bl 5 rfl Sd rfl<|Fq 6 rfl (by kernel_rfl) (by kernel_rfl) (by kernel_rfl) (by kernel_rfl) (fun w' s'=>.load1 ADy rfl ((hwk.step s' (Nat.not_le.2 ltD_b)).cell rfl)) rfl rfl<|Bp 7 rfl rfl<|Ci 8 rfl rfl<|Bl 9 rfl Ju rfl<|Fq 10 rfl (by kernel_rfl) (by kernel_rfl) (by kernel_rfl) (by kernel_rfl) (fun w' s'=>.load1 sh3 rfl ((hwk.step s' (Nat.not_le.2 ltD_b)).cell rfl)) rfl rfl<|Bg 11 rfl (fun _ _=>.indexS Xk rfl rfl (by show 0≤(k:Int)∧(k:Int)<((now.rn:Nat):Int);rw[q4];omega) (q8.is (i:=0) (by simp only[Aj,Al,Am];omega)))<|Bg 12 rfl (fun w' s'=>.loadR (r.cells) Hq rfl ((hV.step s' (fun k hk e=>e.elim (fun e=>hMb k hk e) (fun e=>absurd (ltD_hV k hk) (Nat.not_lt.2 e)))).now.2.2.2.2.2.2.2.rowAt (enc:=RsT.cells) (i:=(k:Int).toNat) hrz) rfl)<|Ci 13 rfl rfl<|Bl 14 rfl ADe rfl<|Aq 15 rfl ?_;refine At sh4 rfl rfl rfl hwk (fun w9 z9 hwk a9=>?_);have G:=G.trans (a9.mono fun k _ e=>.inl e);have hW:=hW.upd a9 hne'
 have hwk:Has w9 b ((⟨⟨na,nn,nc,fa,fn,fc,tb,aa,an,ac,wa,wn,wc⟩,k,bW,P,now,true,res⟩:UwP).cells) _:=hwk
 refine Cq rfl a9 (rfl)<|Ci 16 rfl rfl<|Bl 17 rfl ADd rfl<|Aq 18 rfl<|At Hq rfl rfl rfl hwk (fun w10 z10 hwk a10=>?_);have G:=G.trans (a10.mono fun k _ e=>.inl e);have hW:=hW.upd a10 hne'
 have hwk:Has w10 b ((⟨⟨na,nn,nc,fa,fn,fc,tb,aa,an,ac,wa,wn,wc⟩,k,bW,P,now,true,r⟩:UwP).cells) _:=hwk.eqc (by kernel_rfl)
 refine Cq rfl a10 (rfl)<|Cp<|Ab<|Ac<|Bs (fun k=>k=bW) [20,23,26,29] w10.heap.size 30 rfl rfl mxo (fun w11 s12=>?_)
 have ent_G:=G.size
 have ltD_b:=hwk.lt;have G:=G.trans s12.agr;have hwk:=hwk.sub s12;have hW:=hW.sub s12;refine Bp 0 rfl rfl<|Ci 1 rfl rfl<|Bl 2 rfl Cz rfl<|Ck 3 rfl Dy rfl hwk (nE hne ltD_b) rfl<|Bp 4 rfl rfl<|Ci 5 rfl rfl<|Bl 6 rfl Cz rfl<|Ck 7 rfl Dy rfl hwk (nE hne ltD_b) rfl<|Bp 8 rfl rfl<|Ci 9 rfl rfl<|Bl 10 rfl Cz rfl<|Ck 11 rfl Dy rfl hwk (nE hne ltD_b) rfl<|Bp 12 rfl rfl<|Ci 13 rfl rfl<|Bl 14 rfl Cz rfl<|Ck 15 rfl Dy rfl hwk (nE hne ltD_b) rfl ?_;refine Bg 16 rfl (fun _ _=>.buildS Gx ADz rfl rfl)<|Bg 17 rfl (fun _ _=>.buildS Gx ADz rfl rfl)<|Ci 18 rfl rfl<|Bl 19 rfl Qb rfl<|Aq 20 rfl<|Cg Fs rfl rfl rfl hW (by rw[Ag,Ag,hP];show P+8+7≤P+24+List.length post;omega) (by rfl) rfl (fun w13 z13 hW a13=>?_);have G:=G.trans (a13.mono fun k _ e=>.inr (e));have hwk:=hwk.upd a13 hne
 have hW:Has w13 bW (pre++(({x with rc:=Hr,st:=3}:WkP).cells)++post) _:=Du (mid:=({x with rc:=now,st:=3}:WkP).cells) hW hP (by show 8+7≤24;decide)
 refine Cq rfl a13 (rfl)<|Ci 21 rfl rfl<|Bl 22 rfl Lb rfl<|Aq 23 rfl<|Cg Nc rfl rfl rfl hW (by rw[Ag,Ag,hP];show P+15+1≤P+24+List.length post;omega) (by rfl) rfl (fun w14 z14 hW a14=>?_);have G:=G.trans (a14.mono fun k _ e=>.inr (e));have hwk:=hwk.upd a14 hne
 have hW:Has w14 bW (pre++(({x with rc:=Hr,st:=3,aa:=none,an:=0,ac:=0}:WkP).cells)++post) _:=Du (mid:=({x with rc:=Hr,st:=3}:WkP).cells) hW hP (by show 15+1≤24;decide)
 refine Cq rfl a14 (rfl)<|Ci 24 rfl rfl<|Bl 25 rfl AAK rfl<|Aq 26 rfl<|Cg Fs rfl rfl rfl hW (by rw[Ag,Ag,hP];show P+16+7≤P+24+List.length post;omega) (by rfl) rfl (fun w15 z15 hW a15=>?_);have G:=G.trans (a15.mono fun k _ e=>.inr (e));have hwk:=hwk.upd a15 hne
 have hW:Has w15 bW (pre++(({x with rc:=Hr,st:=3,aa:=none,an:=0,ac:=0,nx:=Hr}:WkP).cells)++post) _:=Du (mid:=({x with rc:=Hr,st:=3,aa:=none,an:=0,ac:=0}:WkP).cells) hW hP (by show 16+7≤24;decide)
 refine Cq rfl a15 (rfl)<|Ci 27 rfl rfl<|Bl 28 rfl Vi rfl<|Aq 29 rfl<|Cg El rfl rfl rfl hW (by rw[Ag,Ag,hP];show P+23+1≤P+24+List.length post;omega) (by rfl) rfl (fun w16 z16 hW a16=>?_);have G:=G.trans (a16.mono fun k _ e=>.inr (e));have hwk:=hwk.upd a16 hne
 have hW:Has w16 bW (pre++(({x with rc:=Hr,st:=3,aa:=none,an:=0,ac:=0,nx:=Hr,ma:=none,mn:=0,mc:=0}:WkP).cells)++post) _:=Du (mid:=({x with rc:=Hr,st:=3,aa:=none,an:=0,ac:=0,nx:=Hr}:WkP).cells) hW hP (by show 23+1≤24;decide)
 refine Cq rfl a16 (rfl)<|Cp<|Ab<|Aa rfl<|Af rfl<|Ak (.nilCheck rfl)<|Av Cz rfl<|Ba Dy rfl hwk rfl<|Ak (.nilCheck rfl)<|Av Gn rfl<|Cg sh3 rfl rfl rfl hW (by rw[Ag,Ag,hP];show P+0+1≤P+24+List.length post;omega) (by rfl) rfl (fun w17 z17 hW a17=>?_);have G:=G.trans (a17.mono fun k _ e=>.inr (e));have hwk:=hwk.upd a17 hne
 have hW:Has w17 bW (pre++(({x with rc:=Hr,st:=0,aa:=none,an:=0,ac:=0,nx:=Hr,ma:=none,mn:=0,mc:=0}:WkP).cells)++post) _:=Du (mid:=({x with rc:=Hr,st:=3,aa:=none,an:=0,ac:=0,nx:=Hr,ma:=none,mn:=0,mc:=0}:WkP).cells) hW hP (by show 0+1≤24;decide)
 refine Ae ?_
 refine fun a ka=>⟨ka.defers,_,Dg (rs:=[]) (vs:=[]) ka rfl trivial,?_⟩
 exact⟨hwk,hW,G⟩
theorem Oo{α:Type}{l:List α}{j:Nat}{y:α}(h:l[j]?=some y):l.take j++[y]=l.take (j+1):=by rw[List.take_add_one,h];rfl
set_option maxRecDepth 10000 in
theorem ACn(b:Nat)(u:UwP)(pre post:List Value)(hP:pre.length=u.P)(x:WkP)(l:List AnT)(hl8:l.length≤8)(hn:u.wd.an=l.length)(j:Nat)(hj:j<l.length)(hxn:x.an=j)(hxc:j≤x.ac)(hne:b≠u.b)(w:World)(hwk:Has w b u.cells 250)(hW:Has w u.b (pre++x.cells++post) 90)(M:Nat→Prop)(hL:Ft M (fun v=>Sl v u.wd.aa 5 (l.map AnT.cells)) w)(hMb:∀k,M k→k≠b)(hMW:∀k,M k→k≠u.b)
  (MC:Nat→Prop) (hC:Ft MC (fun v=>Sl v x.aa 5 ((l.take j).map AnT.cells)) w) (hCb:∀k,MC k→k≠b) (hCW:∀k,MC k→k≠u.b) :
  FC Tryz.prog 161 [.pointer (some ⟨b,0,none⟩)] w (fun _ w'=>∃a c M',Has w' b u.cells 250∧Has w' u.b (pre++({x with aa:=a,an:=j+1,ac:=c,st:=if l.length≤j+1 then 6 else x.st}:WkP).cells++post) 90∧j+1≤c∧Ft M' (fun v=>Sl v a 5 ((l.take (j+1)).map AnT.cells)) w'∧UpN w M'∧Agr (fun k=>k=b∨k=u.b) w w'):=by
 obtain⟨⟨na,nn,nc,fa,fn,fc,tb,aa,an,ac,wa,wn,wc⟩,k,bW,P,now,ans,res⟩:=u
 simp only[] at hP hn hL hne hW hMW hCW
 subst hn
 obtain⟨st,op,seq,round,took,rc,xa,xn,xc,nx,ma,mn,mc⟩:=x
 simp only[] at hxn hxc hC
 subst hxn
 obtain⟨y,hy⟩:=Ce hj
 have hyz:l[(xn:Int).toNat]?=some y:=by rw[Int.toNat_natCast];exact hy
 refine As Tryz.func161 rfl Tryz.ntmps161 rfl ?_
 have G:Agr (fun k=>k=b∨k=bW) w w:=Agr.refl _ _
 have hne':=hne.symm
 refine Ac<|Ac<|Aa rfl<|Af rfl<|Ak (.nilCheck rfl)<|Av Cz rfl<|Ba Dy rfl hwk rfl<|Ak (.nilCheck rfl)<|Av Lb rfl<|Ak (.load1 Nc rfl (Fx (j:=15) hW hP rfl))<|Cm Iv rfl<|Ah rfl<|Ae<|Ab<|Ac<|Aa rfl ?_;refine Af rfl<|Af rfl<|Ak (.nilCheck rfl)<|Av Fa rfl<|Av Np rfl<|Ba Nc rfl hwk rfl<|Cm Iv rfl<|Ak (.as (v':=.bool true) (.bin rfl rfl rfl) (Cr (by show((xn:Nat):Int)<((l.length:Nat):Int);omega)))<|Ae<|Ab<|Bm rfl<|Bs (fun k=>k=bW) [24] w.heap.size 25 rfl rfl mxo (fun w1 s2=>?_)
 have ent_G:=G.size
 have ltD_b:=hwk.lt;have ltD_bW:=hW.lt
 have ltD_hL:=fun k hk=>(hL.ge k hk).2
 have ltD_hC:=fun k hk=>(hC.ge k hk).2
 have szD:=Nat.le_refl w.heap.size;have G:=G.trans s2.agr;have hwk:=hwk.sub s2;have hW:=hW.sub s2;have hL:=hL.sub s2;have hC:=hC.sub s2;have szD:=Ad szD s2.size;refine Bp 0 rfl rfl<|Ci 1 rfl rfl<|Bl 2 rfl Cz rfl<|Ck 3 rfl Dy rfl hwk (nE hne ltD_b) rfl<|Bp 4 rfl rfl<|Ci 5 rfl rfl<|Bl 6 rfl Cz rfl<|Ck 7 rfl Dy rfl hwk (nE hne ltD_b) rfl<|Ci 8 rfl rfl<|Bl 9 rfl Lb rfl<|Fq 10 rfl (by kernel_rfl) (by kernel_rfl) (by kernel_rfl) (by kernel_rfl) (fun w' s'=>.load1 Nc rfl (Fx (j:=15) (hW.step s' (Nat.not_le.2 ltD_bW)) hP rfl)) rfl rfl<|Bp 12 rfl rfl<|Ci 13 rfl rfl<|Bl 14 rfl Fa rfl<|Bl 15 rfl Np rfl<|Ck 16 rfl Nc rfl hwk (nE hne ltD_b) rfl ?_;refine Bp 17 rfl rfl<|Bg 18 rfl (fun _ _=>.indexS Iv rfl rfl (by show 0≤((xn:Nat):Int)∧((xn:Nat):Int)<((l.length:Nat):Int);omega) (hL.now.is (i:=0) (by simp only[Aj,Al,Am];omega)))<|Bg 19 rfl (fun w' s'=>.loadR (y.cells) AFK rfl ((hL.step s' (fun k hk e=>e.elim (fun e=>hMW k hk e) (fun e=>absurd (ltD_hL k hk) (Nat.not_lt.2 e)))).now.rowAt (enc:=AnT.cells) (i:=(xn:Int).toNat) hyz) rfl)<|Ej [11,20] (by kernel_rfl) rfl (Ca rfl ?_ (Ca rfl ?_ (Do)))
 ·
  refine Az rfl AI1 (ABd xn xa xc w1 hxc) ?_;rintro _ w3 ⟨rfl,s4⟩;have G:=G.trans s4.agr;have hwk:=hwk.sub s4;have hW:=hW.sub s4;have hL:=hL.sub s4;have hC:=hC.sub s4;have szD:=Ad szD s4.size;refine Be s4.agr<|Aq 20 rfl<|Bi Iv _ Tk rfl rfl rfl rfl rfl rfl rfl (fun D C o H p n=>?_)
  have B:w.heap.size≤D:=by rw[o];exact szD
  have E:=hwk.ne o
  have nW__39:=hW.ne o
  have s:=hL.neNew o;have t:=hC.neNew o
  have geG_39:=Gi G o
  have G:=G.trans n.agr;have hwk:=hwk.sub n;have hW:=hW.sub n;have hL:=hL.sub n;have hC:=hC.sub n;have szD:=Ad szD n.size;refine Be n.agr<|Aq 21 rfl ?_;have szG_40:=G.size
  have ltb_40:=hwk.lt
  have ltbW_40:=hW.lt
  have ltb_39_40:=p.lt
  refine De (base:=C.heap.size) (rows:=(l.take xn).map AnT.cells) (news:=[_]) Iv Tk rfl rfl rfl rfl (.inr ⟨_,by rw[Aj,List.length_take,Nat.min_eq_left (Nat.le_of_lt hj)],hC.now,Qs _⟩) (Dr p) rfl (by intro r hr;rw[List.mem_singleton] at hr;subst hr;rfl) rfl (by(try simp only[Aj,Am,Ag,Al]);(rw[List.length_take];omega)) (by(try simp only[Aj,Am,Ag,Al]);(rw[List.length_take];omega)) (by omega) rfl rfl (fun J I hc_40 z f ob_40=>?_)
  have G:=AFg G f (by first|exact Nat.le_refl _|omega)
  have hwk:=hwk.step f (fun e=>absurd e.2 (by omega));have hW:=hW.step f (fun e=>absurd e.2 (by omega));have hL:=hL.step f (fun k hk e=>absurd e.2 (by have:=(hL.ge k hk).2;omega));have hC:=hC.step f (fun k hk e=>absurd e.2 (by have:=(hC.ge k hk).2;omega));have szD:=Ad szD f.size
  have o40:=z (.inl (by simp))
  rw[show(l.take xn).map AnT.cells++[(Value.agg y.cells.toArray).cells.toList]=(l.take (xn+1)).map AnT.cells from by rw[←Oo hy,List.map_append];rfl] at o40
  have hlt:((l.take (xn+1)).map AnT.cells).length=xn+1:=(by rw[Aj,List.length_take];omega)
  obtain⟨m,cap40,q,e40,F,k40,_,d,_⟩:=o40.has (by omega)
  rw[hlt] at e40 k40
  subst e40
  have A:m≠b:=by omega
  have g:m≠bW:=by omega
  have geG_40:w.heap.size≤m:=(by omega)
  refine Be (f.mono fun k _ e=>by have:=e.2;omega)<|Ci 22 rfl rfl<|Bl 23 rfl Lb rfl<|Aq 24 rfl<|Cg Nc rfl rfl rfl hW (by rw[Ag,Ag,hP];show P+15+1≤P+24+List.length post;omega) (by rfl) rfl (fun w5 z5 hW a5=>?_);have G:=G.trans (a5.mono fun k _ e=>.inr (e));have hwk:=hwk.upd a5 hne;have hL:=hL.updD a5 hMW;have hC:=hC.updD a5 hCW;have szD:=Ad szD a5.size;have d:=d.upd a5 g
  have hW:Has w5 bW (pre++((⟨st,op,seq,round,took,rc,some ⟨m,0,none⟩,xn+1,cap40,nx,ma,mn,mc⟩:WkP).cells)++post) _:=Du (mid:=(⟨st,op,seq,round,took,rc,xa,xn,xc,nx,ma,mn,mc⟩:WkP).cells) hW hP (by show 15+1≤24;decide)
  refine Cq rfl a5 (rfl)<|Cp<|Ab<|Ac<|Ev rfl mxo (by kernel_rfl)<|Cf rfl<|Aw (.nilCheck rfl)<|Aw (.field0 Cz rfl)<|Aw (.load1 Dy rfl (hwk.cell rfl))<|Aw (.nilCheck rfl)<|Aw (.field0 Lb rfl)<|Aw (.load1 Nc rfl (Fx (j:=15) hW hP rfl))<|Aw (.len Iv rfl)<|Cf rfl<|Aw (.nilCheck rfl)<|Aw (.field0 Fa rfl) ?_;refine Aw (.field0 Np rfl)<|Aw (.load1 Nc rfl (hwk.cell rfl))<|Aw (.len Iv rfl)<|Aw (.bin rfl rfl rfl)<|Dq (fun w6 s7=>Ab ?_);have G:=G.trans s7.agr;have hwk:=hwk.sub s7;have hW:=hW.sub s7;have hL:=hL.sub s7;have hC:=hC.sub s7;have d:=d.sub s7;refine An rfl (fun h8=>?_) (fun h8=>?_)
  ·
   have h57:((l.length:Nat):Int)≤((xn+1:Nat):Int):=h8
   refine Aa rfl<|Af rfl<|Ak (.nilCheck rfl)<|Av Cz rfl<|Ba Dy rfl hwk rfl<|Ak (.nilCheck rfl)<|Av Gn rfl<|Cg sh3 rfl rfl rfl hW (by rw[Ag,Ag,hP];show P+0+1≤P+24+List.length post;omega) (by rfl) rfl (fun w9 z9 hW a9=>?_);have G:=G.trans (a9.mono fun k _ e=>.inr (e));have hwk:=hwk.upd a9 hne;have hL:=hL.updD a9 hMW;have hC:=hC.updD a9 hCW;have d:=d.upd a9 g
   have hW:Has w9 bW (pre++((⟨6,op,seq,round,took,rc,some ⟨m,0,none⟩,xn+1,cap40,nx,ma,mn,mc⟩:WkP).cells)++post) _:=Du (mid:=(⟨st,op,seq,round,took,rc,some ⟨m,0,none⟩,xn+1,cap40,nx,ma,mn,mc⟩:WkP).cells) hW hP (by show 0+1≤24;decide)
   refine Ae ?_
   refine fun a ka=>⟨ka.defers,_,Dg (rs:=[]) (vs:=[]) ka rfl trivial,?_⟩
   exact⟨some ⟨m,0,none⟩,cap40,_,hwk,(by first|(rw[if_pos (by omega)];exact hW)|(rw[if_neg (by omega)];exact hW)),k40,d.ft.imp (fun v h=>Has.sl (extra:=q) h (Qs _)),By geG_40,G⟩
  ·
   have h57:¬((l.length:Nat):Int)≤((xn+1:Nat):Int):=h8
   refine Ao ?_
   refine fun a ka=>⟨ka.defers,_,Dg (rs:=[]) (vs:=[]) ka rfl trivial,?_⟩
   exact⟨some ⟨m,0,none⟩,cap40,_,hwk,(by first|(rw[if_pos (by omega)];exact hW)|(rw[if_neg (by omega)];exact hW)),k40,d.ft.imp (fun v h=>Has.sl (extra:=q) h (Qs _)),By geG_40,G⟩
 ·
  refine Bi Iv _ Tk rfl rfl rfl rfl rfl rfl rfl (fun D C o H p n=>?_)
  have B:w.heap.size≤D:=by rw[o];exact szD
  have E:=hwk.ne o
  have nW__39:=hW.ne o
  have s:=hL.neNew o;have t:=hC.neNew o
  have geG_39:=Gi G o
  have G:=G.trans n.agr;have hwk:=hwk.sub n;have hW:=hW.sub n;have hL:=hL.sub n;have hC:=hC.sub n;have szD:=Ad szD n.size;refine Be n.agr<|Aq 11 rfl<|Az rfl AI1 (ABd xn xa xc C hxc) ?_;rintro _ w10 ⟨rfl,s11⟩;have G:=G.trans s11.agr;have hwk:=hwk.sub s11;have hW:=hW.sub s11;have hL:=hL.sub s11;have hC:=hC.sub s11;have szD:=Ad szD s11.size;have p:=p.sub s11;refine Be s11.agr<|Aq 21 rfl ?_;have szG_40:=G.size
  have ltb_40:=hwk.lt
  have ltbW_40:=hW.lt
  have ltb_39_40:=p.lt
  refine De (base:=w10.heap.size) (rows:=(l.take xn).map AnT.cells) (news:=[_]) Iv Tk rfl rfl rfl rfl (.inr ⟨_,by rw[Aj,List.length_take,Nat.min_eq_left (Nat.le_of_lt hj)],hC.now,Qs _⟩) (Dr p) rfl (by intro r hr;rw[List.mem_singleton] at hr;subst hr;rfl) rfl (by(try simp only[Aj,Am,Ag,Al]);(rw[List.length_take];omega)) (by(try simp only[Aj,Am,Ag,Al]);(rw[List.length_take];omega)) (by omega) rfl rfl (fun J I hc_40 z f ob_40=>?_)
  have G:=AFg G f (by first|exact Nat.le_refl _|omega)
  have hwk:=hwk.step f (fun e=>absurd e.2 (by omega));have hW:=hW.step f (fun e=>absurd e.2 (by omega));have hL:=hL.step f (fun k hk e=>absurd e.2 (by have:=(hL.ge k hk).2;omega));have hC:=hC.step f (fun k hk e=>absurd e.2 (by have:=(hC.ge k hk).2;omega));have szD:=Ad szD f.size
  have o40:=z (.inl (by simp))
  rw[show(l.take xn).map AnT.cells++[(Value.agg y.cells.toArray).cells.toList]=(l.take (xn+1)).map AnT.cells from by rw[←Oo hy,List.map_append];rfl] at o40
  have hlt:((l.take (xn+1)).map AnT.cells).length=xn+1:=(by rw[Aj,List.length_take];omega)
  obtain⟨m,cap40,q,e40,F,k40,_,d,_⟩:=o40.has (by omega)
  rw[hlt] at e40 k40
  subst e40
  have A:m≠b:=by omega
  have g:m≠bW:=by omega
  have geG_40:w.heap.size≤m:=(by omega)
  refine Be (f.mono fun k _ e=>by have:=e.2;omega)<|Ci 22 rfl rfl<|Bl 23 rfl Lb rfl<|Aq 24 rfl<|Cg Nc rfl rfl rfl hW (by rw[Ag,Ag,hP];show P+15+1≤P+24+List.length post;omega) (by rfl) rfl (fun w12 z12 hW a12=>?_);have G:=G.trans (a12.mono fun k _ e=>.inr (e));have hwk:=hwk.upd a12 hne;have hL:=hL.updD a12 hMW;have hC:=hC.updD a12 hCW;have szD:=Ad szD a12.size;have d:=d.upd a12 g
  have hW:Has w12 bW (pre++((⟨st,op,seq,round,took,rc,some ⟨m,0,none⟩,xn+1,cap40,nx,ma,mn,mc⟩:WkP).cells)++post) _:=Du (mid:=(⟨st,op,seq,round,took,rc,xa,xn,xc,nx,ma,mn,mc⟩:WkP).cells) hW hP (by show 15+1≤24;decide)
  refine Cq rfl a12 (rfl)<|Cp<|Ab<|Ac<|Ev rfl mxo (by kernel_rfl)<|Cf rfl<|Aw (.nilCheck rfl)<|Aw (.field0 Cz rfl)<|Aw (.load1 Dy rfl (hwk.cell rfl))<|Aw (.nilCheck rfl)<|Aw (.field0 Lb rfl)<|Aw (.load1 Nc rfl (Fx (j:=15) hW hP rfl))<|Aw (.len Iv rfl)<|Cf rfl<|Aw (.nilCheck rfl)<|Aw (.field0 Fa rfl) ?_;refine Aw (.field0 Np rfl)<|Aw (.load1 Nc rfl (hwk.cell rfl))<|Aw (.len Iv rfl)<|Aw (.bin rfl rfl rfl)<|Dq (fun w13 s14=>Ab ?_);have G:=G.trans s14.agr;have hwk:=hwk.sub s14;have hW:=hW.sub s14;have hL:=hL.sub s14;have hC:=hC.sub s14;have d:=d.sub s14;refine An rfl (fun h15=>?_) (fun h15=>?_)
  ·
   have h57:((l.length:Nat):Int)≤((xn+1:Nat):Int):=h15
   refine Aa rfl<|Af rfl<|Ak (.nilCheck rfl)<|Av Cz rfl<|Ba Dy rfl hwk rfl<|Ak (.nilCheck rfl)<|Av Gn rfl<|Cg sh3 rfl rfl rfl hW (by rw[Ag,Ag,hP];show P+0+1≤P+24+List.length post;omega) (by rfl) rfl (fun w16 z16 hW a16=>?_);have G:=G.trans (a16.mono fun k _ e=>.inr (e));have hwk:=hwk.upd a16 hne;have hL:=hL.updD a16 hMW;have hC:=hC.updD a16 hCW;have d:=d.upd a16 g
   have hW:Has w16 bW (pre++((⟨6,op,seq,round,took,rc,some ⟨m,0,none⟩,xn+1,cap40,nx,ma,mn,mc⟩:WkP).cells)++post) _:=Du (mid:=(⟨st,op,seq,round,took,rc,some ⟨m,0,none⟩,xn+1,cap40,nx,ma,mn,mc⟩:WkP).cells) hW hP (by show 0+1≤24;decide)
   refine Ae ?_
   refine fun a ka=>⟨ka.defers,_,Dg (rs:=[]) (vs:=[]) ka rfl trivial,?_⟩
   exact⟨some ⟨m,0,none⟩,cap40,_,hwk,(by first|(rw[if_pos (by omega)];exact hW)|(rw[if_neg (by omega)];exact hW)),k40,d.ft.imp (fun v h=>Has.sl (extra:=q) h (Qs _)),By geG_40,G⟩
  ·
   have h57:¬((l.length:Nat):Int)≤((xn+1:Nat):Int):=h15
   refine Ao ?_
   refine fun a ka=>⟨ka.defers,_,Dg (rs:=[]) (vs:=[]) ka rfl trivial,?_⟩
   exact⟨some ⟨m,0,none⟩,cap40,_,hwk,(by first|(rw[if_pos (by omega)];exact hW)|(rw[if_neg (by omega)];exact hW)),k40,d.ft.imp (fun v h=>Has.sl (extra:=q) h (Qs _)),By geG_40,G⟩
set_option maxRecDepth 10000 in
set_option maxHeartbeats 1000000 in
theorem AG0(b:Nat)(u:UwP)(pre post:List Value)(hP:pre.length=u.P)(x:WkP)(n:Nat)(A:Ar)(hnn:u.wd.nn=A.nodes.length)(hfn:u.wd.fn=A.free.length)(hnc:A.nodes.length≤u.wd.nc)(hfc:A.free.length≤u.wd.fc)(v:Ver)(V:List Int)(hv:VerOk n A v (Pg V))(hm0:RowA A v.rt V)(l:List AnT)(hxn:x.an=l.length)(hln:l.length=n)(hlok:∀x∈l,x.ok)
  (k:Nat) (an:AnT) (hk:l[k]?=some an) (hp:Tm l v.ap=[(k:Int)]) (hb3:an.op.box=3) (hkd:an.op.kind=2∨an.op.kind=5) (hok:okP an.op) (hno:v.no<1099511627776) (hfr:V.length+2≤A.free.length) (hne:b≠u.b) (w:World) (hwk:Has w b u.cells 250) (hW:Has w u.b (pre++x.cells++post) 90)
  (M:Nat→Prop) (hA:Ft M (fun w=>ArR w u.wd.na u.wd.fa A) w) (hMb:∀k,M k→k≠b) (hMW:∀k,M k→k≠u.b) (MX:Nat→Prop) (hX:Ft MX (fun w=>RcR w x.rc v) w) (hXb:∀k,MX k→k≠b) (hXW:∀k,MX k→k≠u.b) (ML:Nat→Prop) (hL:Ft ML (fun w=>Sl w x.aa 5 (l.map AnT.cells)) w) (hLb:∀k,ML k→k≠b) (hLW:∀k,ML k→k≠u.b) :
  FC Tryz.prog 162 [.pointer (some ⟨b,0,none⟩)] w (fun _ w'=>∃B nb fb ncb fcb xr R ma mn mc C,Has w' b ({u with wd:={u.wd with na:=nb,nn:=B.nodes.length,nc:=ncb,fa:=fb,fn:=B.free.length,fc:=fcb}}:UwP).cells 250∧Has w' u.b (pre++({x with st:=7,nx:=xr,ma:=ma,mn:=mn,mc:=mc}:WkP).cells++post) 90∧B.nodes.length≤ncb∧B.free.length≤fcb∧NextP A v V an.op R B∧Ft C (fun w=>ArR w nb fb B∧RcR w xr (Uz v V k an R)) w'∧Up M w C∧Agr (fun k=>k=b∨k=u.b) w w'):=by
 obtain⟨⟨na,nn,nc,fa,fn,fc,tb,aa,ann,ac,wa,wn,wc⟩,kk,bW,P,now,ans,res⟩:=u
 simp only[] at hP hnn hfn hnc hfc hne hW hA hMW hXW hLW
 subst hnn hfn
 obtain⟨st,op,seq,round,took,rc,xa,xn,xc,nx,ma,mn,mc⟩:=x
 simp only[] at hxn hX hL
 subst hxn
 have hmost:=hm0.ok.most
 refine As Tryz.func162 rfl Tryz.ntmps162 rfl ?_
 have G:Agr (fun k=>k=b∨k=bW) w w:=Agr.refl _ _
 have S:=Ax w
 have hne':=hne.symm
 refine Ac<|Bs (fun k=>False) [26,27] w.heap.size 29 rfl rfl mxo (fun w1 s2=>?_)
 have hNN:∀k,((False)∨w.heap.size≤k)→w.heap.size≤k:=fun k e=>e.elim (fun e=>e.elim) (fun e=>Ad S.size e)
 have ent_S:=S.size
 have hN0:∀k,w.heap.size≤k→w.heap.size≤k:=fun k e=>Ad S.size e
 have ent_G:=G.size
 have ltD_b:=hwk.lt;have ltD_bW:=hW.lt
 have ltD_hA:=fun k hk=>(hA.ge k hk).2
 have ltD_hX:=fun k hk=>(hX.ge k hk).2
 have ltD_hL:=fun k hk=>(hL.ge k hk).2
 have szD:=Nat.le_refl w.heap.size;have G:=G.trans s2.agr;have hwk:=hwk.sub s2;have hW:=hW.sub s2;have hA:=hA.sub s2;have hX:=hX.sub s2;have hL:=hL.sub s2;have S:=S.trans s2;have szD:=Ad szD s2.size;refine Bp 0 rfl rfl<|Ci 1 rfl rfl<|Bl 2 rfl Fa rfl<|Bl 3 rfl Sf rfl<|Bg 4 rfl (fun w' s'=>.loadR ([.slice na A.nodes.length nc,.slice fa A.free.length fc]) Cb rfl (Ia (m1:=List.take 0 ((⟨⟨na,A.nodes.length,nc,fa,A.free.length,fc,tb,aa,ann,ac,wa,wn,wc⟩,kk,bW,P,now,ans,res⟩:UwP).cells)) (m2:=[.slice na A.nodes.length nc,.slice fa A.free.length fc]) (m3:=List.drop 2 ((⟨⟨na,A.nodes.length,nc,fa,A.free.length,fc,tb,aa,ann,ac,wa,wn,wc⟩,kk,bW,P,now,ans,res⟩:UwP).cells)) (hwk.step s' (nE id ltD_b)) rfl) rfl)<|Bp 5 rfl rfl<|Ci 6 rfl rfl<|Bl 7 rfl Cz rfl<|Ck 8 rfl Dy rfl hwk (nE id ltD_b) rfl<|Ci 9 rfl rfl<|Bl 10 rfl Qb rfl<|Bg 11 rfl (fun w' s'=>.loadR (rc.cells) Fs rfl (ACH (m1:=List.take 8 ((⟨st,op,seq,round,took,rc,xa,l.length,xc,nx,ma,mn,mc⟩:WkP).cells)) (m2:=rc.cells) (m3:=List.drop 15 ((⟨st,op,seq,round,took,rc,xa,l.length,xc,nx,ma,mn,mc⟩:WkP).cells)) (hW.step s' (nE id ltD_bW)) hP rfl) rfl)<|Bp 12 rfl rfl<|Ci 13 rfl rfl<|Bl 14 rfl Cz rfl<|Ck 15 rfl Dy rfl hwk (nE id ltD_b) rfl ?_;refine Ci 16 rfl rfl<|Bl 17 rfl Lb rfl<|Bg 18 rfl (fun w' s'=>.load1 Nc rfl (Fx (j:=15) (hW.step s' (nE id ltD_bW)) hP rfl))<|Qf 10 (M) 19 [20,21,22,23,28] [⟨24,26,26,[.slice none 0 0,.slice none 0 0],fun u=>(Gy (u) 0).cells.toList⟩,⟨25,27,77,[.int .i64 0,.int .u64 0,.int .u64 0,.int .u64 0,.int .u64 0,.slice none 0 0,.slice none 0 0],fun u=>(Gy (u) 1).cells.toList⟩] (ACA [(20,[19]),(21,[20,19]),(22,[20,19]),(23,[20,19]),(26,[21,24,19]),(27,[22,25,19]),(28,[23,19])]) (AB9 [(21,0),(22,1),(23,2),(28,2)]) (fun v' C I=>∃B nb fb ncb fcb xr R,(B.nodes.length≤ncb∧B.free.length≤fcb∧NextP A v V an.op R B)∧v'=.tuple #[arV nb fb ncb fcb B,xr.val,.int .i64 0]∧I=(fun w=>ArR w nb fb B∧RcR w xr (Uz v V k an R))) [] (fun _=>fun _ _=>True) (by kernel_rfl) (by kernel_rfl) rfl rfl (by kernel_rfl) (by decide) szD ltD_hA (by decide) (by decide) (fun _=>rfl) (fun _ _ _ _ _ _=>trivial) (fun i0 hi0 o0 ho0 vals wc sc hp0=>?_) (by decide) (by decide) (fun o0 ho0 vals wc sc hp0=>?_) (fun i0 hi0 o0 ho0 vals wc hd0 hq0=>?_) (fun j0 hj0 o0 ho0 F0 wc=>?_) (fun j0 hj0 o0 ho0 vals wc b0 hb0 hd0 hq0 hh0=>?_) (fun vals wg C_ I_ sg hQ hF_ hup_ hps_ hjs_ hdis_=>?_)
 ·cases hi0
 ·cases ho0
  refine Gd rfl ALd (AJ9 n A na fa nc fc hnc hfc rc v V hv hm0 l xa xc hln hlok k an hk hp hb3 hkd hok hno hfr M wc (hA.sub sc) (hX.sub sc).now (hL.sub sc).now) rfl ?_
  rintro u_ w_ ⟨s2,B,nb,fb,ncb,fcb,xr,R,C1,rfl,g1,g2,g3,g4,up2⟩
  exact⟨s2,C1,_,⟨B,nb,fb,ncb,fcb,xr,R,⟨g1,g2,g3⟩,rfl,rfl⟩,g4,up2⟩
 ·obtain⟨_,_,hq0⟩:=hq0
  obtain⟨B,nb,fb,ncb,fcb,xr,R,⟨hnB,hfB,hNP⟩,hu,rfl⟩:=hq0
  simp only[List.mem_cons,List.not_mem_nil,or_false] at hi0
  rcases hi0 with rfl|rfl|rfl|rfl|rfl<;>cases ho0
  ·show OpRun _ _ _ ((27,vals 19)::_) _ _
   rw[hu]
   exact Dz (.move rfl) rfl ⟨rfl,rfl⟩
  ·have e0:=hd0 20 (by decide);show OpRun _ _ _ ((7,vals 20)::_) _ _
   rw[e0,hu]
   exact Dz (.extract rfl rfl) rfl ⟨rfl,rfl⟩
  ·have e0:=hd0 20 (by decide);show OpRun _ _ _ ((7,vals 20)::_) _ _
   rw[e0,hu]
   exact Dz (.extract rfl rfl) rfl ⟨rfl,rfl⟩
  ·have e0:=hd0 20 (by decide);show OpRun _ _ _ ((7,vals 20)::_) _ _
   rw[e0,hu]
   exact Dz (.extract rfl rfl) rfl ⟨rfl,rfl⟩
  ·have e0:=hd0 23 (by decide);show OpRun _ _ _ ((30,vals 23)::_) _ _
   rw[e0,hu]
   exact Dz (.assign rfl) rfl ⟨rfl,rfl⟩
 ·simp only[List.mem_cons,List.not_mem_nil,or_false] at hj0
  rcases hj0 with rfl|rfl<;>cases ho0
  ·exact Fi Fy rfl
  ·exact Fi Gx rfl
 ·obtain⟨_,_,hq0⟩:=hq0
  obtain⟨B,nb,fb,ncb,fcb,xr,R,⟨hnB,hfB,hNP⟩,hu,rfl⟩:=hq0
  simp only[List.mem_cons,List.not_mem_nil,or_false] at hj0
  rcases hj0 with rfl|rfl<;>cases ho0
  ·have e0:=hd0 21 (by decide) (by decide);have hb0:vals 24=.pointer (some ⟨b0,0,none⟩):=hb0
   show OpRun _ _ _ ((28,vals 21)::(2,vals 24)::(27,vals 19)::_) _ _
   rw[e0,hb0,hu]
   exact Fh Cb rfl rfl rfl hh0 rfl rfl
  ·have e0:=hd0 22 (by decide) (by decide);have hb0:vals 25=.pointer (some ⟨b0,0,none⟩):=hb0
   show OpRun _ _ _ ((29,vals 22)::(3,vals 25)::(27,vals 19)::_) _ _
   rw[e0,hb0,hu]
   exact Fh Fs rfl rfl rfl hh0 rfl rfl
 obtain⟨B,nb,fb,ncb,fcb,xr,R,⟨hnB,hfB,hNP⟩,hu,rfl⟩:=hQ
 have p_20:vals 20=_:=hps_ 20 (by decide)
 have p_21:vals 21=_:=hps_ 21 (by decide)
 have p_22:vals 22=_:=hps_ 22 (by decide)
 have p_23:vals 23=_:=hps_ 23 (by decide)
 have p_28:vals 28=_:=hps_ 28 (by decide)
 obtain⟨b_2,v_2,fr_b_2,hb_2,nc_2⟩:∃b,vals 24=.pointer (some ⟨b,0,none⟩)∧w1.heap.size≤b∧Has wg b ((Gy (vals 19) 0)).cells.toList 26∧¬C_ b:=hjs_ _ (.head _)
 rw[hu] at hb_2
 obtain⟨b_3,v_3,fr_b_3,hb_3,nc_3⟩:∃b,vals 25=.pointer (some ⟨b,0,none⟩)∧w1.heap.size≤b∧Has wg b ((Gy (vals 19) 1)).cells.toList 77∧¬C_ b:=hjs_ _ (.tail _ (.head _))
 rw[hu] at hb_3
 have mb_2b_3:b_2≠b_3:=fun e=>hdis_ _ (.head _) _ (.tail _ (.head _)) (by decide) b_2 v_2 (by rw[e];exact v_3)
 show RD _ _ _ _ _ _ _ _ ((27,vals 19)::(7,vals 20)::(28,vals 21)::(29,vals 22)::(30,vals 23)::(4,vals 28)::(2,vals 24)::(3,vals 25)::_) _ _
 rw[p_20,p_21,p_22,p_23,p_28,v_2,v_3,hu]
 have fr_b_2:=Ad szD fr_b_2;have ge_2:=hN0 _ fr_b_2
 have geG_2:=Ad ent_G fr_b_2
 have fr_b_3:=Ad szD fr_b_3;have ge_3:=hN0 _ fr_b_3
 have geG_3:=Ad ent_G fr_b_3
 have d_hN_b:=Di hup_ hMb ltD_b;have d_hN_bW:=Di hup_ hMW ltD_bW
 have hN:=hF_
 have d_hN_b_2:∀k,C_ k→k≠b_2:=fun k hk e=>nc_2 (e▸hk)
 have d_hN_b_3:∀k,C_ k→k≠b_3:=fun k hk e=>nc_3 (e▸hk)
 have nb_2_b:b_2≠b:=by omega
 have nb_2_bW:b_2≠bW:=by omega
 have d_hA_b_2:=fun k hk (e:k=b_2)=>(by have:=ltD_hA k hk;omega:False)
 have d_hX_b_2:=fun k hk (e:k=b_2)=>(by have:=ltD_hX k hk;omega:False)
 have d_hL_b_2:=fun k hk (e:k=b_2)=>(by have:=ltD_hL k hk;omega:False)
 have nb_3_b:b_3≠b:=by omega
 have nb_3_bW:b_3≠bW:=by omega
 have d_hA_b_3:=fun k hk (e:k=b_3)=>(by have:=ltD_hA k hk;omega:False)
 have d_hX_b_3:=fun k hk (e:k=b_3)=>(by have:=ltD_hX k hk;omega:False)
 have d_hL_b_3:=fun k hk (e:k=b_3)=>(by have:=ltD_hL k hk;omega:False)
 have G:=G.trans sg.agr;have hwk:=hwk.sub sg;have hW:=hW.sub sg;have hA:=hA.sub sg;have hX:=hX.sub sg;have hL:=hL.sub sg;have S:=S.trans sg;have szD:=Ad szD sg.size
 have upN:Up M w C_:=fun k hk=>(hup_ k hk).imp id (fun h=>Ad ent_S h)
 have hBl:=hNP.len
 refine Cp<|Ab<|Ac<|Ac<|Aa rfl<|Af rfl<|Ak (.nilCheck rfl)<|Av Cz rfl<|Ba Dy rfl hwk rfl<|Ak (.nilCheck rfl)<|Av Gn rfl<|Cg sh3 rfl rfl rfl hW (by rw[Ag,Ag,hP];show P+0+1≤P+24+List.length post;omega) (by rfl) rfl (fun w3 z3 hW a3=>?_);have G:=G.trans (a3.mono fun k _ e=>.inr (e));have hwk:=hwk.upd a3 hne;have hA:=hA.updD a3 hMW;have hb_2:=hb_2.upd a3 nb_2_bW;have hb_3:=hb_3.upd a3 nb_3_bW;have hN:=hN.updD a3 d_hN_bW
 have hW:Has w3 bW (pre++((⟨8,op,seq,round,took,rc,xa,l.length,xc,nx,ma,mn,mc⟩:WkP).cells)++post) _:=Du (mid:=(⟨st,op,seq,round,took,rc,xa,l.length,xc,nx,ma,mn,mc⟩:WkP).cells) hW hP (by show 0+1≤24;decide)
 refine Ae<|Ab<|Ac<|Aa rfl<|Af rfl<|Ak (.as (v':=.bool false) (.bin rfl rfl rfl) (Bt (fun h=>h rfl)))<|Ae<|Ab<|Bw rfl<|Ao<|Ab<|Ac<|Aa rfl<|Af rfl<|Ak (.nilCheck rfl)<|Av Cz rfl ?_;refine Ba Dy rfl hwk rfl<|Ak (.nilCheck rfl)<|Av Vi rfl<|Cg El rfl rfl rfl hW (by rw[Ag,Ag,hP];show P+23+1≤P+24+List.length post;omega) (by rfl) rfl (fun w4 z4 hW a4=>?_);have G:=G.trans (a4.mono fun k _ e=>.inr (e));have hwk:=hwk.upd a4 hne;have hA:=hA.updD a4 hMW;have hb_2:=hb_2.upd a4 nb_2_bW;have hb_3:=hb_3.upd a4 nb_3_bW;have hN:=hN.updD a4 d_hN_bW
 have hW:Has w4 bW (pre++((⟨8,op,seq,round,took,rc,xa,l.length,xc,nx,none,0,0⟩:WkP).cells)++post) _:=Du (mid:=(⟨8,op,seq,round,took,rc,xa,l.length,xc,nx,ma,mn,mc⟩:WkP).cells) hW hP (by show 23+1≤24;decide)
 refine Ae<|Ab<|Ac<|Ac<|Aa rfl<|Av Et rfl<|Ba Jj rfl hb_2 rfl<|Cm Ig rfl<|Af rfl<|Ae<|Ab<|Bh<|Cw (α:=Nat × Option Addr × Nat × Nat × List Int) (fun x=>[(0,.pointer (some ⟨b,0,none⟩)),(2,.pointer (some ⟨b_2,0,none⟩)),(3,.pointer (some ⟨b_3,0,none⟩)),(4,.int .i64 0),(46,.slice nb B.nodes.length ncb),(47,.int .i64 (B.nodes.length:Int)),(48,.int .i64 (x.1:Int))]) (fun x w5=>(x.1≤B.nodes.length∧x.2.2.2.2.length≤x.1)∧Ows w.heap.size w5 3 1 (.slice x.2.1 x.2.2.1 x.2.2.2.1) (x.2.2.2.2.map fun x=>[i6 x])∧Has w5 b (⟨⟨na,A.nodes.length,nc,fa,A.free.length,fc,tb,aa,ann,ac,wa,wn,wc⟩,kk,bW,P,now,ans,res⟩:UwP).cells 250∧Has w5 bW (pre++(⟨8,op,seq,round,took,rc,xa,l.length,xc,nx,x.2.1,x.2.2.1,x.2.2.2.1⟩:WkP).cells++post) 90∧Has w5 b_2 [.slice nb B.nodes.length ncb,.slice fb B.free.length fcb] 26∧Has w5 b_3 xr.cells 77∧Ft C_ (fun w=>ArR w nb fb B∧RcR w xr (Uz v V k an R)) w5∧Ft M (fun w=>ArR w na fa A) w5∧Agr (fun k=>k=b∨k=bW) w w5∧(∀k,ob (.slice x.2.1 x.2.2.1 x.2.2.2.1)=some k→k≠b)∧(∀k,ob (.slice x.2.1 x.2.2.1 x.2.2.2.1)=some k→k≠bW)∧(∀k,ob (.slice x.2.1 x.2.2.1 x.2.2.2.1)=some k→k≠b_2)∧(∀k,ob (.slice x.2.1 x.2.2.1 x.2.2.2.1)=some k→k≠b_3)∧(∀k,ob (.slice x.2.1 x.2.2.1 x.2.2.2.1)=some k→C_ k→False)∧(∀k,ob (.slice x.2.1 x.2.2.1 x.2.2.2.1)=some k→M k→False)) (fun x=>B.nodes.length-x.1) (0,none,0,0,[]) (Bf (by repeat (first|exact trivial|refine And.intro rfl ?_))) (⟨⟨Nat.zero_le _,Nat.zero_le _⟩,Ows.nil _ _ _ _,hwk,hW,hb_2,hb_3,hN,hA,G,fun k hk=>(by cases hk),fun k hk=>(by cases hk),fun k hk=>(by cases hk),fun k hk=>(by cases hk),fun k hk _=>(by cases hk),fun k hk _=>(by cases hk)⟩) (fun x w5 hJ=>?_)
 obtain⟨i,ao,mo,co,mk⟩:=x;obtain⟨⟨hi,hml⟩,o,hwk,hW,hb_2,hb_3,hN,hA,G,dob,dobW,do2,do3,doN,doA⟩:=hJ;simp only[] at hi hml o hW dob dobW do2 do3 doN doA;obtain hmo:=o.sl.2;rw[Aj] at hmo;subst hmo
 refine Ac<|Aa rfl<|Bc rfl rfl rfl<|Ae<|Ab<|Ac<|An rfl (fun h6=>?_) (fun h6=>?_)
 ·
  obtain⟨z,hz⟩:=Ce (l:=B.nodes) (i:=i) (by omega)
  obtain⟨z0,hz0⟩:=Ce (l:=A.nodes) (i:=i) (by omega)
  refine Ao<|Ab<|Ac<|Bh<|Ac<|Aa rfl<|Af rfl<|Ak (.indexS Ig rfl rfl (by omega) (hN.now.1.nodes.is (i:=0) (by simp only[Aj,Al,Am];omega)))<|Ak (.loadR (z.cells) Ct rfl (hN.now.1.nodes.rowAt (enc:=Node.cells) (i:=i) hz) rfl)<|Ay Dx rfl rfl (fun b_6 w_6 e_6 z_6 hb_6 s_6=>?_);have n__6:=hwk.ne e_6
  have nW__6:=hW.ne e_6
  have n_2__6:=hb_2.ne e_6;have n_3__6:=hb_3.ne e_6;have d_o_b_6:=o.neNew e_6;have d_hN_b_6:=hN.neNew e_6;have d_hA_b_6:=hA.neNew e_6
  have geG_6:=Gi G e_6
  have G:=G.trans s_6.agr;have o:=o.sub s_6;have hwk:=hwk.sub s_6;have hW:=hW.sub s_6;have hb_2:=hb_2.sub s_6;have hb_3:=hb_3.sub s_6;have hN:=hN.sub s_6;have hA:=hA.sub s_6;refine Ah rfl<|At Ct rfl rfl rfl hb_6 (fun w7 z7 hb_6 a7=>?_)
  have G:=Dv G a7 geG_6
  have o:=o.updD a7 d_o_b_6;have hwk:=hwk.upd a7 n__6;have hW:=hW.upd a7 nW__6;have hb_2:=hb_2.upd a7 n_2__6;have hb_3:=hb_3.upd a7 n_3__6;have hN:=hN.updD a7 d_hN_b_6;have hA:=hA.updD a7 d_hA_b_6
  have hb_6:Has w7 b_6 (z.cells) _:=hb_6.now (by kernel_rfl)
  refine Ae<|Ab<|Ac<|Aa rfl<|Av Es rfl<|Ba sh3 rfl hb_6 rfl<|Bc rfl rfl rfl<|Af rfl<|Bn 56 rfl (fun h8=>?_) (fun h8=>?_)
  ·
   refine Af rfl<|Ak (.nilCheck rfl)<|Av Fa rfl<|Av Sf rfl<|Av Et rfl<|Ba Jj rfl hwk rfl<|Af rfl<|Ak (.indexS Ig rfl rfl (by show 0≤((i:Nat):Int)∧((i:Nat):Int)<((A.nodes.length:Nat):Int);omega) (hA.now.nodes.is (i:=0) (by simp only[Aj,Al,Am];omega)))<|Ak (.fieldA Es rfl)<|Ak (.load1 sh3 rfl (hA.now.nodes.rowAt (enc:=Node.cells) (i:=i) hz0 0 _ rfl))<|Bc rfl rfl rfl<|Br rfl rfl<|Ae<|Ab<|An rfl (fun h9=>?_) (fun h9=>?_)
   ·
    refine Bs (fun k=>k=bW∨ob (.slice ao mk.length co)=some k) [16,13] w7.heap.size 17 rfl rfl mxo (fun w10 s11=>?_)
    have ent_G:=G.size
    have ltD_o:=fun k hk=>(o.ge k hk).2
    have ltD_b:=hwk.lt;have ltD_bW:=hW.lt;have ltD_b_2:=hb_2.lt;have ltD_b_3:=hb_3.lt
    have ltD_hN:=fun k hk=>(hN.ge k hk).2
    have ltD_hA:=fun k hk=>(hA.ge k hk).2
    have ltD_b_6:=hb_6.lt;have szD:=Nat.le_refl w7.heap.size;have G:=G.trans s11.agr;have o:=o.sub s11;have hwk:=hwk.sub s11;have hW:=hW.sub s11;have hb_2:=hb_2.sub s11;have hb_3:=hb_3.sub s11;have hN:=hN.sub s11;have hA:=hA.sub s11;have hb_6:=hb_6.sub s11;have szD:=Ad szD s11.size;refine Bp 0 rfl rfl<|Ci 1 rfl rfl<|Bl 2 rfl Cz rfl<|Ck 3 rfl Dy rfl hwk (fun e=>e.elim (fun e=>e.elim (fun e=>hne e) (fun e=>dob _ e rfl)) (Nat.not_le.2 ltD_b)) rfl<|Bp 4 rfl rfl<|Ci 5 rfl rfl<|Bl 6 rfl Cz rfl<|Ck 7 rfl Dy rfl hwk (fun e=>e.elim (fun e=>e.elim (fun e=>hne e) (fun e=>dob _ e rfl)) (Nat.not_le.2 ltD_b)) rfl<|Ci 8 rfl rfl<|Bl 9 rfl Vi rfl<|Fq 10 rfl (by kernel_rfl) (by kernel_rfl) (by kernel_rfl) (by kernel_rfl) (fun w' s'=>.load1 El rfl (Fx (j:=23) (hW.step s' (Nat.not_le.2 ltD_bW)) hP rfl)) rfl rfl<|Bp 11 rfl rfl<|Aq 12 rfl<|Bi Dd _ ze3 rfl rfl rfl rfl rfl rfl rfl (fun b_81 w_81 e_81 z_81 hb_81 s_81=>?_)
    have fr_b_81:w7.heap.size≤b_81:=by rw[e_81];exact szD
    have n__81:=hwk.ne e_81
    have nW__81:=hW.ne e_81
    have n_2__81:=hb_2.ne e_81;have n_3__81:=hb_3.ne e_81;have n_6__81:=hb_6.ne e_81;have d_o_b_81:=o.neNew e_81;have d_hN_b_81:=hN.neNew e_81;have d_hA_b_81:=hA.neNew e_81
    have geG_81:=Gi G e_81
    have G:=G.trans s_81.agr;have o:=o.sub s_81;have hwk:=hwk.sub s_81;have hW:=hW.sub s_81;have hb_2:=hb_2.sub s_81;have hb_3:=hb_3.sub s_81;have hN:=hN.sub s_81;have hA:=hA.sub s_81;have hb_6:=hb_6.sub s_81;have szD:=Ad szD s_81.size;refine Be s_81.agr<|Aq 13 rfl ?_;have szG_82:=G.size
    have ltb_82:=hwk.lt
    have ltbW_82:=hW.lt
    have ltb_2_82:=hb_2.lt
    have ltb_3_82:=hb_3.lt
    have ltb_6_82:=hb_6.lt
    have ltb_81_82:=hb_81.lt
    refine De (base:=w.heap.size) (rows:=mk.map fun x=>[i6 x]) (news:=[_]) Dd ze3 rfl rfl rfl rfl (.inl o) (Dr hb_81) rfl (by intro r hr;rw[List.mem_singleton] at hr;subst hr;rfl) rfl (by(try simp only[Aj,Am,Ag,Al]);omega) (by(try simp only[Aj,Am,Ag,Al]);omega) (by omega) rfl rfl (fun v_82 w_82 hc_82 ho_82 ag_82 ob_82=>?_)
    have o82:=ho_82 (.inl (by simp))
    rw[show _++[_]=((mk++[(i:Int)]).map fun x=>[i6 x]) from by rw[List.map_append];rfl] at o82
    have d_o82_b:=Ng ob_82 dob hwk.lt;have d_o82_bW:=Ng ob_82 dobW hW.lt;have d_o82_b_2:=Ng ob_82 do2 hb_2.lt;have d_o82_b_3:=Ng ob_82 do3 hb_3.lt;have dd_o82_hN:=AHb ob_82 doN (fun k hk=>(hN.ge k hk).2);have dd_o82_hA:=AHb ob_82 doA (fun k hk=>(hA.ge k hk).2);have d_o82_b_6:=Ng ob_82 d_o_b_6 hb_6.lt
    have G:=AFg G ag_82 (by first|exact Nat.le_refl _|omega)
    have hwk:=hwk.step ag_82 (fun e=>dob _ e.1 rfl);have hW:=hW.step ag_82 (fun e=>dobW _ e.1 rfl);have hb_2:=hb_2.step ag_82 (fun e=>do2 _ e.1 rfl);have hb_3:=hb_3.step ag_82 (fun e=>do3 _ e.1 rfl);have hN:=hN.step ag_82 (fun k hk e=>doN k e.1 hk);have hA:=hA.step ag_82 (fun k hk e=>doA k e.1 hk);have hb_6:=hb_6.step ag_82 (fun e=>d_o_b_6 _ e.1 rfl);have szD:=Ad szD ag_82.size
    obtain⟨a_82,c_82,rfl,k_82⟩:=o82.form
    refine Cv rfl (ag_82.mono fun k _ e=>.inl (.inr (e.1)))<|Ci 14 rfl rfl<|Bl 15 rfl Vi rfl<|Aq 16 rfl<|Cg El rfl rfl rfl hW (by rw[Ag,Ag,hP];show P+23+1≤P+24+List.length post;omega) (by rfl) rfl (fun w12 z12 hW a12=>?_);have G:=G.trans (a12.mono fun k _ e=>.inr (e));have hwk:=hwk.upd a12 hne;have hb_2:=hb_2.upd a12 nb_2_bW;have hb_3:=hb_3.upd a12 nb_3_bW;have hN:=hN.updD a12 d_hN_bW;have hA:=hA.updD a12 hMW;have hb_6:=hb_6.upd a12 nW__6.symm;have szD:=Ad szD a12.size;have o82:=o82.updD a12 d_o82_bW
    have hW:Has w12 bW (pre++((⟨8,op,seq,round,took,rc,xa,l.length,xc,nx,a_82,((mk++[(i:Int)]).map fun x=>[i6 x]).length,c_82⟩:WkP).cells)++post) _:=Du (mid:=(⟨8,op,seq,round,took,rc,xa,l.length,xc,nx,ao,mk.length,co⟩:WkP).cells) hW hP (by show 23+1≤24;decide)
    refine Cq rfl a12 (.inl rfl)<|Cp<|Ab<|Aa rfl<|Ak (.as (.bin rfl rfl rfl) (Cs (y:=((i+1:Nat):Int)) (by omega) (by omega)))<|Af rfl ?_
    exact Ae (fun a ka=>⟨(i+1,a_82,_,c_82,mk++[(i:Int)]),⟨⟨by omega,by simp only[Ag,List.length_singleton];omega⟩,o82,hwk,hW,hb_2,hb_3,hN,hA,G,d_o82_b,d_o82_bW,d_o82_b_2,d_o82_b_3,dd_o82_hN,dd_o82_hA⟩,by omega,ka.keep (Bf (by repeat (first|exact trivial|refine And.intro rfl ?_)))⟩)
   ·
    refine Ao<|Ab<|Aa rfl<|Ak (.as (.bin rfl rfl rfl) (Cs (y:=((i+1:Nat):Int)) (by omega) (by omega)))<|Af rfl ?_
    exact Ae (fun a ka=>⟨(i+1,ao,mk.length,co,mk),⟨⟨by omega,by simp only[];omega⟩,o,hwk,hW,hb_2,hb_3,hN,hA,G,dob,dobW,do2,do3,doN,doA⟩,by omega,ka.keep (Bf (by repeat (first|exact trivial|refine And.intro rfl ?_)))⟩)
  ·
   refine Bd 11 rfl<|Bq rfl rfl<|Ae<|Ab<|Bw rfl<|Ao<|Ab<|Aa rfl<|Ak (.as (.bin rfl rfl rfl) (Cs (y:=((i+1:Nat):Int)) (by omega) (by omega)))<|Af rfl ?_
   exact Ae (fun a ka=>⟨(i+1,ao,mk.length,co,mk),⟨⟨by omega,by simp only[];omega⟩,o,hwk,hW,hb_2,hb_3,hN,hA,G,dob,dobW,do2,do3,doN,doA⟩,by omega,ka.keep (Bf (by repeat (first|exact trivial|refine And.intro rfl ?_)))⟩)
 ·
  refine Co rfl<|Ab<|Bs (fun k=>k=b∨k=bW) [14,17,20] w5.heap.size 21 rfl rfl mxo (fun w13 s14=>?_)
  have ent_G:=G.size
  have ltD_o:=fun k hk=>(o.ge k hk).2
  have ltD_b:=hwk.lt;have ltD_bW:=hW.lt;have ltD_b_2:=hb_2.lt;have ltD_b_3:=hb_3.lt
  have ltD_hN:=fun k hk=>(hN.ge k hk).2
  have ltD_hA:=fun k hk=>(hA.ge k hk).2
  have szD:=Nat.le_refl w5.heap.size;have G:=G.trans s14.agr;have o:=o.sub s14;have hwk:=hwk.sub s14;have hW:=hW.sub s14;have hb_2:=hb_2.sub s14;have hb_3:=hb_3.sub s14;have hN:=hN.sub s14;have hA:=hA.sub s14;have szD:=Ad szD s14.size;refine Bp 0 rfl rfl<|Bp 1 rfl rfl<|Ci 2 rfl rfl<|Bl 3 rfl Cz rfl<|Fq 4 rfl (by kernel_rfl) (by kernel_rfl) (by kernel_rfl) (by kernel_rfl) (fun w' s'=>.load1 Dy rfl ((hwk.step s' (Nat.not_le.2 ltD_b)).cell rfl)) rfl rfl<|Bp 5 rfl rfl<|Ci 6 rfl rfl<|Bl 7 rfl Cz rfl<|Fq 8 rfl (by kernel_rfl) (by kernel_rfl) (by kernel_rfl) (by kernel_rfl) (fun w' s'=>.load1 Dy rfl ((hwk.step s' (Nat.not_le.2 ltD_b)).cell rfl)) rfl rfl<|Bg 9 rfl (fun w' s'=>.loadR ([.slice nb B.nodes.length ncb,.slice fb B.free.length fcb]) Cb rfl (hb_2.step s' (nE (nO nb_2_b nb_2_bW) ltD_b_2)).row rfl)<|Bg 10 rfl (fun w' s'=>.loadR (xr.cells) Fs rfl (hb_3.step s' (nE (nO nb_3_b nb_3_bW) ltD_b_3)).row rfl)<|Ci 11 rfl rfl<|Bl 12 rfl Fa rfl<|Bl 13 rfl Sf rfl<|Aq 14 rfl<|At Cb rfl rfl rfl hwk (fun w15 z15 hwk a15=>?_);have G:=G.trans (a15.mono fun k _ e=>.inl e);have o:=o.updD a15 dob;have hW:=hW.upd a15 hne';have hb_2:=hb_2.upd a15 nb_2_b;have hb_3:=hb_3.upd a15 nb_3_b;have hN:=hN.updD a15 d_hN_b;have hA:=hA.updD a15 hMb;have szD:=Ad szD a15.size
  have hwk:Has w15 b ((⟨⟨nb,B.nodes.length,ncb,fb,B.free.length,fcb,tb,aa,ann,ac,wa,wn,wc⟩,kk,bW,P,now,ans,res⟩:UwP).cells) _:=hwk.eqc (by kernel_rfl)
  refine Cq rfl a15 (.inl rfl)<|Ci 15 rfl rfl<|Bl 16 rfl AAK rfl<|Aq 17 rfl<|Cg Fs rfl rfl rfl hW (by rw[Ag,Ag,hP];show P+16+7≤P+24+List.length post;omega) (by rfl) rfl (fun w16 z16 hW a16=>?_);have G:=G.trans (a16.mono fun k _ e=>.inr (e));have o:=o.updD a16 dobW;have hwk:=hwk.upd a16 hne;have hb_2:=hb_2.upd a16 nb_2_bW;have hb_3:=hb_3.upd a16 nb_3_bW;have hN:=hN.updD a16 d_hN_bW;have hA:=hA.updD a16 hMW;have szD:=Ad szD a16.size
  have hW:Has w16 bW (pre++((⟨8,op,seq,round,took,rc,xa,l.length,xc,xr,ao,mk.length,co⟩:WkP).cells)++post) _:=Du (mid:=(⟨8,op,seq,round,took,rc,xa,l.length,xc,nx,ao,mk.length,co⟩:WkP).cells) hW hP (by show 16+7≤24;decide)
  refine Cq rfl a16 (.inr (rfl))<|Ci 18 rfl rfl<|Bl 19 rfl Gn rfl<|Aq 20 rfl<|Cg sh3 rfl rfl rfl hW (by rw[Ag,Ag,hP];show P+0+1≤P+24+List.length post;omega) (by rfl) rfl (fun w17 z17 hW a17=>?_);have G:=G.trans (a17.mono fun k _ e=>.inr (e));have o:=o.updD a17 dobW;have hwk:=hwk.upd a17 hne;have hb_2:=hb_2.upd a17 nb_2_bW;have hb_3:=hb_3.upd a17 nb_3_bW;have hN:=hN.updD a17 d_hN_bW;have hA:=hA.updD a17 hMW;have szD:=Ad szD a17.size
  have hW:Has w17 bW (pre++((⟨7,op,seq,round,took,rc,xa,l.length,xc,xr,ao,mk.length,co⟩:WkP).cells)++post) _:=Du (mid:=(⟨8,op,seq,round,took,rc,xa,l.length,xc,xr,ao,mk.length,co⟩:WkP).cells) hW hP (by show 0+1≤24;decide)
  refine Cq rfl a17 (.inr (rfl))<|Fb (by kernel_rfl) ?_
  refine fun a ka=>⟨ka.defers,_,Dg (rs:=[]) (vs:=[]) ka rfl trivial,?_⟩
  exact⟨B,nb,fb,ncb,fcb,xr,R,ao,mk.length,co,C_,hwk,hW,hnB,hfB,hNP,hN,upN,G⟩
set_option maxRecDepth 10000 in
theorem AJ0(b:Nat)(u:UwP)(pre post:List Value)(hP:pre.length=u.P)(x:WkP)(heq:u.now.no=x.rc.no)(h1:1≤u.wd.tb.rn∧u.wd.tb.rn<64)(h2:u.wd.tb.sn=8)(xs:List RcP)(hn:u.wd.tb.rn=xs.length)(hcap:xs.length≤u.wd.tb.rc)(x0:RcP)(hx0:xs[xs.length-1]?=some x0)(hno:x.nx.no=x0.no+1)(hx64:0≤x0.no∧x0.no<1099511627776)(hne:b≠u.b)(w:World)(hwk:Has w b u.cells 250)(hW:Has w u.b (pre++x.cells++post) 90)(M:Nat→Prop)(hL:Ft M (fun w=>Sl w u.wd.tb.ra 7 (xs.map RcP.cells)) w)(hMb:∀k,M k→k≠b)(hMW:∀k,M k→k≠u.b):
  FC Tryz.prog 163 [.pointer (some ⟨b,0,none⟩)] w (fun _ w'=>∃a c C,Has w' b ({u with wd:={u.wd with tb:={u.wd.tb with ra:=a,rn:=xs.length+1,rc:=c}}}:UwP).cells 250∧Has w' u.b (pre++({x with st:=8,ma:=none,mn:=0,mc:=0}:WkP).cells++post) 90∧xs.length+1≤c∧Ft C (fun w=>Sl w a 7 ((xs++[x.nx]).map RcP.cells)) w'∧UpN w C∧Agr (fun k=>k=b∨k=u.b) w w'):=by
 obtain⟨⟨na,nn,nc,fa,fn,fc,tb,aa,ann,ac,wa,wn,wc⟩,kk,bW,P,now,ans,res⟩:=u
 simp only[] at hP heq h1 h2 hn hcap hne hW hL hMW
 refine As Tryz.func163 rfl Tryz.ntmps163 rfl ?_
 have G:Agr (fun k=>k=b∨k=bW) w w:=Agr.refl _ _
 have hne':=hne.symm
 refine Ac<|Aa rfl<|Af rfl<|Ak (.nilCheck rfl)<|Av Cz rfl<|Ba Dy rfl hwk rfl<|Ak (.nilCheck rfl)<|Av Gn rfl<|Cg sh3 rfl rfl rfl hW (by rw[Ag,Ag,hP];show P+0+1≤P+24+List.length post;omega) (by rfl) rfl (fun w1 z1 hW a1=>?_);have G:=G.trans (a1.mono fun k _ e=>.inr (e));have hwk:=hwk.upd a1 hne;have hL:=hL.updD a1 hMW
 have hW:Has w1 bW (pre++(({x with st:=8}:WkP).cells)++post) _:=Du (mid:=x.cells) hW hP (by show 0+1≤24;decide)
 refine Ae<|Ab<|Ac<|Ac<|Ev rfl mxo (by kernel_rfl)<|Cf rfl<|Aw (.nilCheck rfl)<|Aw (.field0 Ii rfl)<|Aw (.field0 Hy rfl)<|Aw (.load1 sh3 rfl (hwk.cell rfl))<|Cf rfl<|Aw (.nilCheck rfl)<|Aw (.field0 Cz rfl)<|Aw (.load1 Dy rfl (hwk.cell rfl))<|Aw (.nilCheck rfl)<|Aw (.field0 Qb rfl) ?_;refine Aw (.field0 Hy rfl)<|Aw (.load1 sh3 rfl (Fx (j:=8) hW hP rfl))<|Aw (.as (v':=.bool true) (.bin rfl rfl rfl) (Cr (heq)))<|Dq (fun w2 s3=>Ab ?_);have G:=G.trans s3.agr;have hwk:=hwk.sub s3;have hW:=hW.sub s3;have hL:=hL.sub s3;refine Bm rfl<|Ac<|Bs (fun k=>False) [17] w2.heap.size 19 rfl rfl mxo (fun w4 s5=>?_)
 have ent_G:=G.size
 have ltD_b:=hwk.lt;have ltD_bW:=hW.lt
 have ltD_hL:=fun k hk=>(hL.ge k hk).2
 have szD:=Nat.le_refl w2.heap.size;have G:=G.trans s5.agr;have hwk:=hwk.sub s5;have hW:=hW.sub s5;have hL:=hL.sub s5;have szD:=Ad szD s5.size;refine Bp 0 rfl rfl<|Ci 1 rfl rfl<|Bl 2 rfl Fa rfl<|Bl 3 rfl Md rfl<|Bg 4 rfl (fun w' s'=>.loadR (tb.cells) Ef rfl (Ia (m1:=List.take 2 ((⟨⟨na,nn,nc,fa,fn,fc,tb,aa,ann,ac,wa,wn,wc⟩,kk,bW,P,now,ans,res⟩:UwP).cells)) (m2:=tb.cells) (m3:=List.drop 5 ((⟨⟨na,nn,nc,fa,fn,fc,tb,aa,ann,ac,wa,wn,wc⟩,kk,bW,P,now,ans,res⟩:UwP).cells)) (hwk.step s' (nE id ltD_b)) rfl) rfl)<|Bp 5 rfl rfl<|Ci 6 rfl rfl<|Bl 7 rfl Cz rfl<|Ck 8 rfl Dy rfl hwk (nE id ltD_b) rfl<|Ci 9 rfl rfl<|Bl 10 rfl AAK rfl<|Bg 11 rfl (fun w' s'=>.loadR (x.nx.cells) Fs rfl (ACH (m1:=List.take 16 (({x with st:=8}:WkP).cells)) (m2:=x.nx.cells) (m3:=List.drop 23 (({x with st:=8}:WkP).cells)) (hW.step s' (nE id ltD_bW)) hP rfl) rfl)<|Qf 7 (fun _=>False) 12 [13,14,15,18] [⟨16,17,59,[.slice none 0 0,.slice none 0 0,.slice none 0 0],fun u=>(Gy (u) 0).cells.toList⟩] (ACA [(13,[12]),(14,[13,12]),(15,[13,12]),(17,[14,16,12]),(18,[15,12])]) (AB9 [(14,0),(15,1),(18,1)]) (fun v' C I=>∃a c,xs.length+1≤c∧v'=.tuple #[.agg ({tb with ra:=a,rn:=xs.length+1,rc:=c}:TbP).cells.toArray,.int .i64 0]∧I=(fun w=>Sl w a 7 ((xs++[x.nx]).map RcP.cells))) [] (fun _=>fun _ _=>True) (by kernel_rfl) (by kernel_rfl) rfl rfl (by kernel_rfl) (by decide) szD (fun _ h=>h.elim) (by decide) (by decide) (fun _=>rfl) (fun _ _ _ _ _ _=>trivial) (fun i0 hi0 o0 ho0 vals wc sc hp0=>?_) (by decide) (by decide) (fun o0 ho0 vals wc sc hp0=>?_) (fun i0 hi0 o0 ho0 vals wc hd0 hq0=>?_) (fun j0 hj0 o0 ho0 F0 wc=>?_) (fun j0 hj0 o0 ho0 vals wc b0 hb0 hd0 hq0 hh0=>?_) (fun vals wg C_ I_ sg hQ hF_ hup_ hps_ hjs_ hdis_=>?_)
 ·cases hi0
 ·cases ho0
  refine Gd rfl ALc (AIA tb h1 h2 xs hn hcap x0 hx0 x.nx hno hx64 wc (hL.sub sc).now) rfl ?_
  rintro u_ w_ ⟨s2,a,c,C1,rfl,g1,g2,up2⟩
  exact⟨s2,C1,_,⟨a,c,g1,rfl,rfl⟩,g2,up2⟩
 ·obtain⟨_,_,hq0⟩:=hq0
  obtain⟨a,c,hac,hu,rfl⟩:=hq0
  simp only[List.mem_cons,List.not_mem_nil,or_false] at hi0
  rcases hi0 with rfl|rfl|rfl|rfl<;>cases ho0
  ·show OpRun _ _ _ ((39,vals 12)::_) _ _
   rw[hu]
   exact Dz (.move rfl) rfl ⟨rfl,rfl⟩
  ·have e0:=hd0 13 (by decide);show OpRun _ _ _ ((26,vals 13)::_) _ _
   rw[e0,hu]
   exact Dz (.extract rfl rfl) rfl ⟨rfl,rfl⟩
  ·have e0:=hd0 13 (by decide);show OpRun _ _ _ ((26,vals 13)::_) _ _
   rw[e0,hu]
   exact Dz (.extract rfl rfl) rfl ⟨rfl,rfl⟩
  ·have e0:=hd0 15 (by decide);show OpRun _ _ _ ((41,vals 15)::_) _ _
   rw[e0,hu]
   exact Dz (.assign rfl) rfl ⟨rfl,rfl⟩
 ·simp only[List.mem_cons,List.not_mem_nil,or_false] at hj0
  rcases hj0 with rfl<;>cases ho0
  ·exact Fi Kb rfl
 ·obtain⟨_,_,hq0⟩:=hq0
  obtain⟨a,c,hac,hu,rfl⟩:=hq0
  simp only[List.mem_cons,List.not_mem_nil,or_false] at hj0
  rcases hj0 with rfl<;>cases ho0
  ·have e0:=hd0 14 (by decide) (by decide);have hb0:vals 16=.pointer (some ⟨b0,0,none⟩):=hb0
   show OpRun _ _ _ ((40,vals 14)::(2,vals 16)::(39,vals 12)::_) _ _
   rw[e0,hb0,hu]
   exact Fh Ef rfl rfl rfl hh0 rfl rfl
 obtain⟨a,c,hac,hu,rfl⟩:=hQ
 have s:vals 13=_:=hps_ 13 (by decide)
 have r:vals 14=_:=hps_ 14 (by decide)
 have q:vals 15=_:=hps_ 15 (by decide)
 have p:vals 18=_:=hps_ 18 (by decide)
 obtain⟨o,t,f,d,nc_2⟩:∃b,vals 16=.pointer (some ⟨b,0,none⟩)∧w4.heap.size≤b∧Has wg b ((Gy (vals 12) 0)).cells.toList 59∧¬C_ b:=hjs_ _ (.head _)
 rw[hu] at d
 show RD _ _ _ _ _ _ _ _ ((39,vals 12)::(26,vals 13)::(40,vals 14)::(41,vals 15)::(3,vals 18)::(2,vals 16)::_) _ _
 rw[s,r,q,p,t,hu]
 have f:=Ad szD f
 have geG_2:=Ad ent_G f
 have d_hQ_b:=Di hup_ (fun _ (h:False)=>h.elim) ltD_b;have d_hQ_bW:=Di hup_ (fun _ (h:False)=>h.elim) ltD_bW
 have hQ:=hF_
 have m:∀k,C_ k→k≠o:=fun k hk e=>nc_2 (e▸hk)
 have i:o≠b:=by omega
 have g:o≠bW:=by omega
 have n:=fun k hk (e:k=o)=>(by have:=ltD_hL k hk;omega:False)
 have G:=G.trans sg.agr;have hwk:=hwk.sub sg;have hW:=hW.sub sg;have hL:=hL.sub sg;have szD:=Ad szD sg.size
 have upQ:UpN w C_:=fun k hk=>(hup_ k hk).imp id (fun h=>Ad ent_G h)
 refine Cp<|Ab<|Ac<|Aa rfl<|Af rfl<|Ak (.as (v':=.bool true) (.bin rfl rfl rfl) (Cr (rfl)))<|Ae<|Ab<|Bm rfl<|Ac<|Bs (fun k=>k=b∨k=bW) [9,12] wg.heap.size 13 rfl rfl mxo (fun w6 s7=>?_)
 have ent_G:=G.size
 have ltD_b:=hwk.lt;have ltD_bW:=hW.lt
 have ltD_hL:=fun k hk=>(hL.ge k hk).2
 have l:=d.lt
 have ltD_hQ:=fun k hk=>(hQ.ge k hk).2
 have szD:=Nat.le_refl wg.heap.size;have G:=G.trans s7.agr;have hwk:=hwk.sub s7;have hW:=hW.sub s7;have hL:=hL.sub s7;have d:=d.sub s7;have hQ:=hQ.sub s7;have szD:=Ad szD s7.size;refine Bp 0 rfl rfl<|Bp 1 rfl rfl<|Ci 2 rfl rfl<|Bl 3 rfl Cz rfl<|Fq 4 rfl (by kernel_rfl) (by kernel_rfl) (by kernel_rfl) (by kernel_rfl) (fun w' s'=>.load1 Dy rfl ((hwk.step s' (Nat.not_le.2 ltD_b)).cell rfl)) rfl rfl<|Bg 5 rfl (fun w' s'=>.loadR (({tb with ra:=a,rn:=xs.length+1,rc:=c}:TbP).cells) Ef rfl (d.step s' (nE (nO i g) l)).row rfl)<|Ci 6 rfl rfl<|Bl 7 rfl Fa rfl<|Bl 8 rfl Md rfl<|Aq 9 rfl<|At Ef rfl rfl rfl hwk (fun w8 z8 hwk a8=>?_);have G:=G.trans (a8.mono fun k _ e=>.inl e);have hW:=hW.upd a8 hne';have hL:=hL.updD a8 hMb;have d:=d.upd a8 i;have hQ:=hQ.updD a8 d_hQ_b;have szD:=Ad szD a8.size
 have hwk:Has w8 b ((⟨⟨na,nn,nc,fa,fn,fc,{tb with ra:=a,rn:=xs.length+1,rc:=c},aa,ann,ac,wa,wn,wc⟩,kk,bW,P,now,ans,res⟩:UwP).cells) _:=hwk.eqc (by kernel_rfl)
 refine Cq rfl a8 (.inl rfl)<|Ci 10 rfl rfl<|Bl 11 rfl Vi rfl<|Aq 12 rfl<|Cg El rfl rfl rfl hW (by rw[Ag,Ag,hP];show P+23+1≤P+24+List.length post;omega) (by rfl) rfl (fun w9 z9 hW a9=>?_);have G:=G.trans (a9.mono fun k _ e=>.inr (e));have hwk:=hwk.upd a9 hne;have hL:=hL.updD a9 hMW;have d:=d.upd a9 g;have hQ:=hQ.updD a9 d_hQ_bW;have szD:=Ad szD a9.size
 have hW:Has w9 bW (pre++(({x with st:=8,ma:=none,mn:=0,mc:=0}:WkP).cells)++post) _:=Du (mid:=({x with st:=8}:WkP).cells) hW hP (by show 23+1≤24;decide)
 refine Cq rfl a9 (.inr (rfl))<|Cp<|Ab<|Bo (rs:=[]) (vs:=[]) rfl rfl trivial ?_
 exact⟨a,c,C_,hwk,hW,hac,hQ,upQ,G⟩
theorem Sm(n:Nat):(Er n).length=n:=List.length_replicate
set_option maxRecDepth 10000 in
set_option maxHeartbeats 1000000 in
theorem AGw(b:Nat)(u:UwP)(pre post:List Value)(hP:pre.length=u.P)(x:WkP)(hrd:0≤x.round∧x.round<1000000)(n:Nat)(hn8:1≤n∧n≤8)(A:Ar)(hnn:u.wd.nn=A.nodes.length)(hfn:u.wd.fn=A.free.length)(hnc:A.nodes.length≤u.wd.nc)(hfc:A.free.length≤u.wd.fc)(p0 p1:VP)(hok:TbOk n A [p0,p1] (Er n))(ps:List Int)(hkn:u.k<n)(hps:ps.set u.k (-1)=Er n)(h1:u.wd.tb.rn=2)(h2:u.wd.tb.sn=8)(h3:u.wd.tb.pn=ps.length)(h4:2≤u.wd.tb.rc)(hne:b≠u.b)(w:World)(hwk:Has w b u.cells 250)(hW:Has w u.b (pre++x.cells++post) 90)
  (M:Nat→Prop) (hA:Ft M (fun w=>ArR w u.wd.na u.wd.fa A) w) (hMb:∀k,M k→k≠b) (hMW:∀k,M k→k≠u.b) (MT:Nat→Prop) (hT:Ft MT (fun w=>Sl w u.wd.tb.ra 7 ([p0,p1].map VP.cells)∧Sl w u.wd.tb.sa 1 (Fz.map fun x=>[i6 x])∧∀p∈[p0,p1],RcR w p.x p.v) w) (hTb:∀k,MT k→k≠b) (hTW:∀k,MT k→k≠u.b) (MP:Nat→Prop) (hQ:Ft MP (fun w=>Sl w u.wd.tb.pa 1 (ps.map fun x=>[i6 x])) w) (hQb:∀k,MP k→k≠b) :
  FC Tryz.prog 164 [.pointer (some ⟨b,0,none⟩)] w (fun _ w'=>∃D nd fd ncd fcd ra rc b2 c2 C CP,Has w' b ({u with wd:={u.wd with na:=nd,nn:=D.nodes.length,nc:=ncd,fa:=fd,fn:=D.free.length,fc:=fcd,tb:={u.wd.tb with ra:=ra,rn:=1,rc:=rc,pa:=some ⟨b2,0,none⟩,pn:=n,pc:=c2}}}:UwP).cells 250∧Has w' u.b (pre++({x with aa:=none,an:=0,ac:=0,nx:=Hr,round:=x.round+1,st:=2}:WkP).cells++post) 90∧D.nodes.length≤ncd∧D.free.length≤fcd∧1≤rc∧Ft C (fun w=>ArR w nd fd D∧Sl w ra 7 ([p1.x].map RcP.cells)) w'∧Up M w C∧Ft CP (fun w=>Sl w (some ⟨b2,0,none⟩) 1 ((Er n).map fun x=>[i6 x])) w'∧UpN w CP∧RowA D p1.v.rt p1.V∧D.nodes.length=A.nodes.length∧A.free.length≤D.free.length∧Agr (fun k=>k=b∨k=u.b) w w'):=by
 have hpl:ps.length=n:=by have:=congrArg List.length hps;rw[List.length_set,Sm] at this;exact this
 have hpn:=Zj b u ps ⟨by omega,h2,h3,by omega⟩ (by omega) (-1) (by decide)
 rw[hps,hpl] at hpn
 obtain⟨⟨na,nn,nc,fa,fn,fc,tb,aa,ann,ac,wa,wn,wc⟩,kk,bW,P,now,ans,res⟩:=u
 simp only[] at hP hnn hfn hnc hfc hkn hps h1 h2 h3 h4 hne hW hA hMW hT hTW hQ hpn
 subst hnn hfn
 obtain⟨tra,trn,trc,tpa,tpn,tpc,tsa,tsn,tsc⟩:=tb
 simp only[] at h1 h2 h3 h4 hT hQ hpn
 subst h1 h2
 refine As Tryz.func164 rfl Tryz.ntmps164 rfl ?_
 have G:Agr (fun k=>k=b∨k=bW) w w:=Agr.refl _ _
 have hne':=hne.symm
 refine Ac<|Aa rfl<|Af rfl<|Az rfl AI2 (hpn w hwk MP hQ hQb) ?_;rintro _ w1 ⟨b2,c2,M2,hwk2,hPn,up2,a6⟩;have d_hPn_b:=Di up2 (fun _ (h:False)=>h.elim) hwk.lt;have d_hPn_bW:=Di up2 (fun _ (h:False)=>h.elim) hW.lt;have G:=G.trans (a6.mono fun k _ e=>.inl e);have hW:=hW.upd a6 hne';have hA:=hA.updD a6 hMb;have hT:=hT.updD a6 hTb
 have hwk:=hwk2
 refine Ae<|Ab<|Ac<|Ac<|Bs (fun k=>False) [17,18] w1.heap.size 20 rfl rfl mxo (fun w3 s4=>?_)
 have ent_G:=G.size
 have ltD_b:=hwk.lt;have ltD_bW:=hW.lt
 have ltD_hA:=fun k hk=>(hA.ge k hk).2
 have ltD_hT:=fun k hk=>(hT.ge k hk).2
 have ltD_hPn:=fun k hk=>(hPn.ge k hk).2
 have szD:=Nat.le_refl w1.heap.size;have G:=G.trans s4.agr;have hwk:=hwk.sub s4;have hW:=hW.sub s4;have hA:=hA.sub s4;have hT:=hT.sub s4;have hPn:=hPn.sub s4;have szD:=Ad szD s4.size;refine Bp 0 rfl rfl<|Ci 1 rfl rfl<|Bl 2 rfl Fa rfl<|Bl 3 rfl Sf rfl<|Bg 4 rfl (fun w' s'=>.loadR ([.slice na A.nodes.length nc,.slice fa A.free.length fc]) Cb rfl (Ia (m1:=List.take 0 ((⟨⟨na,A.nodes.length,nc,fa,A.free.length,fc,⟨tra,2,trc,some ⟨b2,0,none⟩,n,c2,tsa,8,tsc⟩,aa,ann,ac,wa,wn,wc⟩,kk,bW,P,now,ans,res⟩:UwP).cells)) (m2:=[.slice na A.nodes.length nc,.slice fa A.free.length fc]) (m3:=List.drop 2 ((⟨⟨na,A.nodes.length,nc,fa,A.free.length,fc,⟨tra,2,trc,some ⟨b2,0,none⟩,n,c2,tsa,8,tsc⟩,aa,ann,ac,wa,wn,wc⟩,kk,bW,P,now,ans,res⟩:UwP).cells)) (hwk.step s' (nE id ltD_b)) rfl) rfl)<|Bp 5 rfl rfl<|Ci 6 rfl rfl<|Bl 7 rfl Fa rfl<|Bl 8 rfl Md rfl<|Bg 9 rfl (fun w' s'=>.loadR ((⟨tra,2,trc,some ⟨b2,0,none⟩,n,c2,tsa,8,tsc⟩:TbP).cells) Ef rfl (Ia (m1:=List.take 2 ((⟨⟨na,A.nodes.length,nc,fa,A.free.length,fc,⟨tra,2,trc,some ⟨b2,0,none⟩,n,c2,tsa,8,tsc⟩,aa,ann,ac,wa,wn,wc⟩,kk,bW,P,now,ans,res⟩:UwP).cells)) (m2:=(⟨tra,2,trc,some ⟨b2,0,none⟩,n,c2,tsa,8,tsc⟩:TbP).cells) (m3:=List.drop 5 ((⟨⟨na,A.nodes.length,nc,fa,A.free.length,fc,⟨tra,2,trc,some ⟨b2,0,none⟩,n,c2,tsa,8,tsc⟩,aa,ann,ac,wa,wn,wc⟩,kk,bW,P,now,ans,res⟩:UwP).cells)) (hwk.step s' (nE id ltD_b)) rfl) rfl)<|Qf 10 (M) 10 [11,12,13,14,19] [⟨15,17,26,[.slice none 0 0,.slice none 0 0],fun u=>(Gy (u) 0).cells.toList⟩,⟨16,18,59,[.slice none 0 0,.slice none 0 0,.slice none 0 0],fun u=>(Gy (u) 1).cells.toList⟩] (ACA [(11,[10]),(12,[11,10]),(13,[11,10]),(14,[11,10]),(17,[12,15,10]),(18,[13,16,10]),(19,[14,10])]) (AB9 [(12,0),(13,1),(14,2),(19,2)]) (fun v' C I=>∃D nd fd ncd fcd ra rc,(D.nodes.length≤ncd∧D.free.length≤fcd∧1≤rc∧RowA D p1.v.rt p1.V∧D.nodes.length=A.nodes.length∧A.free.length≤D.free.length)∧v'=.tuple #[arV nd fd ncd fcd D,.agg (⟨ra,1,rc,some ⟨b2,0,none⟩,n,c2,tsa,8,tsc⟩:TbP).cells.toArray,.int .i64 0]∧I=(fun w=>ArR w nd fd D∧Sl w ra 7 ([p1.x].map RcP.cells))) [] (fun _=>fun _ _=>True) (by kernel_rfl) (by kernel_rfl) rfl rfl (by kernel_rfl) (by decide) szD ltD_hA (by decide) (by decide) (fun _=>rfl) (fun _ _ _ _ _ _=>trivial) (fun i0 hi0 o0 ho0 vals wc sc hp0=>?_) (by decide) (by decide) (fun o0 ho0 vals wc sc hp0=>?_) (fun i0 hi0 o0 ho0 vals wc hd0 hq0=>?_) (fun j0 hj0 o0 ho0 F0 wc=>?_) (fun j0 hj0 o0 ho0 vals wc b0 hb0 hd0 hq0 hh0=>?_) (fun vals wg C_ I_ sg hQ hF_ hup_ hps_ hjs_ hdis_=>?_)
 ·cases hi0
 ·cases ho0
  refine Gd rfl ALb (AIB n hn8 A na fa nc fc hnc hfc ⟨tra,2,trc,some ⟨b2,0,none⟩,n,c2,tsa,8,tsc⟩ p0 p1 hok M wc (hA.sub sc) ⟨(hT.sub sc).now.1,rfl,h4,(hPn.sub sc).now,(Sm n).symm,(hT.sub sc).now.2.1,rfl,(hT.sub sc).now.2.2⟩) rfl ?_
  rintro u_ w_ ⟨s2,D,nd,fd,ncd,fcd,ra,rc,C1,rfl,g1,g2,g3,g4,up3,g5,g6,g7⟩
  exact⟨s2,C1,_,⟨D,nd,fd,ncd,fcd,ra,rc,⟨g1,g2,g3,g5,g6,g7⟩,rfl,rfl⟩,g4,up3⟩
 ·obtain⟨_,_,hq0⟩:=hq0
  obtain⟨D,nd,fd,ncd,fcd,ra,rc,⟨hnD,hfD,hrc1,hrD,hlD,hfrD⟩,hu,rfl⟩:=hq0
  simp only[List.mem_cons,List.not_mem_nil,or_false] at hi0
  rcases hi0 with rfl|rfl|rfl|rfl|rfl<;>cases ho0
  ·show OpRun _ _ _ ((18,vals 10)::_) _ _
   rw[hu]
   exact Dz (.move rfl) rfl ⟨rfl,rfl⟩
  ·have e0:=hd0 11 (by decide);show OpRun _ _ _ ((7,vals 11)::_) _ _
   rw[e0,hu]
   exact Dz (.extract rfl rfl) rfl ⟨rfl,rfl⟩
  ·have e0:=hd0 11 (by decide);show OpRun _ _ _ ((7,vals 11)::_) _ _
   rw[e0,hu]
   exact Dz (.extract rfl rfl) rfl ⟨rfl,rfl⟩
  ·have e0:=hd0 11 (by decide);show OpRun _ _ _ ((7,vals 11)::_) _ _
   rw[e0,hu]
   exact Dz (.extract rfl rfl) rfl ⟨rfl,rfl⟩
  ·have e0:=hd0 14 (by decide);show OpRun _ _ _ ((21,vals 14)::_) _ _
   rw[e0,hu]
   exact Dz (.assign rfl) rfl ⟨rfl,rfl⟩
 ·simp only[List.mem_cons,List.not_mem_nil,or_false] at hj0
  rcases hj0 with rfl|rfl<;>cases ho0
  ·exact Fi Fy rfl
  ·exact Fi Kb rfl
 ·obtain⟨_,_,hq0⟩:=hq0
  obtain⟨D,nd,fd,ncd,fcd,ra,rc,⟨hnD,hfD,hrc1,hrD,hlD,hfrD⟩,hu,rfl⟩:=hq0
  simp only[List.mem_cons,List.not_mem_nil,or_false] at hj0
  rcases hj0 with rfl|rfl<;>cases ho0
  ·have e0:=hd0 12 (by decide) (by decide);have hb0:vals 15=.pointer (some ⟨b0,0,none⟩):=hb0
   show OpRun _ _ _ ((19,vals 12)::(2,vals 15)::(18,vals 10)::_) _ _
   rw[e0,hb0,hu]
   exact Fh Cb rfl rfl rfl hh0 rfl rfl
  ·have e0:=hd0 13 (by decide) (by decide);have hb0:vals 16=.pointer (some ⟨b0,0,none⟩):=hb0
   show OpRun _ _ _ ((20,vals 13)::(3,vals 16)::(18,vals 10)::_) _ _
   rw[e0,hb0,hu]
   exact Fh Ef rfl rfl rfl hh0 rfl rfl
 obtain⟨D,nd,fd,ncd,fcd,ra,rc,⟨hnD,hfD,hrc1,hrD,hlD,hfrD⟩,hu,rfl⟩:=hQ
 have p_11:vals 11=_:=hps_ 11 (by decide)
 have p_12:vals 12=_:=hps_ 12 (by decide)
 have p_13:vals 13=_:=hps_ 13 (by decide)
 have p_14:vals 14=_:=hps_ 14 (by decide)
 have p_19:vals 19=_:=hps_ 19 (by decide)
 obtain⟨b_2,v_2,fr_b_2,hb_2,nc_2⟩:∃b,vals 15=.pointer (some ⟨b,0,none⟩)∧w3.heap.size≤b∧Has wg b ((Gy (vals 10) 0)).cells.toList 26∧¬C_ b:=hjs_ _ (.head _)
 rw[hu] at hb_2
 obtain⟨b_3,v_3,fr_b_3,hb_3,nc_3⟩:∃b,vals 16=.pointer (some ⟨b,0,none⟩)∧w3.heap.size≤b∧Has wg b ((Gy (vals 10) 1)).cells.toList 59∧¬C_ b:=hjs_ _ (.tail _ (.head _))
 rw[hu] at hb_3
 have mb_2b_3:b_2≠b_3:=fun e=>hdis_ _ (.head _) _ (.tail _ (.head _)) (by decide) b_2 v_2 (by rw[e];exact v_3)
 show RD _ _ _ _ _ _ _ _ ((18,vals 10)::(7,vals 11)::(19,vals 12)::(20,vals 13)::(21,vals 14)::(4,vals 19)::(2,vals 15)::(3,vals 16)::_) _ _
 rw[p_11,p_12,p_13,p_14,p_19,v_2,v_3,hu]
 have fr_b_2:=Ad szD fr_b_2
 have geG_2:=Ad ent_G fr_b_2
 have fr_b_3:=Ad szD fr_b_3
 have geG_3:=Ad ent_G fr_b_3
 have d_hD_b:=Di hup_ hMb ltD_b;have d_hD_bW:=Di hup_ hMW ltD_bW
 have hD:=hF_
 have d_hD_b_2:∀k,C_ k→k≠b_2:=fun k hk e=>nc_2 (e▸hk)
 have d_hD_b_3:∀k,C_ k→k≠b_3:=fun k hk e=>nc_3 (e▸hk)
 have nb_2_b:b_2≠b:=by omega
 have nb_2_bW:b_2≠bW:=by omega
 have d_hA_b_2:=fun k hk (e:k=b_2)=>(by have:=ltD_hA k hk;omega:False)
 have d_hT_b_2:=fun k hk (e:k=b_2)=>(by have:=ltD_hT k hk;omega:False)
 have d_hPn_b_2:=fun k hk (e:k=b_2)=>(by have:=ltD_hPn k hk;omega:False)
 have nb_3_b:b_3≠b:=by omega
 have nb_3_bW:b_3≠bW:=by omega
 have d_hA_b_3:=fun k hk (e:k=b_3)=>(by have:=ltD_hA k hk;omega:False)
 have d_hT_b_3:=fun k hk (e:k=b_3)=>(by have:=ltD_hT k hk;omega:False)
 have d_hPn_b_3:=fun k hk (e:k=b_3)=>(by have:=ltD_hPn k hk;omega:False)
 have G:=G.trans sg.agr;have hwk:=hwk.sub sg;have hW:=hW.sub sg;have hA:=hA.sub sg;have hT:=hT.sub sg;have hPn:=hPn.sub sg;have szD:=Ad szD sg.size
 have upD:Up M w C_:=fun k hk=>(hup_ k hk).imp id (fun h=>Ad ent_G h)
 refine Cp<|Ab<|Ac<|Aa rfl<|Af rfl<|Ak (.as (v':=.bool true) (.bin rfl rfl rfl) (Cr (rfl)))<|Ae<|Ab<|Bm rfl<|Bs (fun k=>k=b) [7,11] wg.heap.size 12 rfl rfl mxo (fun w5 s6=>?_)
 have ent_G:=G.size
 have ltD_b:=hwk.lt;have ltD_bW:=hW.lt
 have ltD_hA:=fun k hk=>(hA.ge k hk).2
 have ltD_hT:=fun k hk=>(hT.ge k hk).2
 have ltD_hPn:=fun k hk=>(hPn.ge k hk).2
 have ltD_b_2:=hb_2.lt;have ltD_b_3:=hb_3.lt
 have ltD_hD:=fun k hk=>(hD.ge k hk).2
 have szD:=Nat.le_refl wg.heap.size;have G:=G.trans s6.agr;have hwk:=hwk.sub s6;have hW:=hW.sub s6;have hA:=hA.sub s6;have hT:=hT.sub s6;have hPn:=hPn.sub s6;have hb_2:=hb_2.sub s6;have hb_3:=hb_3.sub s6;have hD:=hD.sub s6;have szD:=Ad szD s6.size;refine Bp 0 rfl rfl<|Bp 1 rfl rfl<|Bg 2 rfl (fun w' s'=>.loadR ([.slice nd D.nodes.length ncd,.slice fd D.free.length fcd]) Cb rfl (hb_2.step s' (nE nb_2_b ltD_b_2)).row rfl)<|Bg 3 rfl (fun w' s'=>.loadR ((⟨ra,1,rc,some ⟨b2,0,none⟩,n,c2,tsa,8,tsc⟩:TbP).cells) Ef rfl (hb_3.step s' (nE nb_3_b ltD_b_3)).row rfl)<|Ci 4 rfl rfl<|Bl 5 rfl Fa rfl<|Bl 6 rfl Sf rfl<|Aq 7 rfl<|At Cb rfl rfl rfl hwk (fun w7 z7 hwk a7=>?_);have G:=G.trans (a7.mono fun k _ e=>.inl e);have hW:=hW.upd a7 hne';have hA:=hA.updD a7 hMb;have hT:=hT.updD a7 hTb;have hPn:=hPn.updD a7 d_hPn_b;have hb_2:=hb_2.upd a7 nb_2_b;have hb_3:=hb_3.upd a7 nb_3_b;have hD:=hD.updD a7 d_hD_b;have szD:=Ad szD a7.size
 have hwk:Has w7 b ((⟨⟨nd,D.nodes.length,ncd,fd,D.free.length,fcd,⟨tra,2,trc,some ⟨b2,0,none⟩,n,c2,tsa,8,tsc⟩,aa,ann,ac,wa,wn,wc⟩,kk,bW,P,now,ans,res⟩:UwP).cells) _:=hwk.eqc (by kernel_rfl)
 refine Cq rfl a7 (rfl)<|Ci 8 rfl rfl<|Bl 9 rfl Fa rfl<|Bl 10 rfl Md rfl<|Aq 11 rfl<|At Ef rfl rfl rfl hwk (fun w8 z8 hwk a8=>?_);have G:=G.trans (a8.mono fun k _ e=>.inl e);have hW:=hW.upd a8 hne';have hA:=hA.updD a8 hMb;have hT:=hT.updD a8 hTb;have hPn:=hPn.updD a8 d_hPn_b;have hb_2:=hb_2.upd a8 nb_2_b;have hb_3:=hb_3.upd a8 nb_3_b;have hD:=hD.updD a8 d_hD_b;have szD:=Ad szD a8.size
 have hwk:Has w8 b ((⟨⟨nd,D.nodes.length,ncd,fd,D.free.length,fcd,⟨ra,1,rc,some ⟨b2,0,none⟩,n,c2,tsa,8,tsc⟩,aa,ann,ac,wa,wn,wc⟩,kk,bW,P,now,ans,res⟩:UwP).cells) _:=hwk.eqc (by kernel_rfl)
 refine Cq rfl a8 (rfl)<|Cp<|Ab<|Ac<|Bs (fun k=>k=bW) [11,14] w8.heap.size 15 rfl rfl mxo (fun w9 s10=>?_)
 have ent_G:=G.size
 have ltD_b:=hwk.lt;have ltD_bW:=hW.lt
 have ltD_hA:=fun k hk=>(hA.ge k hk).2
 have ltD_hT:=fun k hk=>(hT.ge k hk).2
 have ltD_hPn:=fun k hk=>(hPn.ge k hk).2
 have ltD_b_2:=hb_2.lt;have ltD_b_3:=hb_3.lt
 have ltD_hD:=fun k hk=>(hD.ge k hk).2
 have szD:=Nat.le_refl w8.heap.size;have G:=G.trans s10.agr;have hwk:=hwk.sub s10;have hW:=hW.sub s10;have hA:=hA.sub s10;have hT:=hT.sub s10;have hPn:=hPn.sub s10;have hb_2:=hb_2.sub s10;have hb_3:=hb_3.sub s10;have hD:=hD.sub s10;have szD:=Ad szD s10.size;refine Bp 0 rfl rfl<|Ci 1 rfl rfl<|Bl 2 rfl Cz rfl<|Ck 3 rfl Dy rfl hwk (nE hne ltD_b) rfl<|Bp 4 rfl rfl<|Ci 5 rfl rfl<|Bl 6 rfl Cz rfl<|Ck 7 rfl Dy rfl hwk (nE hne ltD_b) rfl<|Bg 8 rfl (fun _ _=>.buildS Gx ADz rfl rfl)<|Ci 9 rfl rfl<|Bl 10 rfl Lb rfl<|Aq 11 rfl<|Cg Nc rfl rfl rfl hW (by rw[Ag,Ag,hP];show P+15+1≤P+24+List.length post;omega) (by rfl) rfl (fun w11 z11 hW a11=>?_);have G:=G.trans (a11.mono fun k _ e=>.inr (e));have hwk:=hwk.upd a11 hne;have hA:=hA.updD a11 hMW;have hT:=hT.updD a11 hTW;have hPn:=hPn.updD a11 d_hPn_bW;have hb_2:=hb_2.upd a11 nb_2_bW;have hb_3:=hb_3.upd a11 nb_3_bW;have hD:=hD.updD a11 d_hD_bW;have szD:=Ad szD a11.size
 have hW:Has w11 bW (pre++(({x with aa:=none,an:=0,ac:=0}:WkP).cells)++post) _:=Du (mid:=x.cells) hW hP (by show 15+1≤24;decide)
 refine Cq rfl a11 (rfl)<|Ci 12 rfl rfl<|Bl 13 rfl AAK rfl<|Aq 14 rfl<|Cg Fs rfl rfl rfl hW (by rw[Ag,Ag,hP];show P+16+7≤P+24+List.length post;omega) (by rfl) rfl (fun w12 z12 hW a12=>?_);have G:=G.trans (a12.mono fun k _ e=>.inr (e));have hwk:=hwk.upd a12 hne;have hA:=hA.updD a12 hMW;have hT:=hT.updD a12 hTW;have hPn:=hPn.updD a12 d_hPn_bW;have hb_2:=hb_2.upd a12 nb_2_bW;have hb_3:=hb_3.upd a12 nb_3_bW;have hD:=hD.updD a12 d_hD_bW;have szD:=Ad szD a12.size
 have hW:Has w12 bW (pre++(({x with aa:=none,an:=0,ac:=0,nx:=Hr}:WkP).cells)++post) _:=Du (mid:=({x with aa:=none,an:=0,ac:=0}:WkP).cells) hW hP (by show 16+7≤24;decide)
 refine Cq rfl a12 (rfl)<|Cp<|Ab<|Ac<|Aa rfl<|Af rfl<|Ak (.nilCheck rfl)<|Av Cz rfl<|Ba Dy rfl hwk rfl<|Ak (.nilCheck rfl)<|Av ACM rfl<|Ak (.load1 sh3 rfl (Fx (j:=6) hW hP rfl))<|Ak (.as (.bin rfl rfl rfl) (Cs (y:=x.round+1) (by rfl) (by omega)))<|Ak (.nilCheck rfl)<|Av ACM rfl<|Cg sh3 rfl rfl rfl hW (by rw[Ag,Ag,hP];show P+6+1≤P+24+List.length post;omega) (by rfl) rfl (fun w13 z13 hW a13=>?_);have G:=G.trans (a13.mono fun k _ e=>.inr (e));have hwk:=hwk.upd a13 hne;have hA:=hA.updD a13 hMW;have hT:=hT.updD a13 hTW;have hPn:=hPn.updD a13 d_hPn_bW;have hb_2:=hb_2.upd a13 nb_2_bW;have hb_3:=hb_3.upd a13 nb_3_bW;have hD:=hD.updD a13 d_hD_bW
 have hW:Has w13 bW (pre++(({x with aa:=none,an:=0,ac:=0,nx:=Hr,round:=x.round+1}:WkP).cells)++post) _:=Du (mid:=({x with aa:=none,an:=0,ac:=0,nx:=Hr}:WkP).cells) hW hP (by show 6+1≤24;decide)
 refine Ae<|Ab<|Aa rfl<|Af rfl<|Ak (.nilCheck rfl)<|Av Cz rfl<|Ba Dy rfl hwk rfl<|Ak (.nilCheck rfl)<|Av Gn rfl<|Cg sh3 rfl rfl rfl hW (by rw[Ag,Ag,hP];show P+0+1≤P+24+List.length post;omega) (by rfl) rfl (fun w14 z14 hW a14=>?_);have G:=G.trans (a14.mono fun k _ e=>.inr (e));have hwk:=hwk.upd a14 hne;have hA:=hA.updD a14 hMW;have hT:=hT.updD a14 hTW;have hPn:=hPn.updD a14 d_hPn_bW;have hb_2:=hb_2.upd a14 nb_2_bW;have hb_3:=hb_3.upd a14 nb_3_bW;have hD:=hD.updD a14 d_hD_bW
 have hW:Has w14 bW (pre++(({x with aa:=none,an:=0,ac:=0,nx:=Hr,round:=x.round+1,st:=2}:WkP).cells)++post) _:=Du (mid:=({x with aa:=none,an:=0,ac:=0,nx:=Hr,round:=x.round+1}:WkP).cells) hW hP (by show 0+1≤24;decide)
 refine Ae ?_
 refine fun a ka=>⟨ka.defers,_,Dg (rs:=[]) (vs:=[]) ka rfl trivial,?_⟩
 exact⟨D,nd,fd,ncd,fcd,ra,rc,b2,c2,C_,M2,hwk,hW,hnD,hfD,hrc1,hD,upD,hPn,up2,hrD,hlD,hfrD,G⟩
def Kp(st:Int):FuncId:=if st=1 then 157 else if st=2 then 158 else if st=3 then 159 else if st=4 then 160 else if st=5 then 161 else if st=6 then 162 else if st=7 then 163 else 164
theorem AGN{st:Int}:calleeOK Tryz.prog (Kp st)=true:=by
 unfold Kp
 repeat' split
 all_goals decide +kernel
theorem ACF(l:List WkP):∀r∈l.map WkP.cells,r.length=24:=fun r hr=>by obtain⟨z,_,rfl⟩:=List.mem_map.1 hr;rfl
def Kc(ws:List WkP)(k:Nat):List Value:=((ws.take k).map WkP.cells).flatten
theorem Ha{ws:List WkP}{k:Nat}(h:k≤ws.length):(Kc ws k).length=k*24:=by
 unfold Kc
 rw[Cy (sz:=24) _ (ACF _),Aj,List.length_take,Nat.min_eq_left h]
theorem Vl{ws:List WkP}{k:Nat}{x:WkP}(h:ws[k]?=some x)(ex:List Value):(ws.map WkP.cells).flatten++ex=Kc ws k++x.cells++(((ws.drop (k+1)).map WkP.cells).flatten++ex):=by
 have hk:=Cc h
 have:ws=ws.take k++x::ws.drop (k+1):=by
  conv=>lhs;rw[←List.take_append_drop k ws]
  rw[List.drop_eq_getElem_cons hk,Ex h hk]
 conv=>lhs;rw[this]
 unfold Kc
 simp[List.append_assoc]
theorem ADI{ws:List WkP}{k:Nat}{x x':WkP}(h:ws[k]?=some x)(ex:List Value):Kc ws k++x'.cells++(((ws.drop (k+1)).map WkP.cells).flatten++ex)=((ws.set k x').map WkP.cells).flatten++ex:=by
 have hk:=Cc h
 have h2:(ws.set k x')[k]?=some x':=List.getElem?_set_self hk
 have:=Vl h2 ex
 rw[this]
 have e1:Kc (ws.set k x') k=Kc ws k:=by unfold Kc;rw[List.take_set_of_le (Nat.le_refl _)]
 have e2:(ws.set k x').drop (k+1)=ws.drop (k+1):=by rw[List.drop_set_of_lt (by omega)]
 rw[e1,e2]
def Mu:RsT:=⟨0,0,0⟩
set_option maxRecDepth 10000 in
set_option maxHeartbeats 1000000 in
theorem AH8(y:WdP)(k:Nat)(ws:List WkP)(x:WkP)(hx:ws[k]?=some x)(hws:y.wn=ws.length)(hw8:ws.length≤8)(hkn:k<y.an)(hst:1≤x.st∧x.st≤8)(htk:0≤x.took∧x.took<1000000)(now:RcP)(M:Nat→Prop)(w:World)(hM:∀k,M k→k<w.heap.size)(hwk:Sl w y.wa 24 (ws.map WkP.cells))(hN:∀w1,Sub w w1→FC Tryz.prog 155 [.agg y.tb.cells.toArray] w1 (Val (.tuple #[now.val,.int .i64 0]) w1))(Q:UwP→WkP→(World→Prop)→Prop)
  (hdo:∀b bW c post w1,Sub w w1→w.heap.size≤b→w.heap.size≤bW→b<w1.heap.size→bW<w1.heap.size→b≠bW→ws.length≤c→Has w1 b (⟨{y with wa:=some ⟨bW,0,none⟩,wn:=ws.length,wc:=c},k,bW,k*24,now,false,Mu⟩:UwP).cells 250→Has w1 bW (Kc ws k++({x with took:=x.took+1}:WkP).cells++post) 90 →
   FC Tryz.prog (Kp x.st) [.pointer (some ⟨b,0,none⟩)] w1 (fun _ w2=>∃u' x' C I,Has w2 b u'.cells 250∧Has w2 bW (Kc ws k++x'.cells++post) 90∧(u'.wd.wa=some ⟨bW,0,none⟩∧u'.wd.wn=ws.length∧u'.wd.wc=c)∧Ft C I w2∧Up M w1 C∧Q u' x' I∧Agr (fun k=>k=b∨k=bW) w1 w2)) :
  FC Tryz.prog 91 [.agg y.cells.toArray,.int .i64 (k:Int)] w (fun v w'=>Sub w w'∧∃u' x' C,v=.tuple #[.agg u'.wd.cells.toArray,.bool u'.ans,u'.res.val,.int .i64 0]∧u'.wd.wn=ws.length∧ws.length≤u'.wd.wc∧Up M w C∧∃I,Q u' x' I∧Ft C (fun u=>I u∧Sl u u'.wd.wa 24 ((ws.set k x').map WkP.cells)) w'):=by
 have hkl:=Cc hx
 obtain⟨na,nn,nc,fa,fn,fc,tb,aa,an,ac,wa,wn,wc⟩:=y
 simp only[] at hws hkn hwk hN hdo
 subst hws
 refine As Tryz.func91 rfl Tryz.ntmps91 rfl ?_
 have S:=Ax w
 refine Ac<|Aa rfl<|Bu rfl rfl rfl (fun b_2 w_2 e_2 z_2 hb_2 s_2=>?_);have ge_2:=S.le e_2;have S:=S.trans s_2
 have hb_2:Has w_2 b_2 ((⟨na,nn,nc,fa,fn,fc,tb,aa,an,ac,wa,ws.length,wc⟩:WdP).cells) _:=hb_2
 refine Ay Tz rfl rfl (fun b_4 w_4 e_4 z_4 hb_4 s_4=>?_);have ge_4:=S.le e_4;have n_2__4:=hb_2.ne e_4;have S:=S.trans s_4;have hb_2:=hb_2.sub s_4;refine Ah rfl<|Ay Nh rfl rfl (fun b_6 w_6 e_6 z_6 hb_6 s_6=>?_);have ge_6:=S.le e_6;have n_2__6:=hb_2.ne e_6;have n_4__6:=hb_4.ne e_6;have S:=S.trans s_6;have hb_2:=hb_2.sub s_6;have hb_4:=hb_4.sub s_6;refine Ah rfl<|Ae<|Ab<|Ac<|Ac<|Aa rfl<|Af rfl<|Ak (.as (v':=.bool false) (.bin rfl rfl rfl) (Bt (by omega)))<|Af rfl<|Af rfl<|Av Gz rfl<|Ba Nj rfl hb_2 rfl<|Cm Nb rfl<|Ak (.as (v':=.bool false) (.bin rfl rfl rfl) (Bt (by show¬((ws.length:Nat):Int)≤(k:Int);omega)))<|Bq rfl rfl<|Af rfl ?_;refine Af rfl<|Av Np rfl<|Ba Nc rfl hb_2 rfl<|Cm Iv rfl<|Ak (.as (v':=.bool false) (.bin rfl rfl rfl) (Bt (by show¬((an:Nat):Int)≤(k:Int);omega)))<|Bq rfl rfl<|Ae<|Ab<|Bw rfl<|Ao<|Ab<|Ac<|Aa rfl<|Av Md rfl<|Ak (.loadR (tb.cells) Ef rfl (Ia (m1:=List.take 2 ((⟨na,nn,nc,fa,fn,fc,tb,aa,an,ac,wa,ws.length,wc⟩:WdP).cells)) (m2:=tb.cells) (m3:=List.drop 5 ((⟨na,nn,nc,fa,fn,fc,tb,aa,an,ac,wa,ws.length,wc⟩:WdP).cells)) hb_2 rfl) rfl)<|Az rfl AJB (hN w_6 S) ?_;rintro _ w1 ⟨rfl,s2⟩;have S:=S.trans s2;have hb_2:=hb_2.sub s2;have hb_4:=hb_4.sub s2;have hb_6:=hb_6.sub s2;refine Af rfl<|Bz rfl rfl<|Bz rfl rfl<|Ay Gx rfl rfl (fun b_8 w_8 e_8 z_8 hb_8 s_8=>?_);have ge_8:=S.le e_8;have n_2__8:=hb_2.ne e_8;have n_4__8:=hb_4.ne e_8;have n_6__8:=hb_6.ne e_8;have S:=S.trans s_8;have hb_2:=hb_2.sub s_8;have hb_4:=hb_4.sub s_8;have hb_6:=hb_6.sub s_8;refine At Fs rfl rfl rfl hb_8 (fun w3 z3 hb_8 a3=>?_);have S:=S.upd a3 ge_8;have hb_2:=hb_2.upd a3 n_2__8;have hb_4:=hb_4.upd a3 n_4__8;have hb_6:=hb_6.upd a3 n_6__8
 have hb_8:Has w3 b_8 (now.cells) _:=hb_8.now (by kernel_rfl)
 refine Ah rfl<|Ae<|Ab<|Ac<|Aa rfl<|Av Gz rfl<|Ba Nj rfl hb_2 rfl<|Az rfl AJA (AGF ws (by omega) wa wc _ rfl w3 (hwk.sub S) (by omega)) ?_;rintro _ w4 ⟨s5,b_40,c_40,ex_40,rfl,fr_40,k40,hb_40⟩
 have nb_40_b_2:b_40≠b_2:=by have:=hb_2.lt;omega
 have nb_40_b_4:b_40≠b_4:=by have:=hb_4.lt;omega
 have nb_40_b_6:b_40≠b_6:=by have:=hb_6.lt;omega
 have nb_40_b_8:b_40≠b_8:=by have:=hb_8.lt;omega
 have ge_40:=Ad S.size fr_40;have S:=S.trans s5;have hb_2:=hb_2.sub s5;have hb_4:=hb_4.sub s5;have hb_6:=hb_6.sub s5;have hb_8:=hb_8.sub s5
 obtain⟨pre,hpre⟩:∃p,p=Kc ws k:=⟨_,rfl⟩
 obtain⟨post,hpost⟩:∃p,p=((ws.drop (k+1)).map WkP.cells).flatten++ex_40:=⟨_,rfl⟩
 rw[Vl hx,←hpre,←hpost] at hb_40
 obtain⟨P,hPk⟩:∃P,P=k*24:=⟨_,rfl⟩
 have hP:pre.length=P:=by rw[hpre,hPk,Ha (Nat.le_of_lt hkl)]
 have hst8:x.st=1∨x.st=2∨x.st=3∨x.st=4∨x.st=5∨x.st=6∨x.st=7∨x.st=8:=by omega
 refine Av Gz rfl<|At Nj rfl rfl rfl hb_2 (fun w6 z6 hb_2 a6=>?_);have S:=S.upd a6 ge_2;have hb_4:=hb_4.upd a6 n_2__4.symm;have hb_6:=hb_6.upd a6 n_2__6.symm;have hb_8:=hb_8.upd a6 n_2__8.symm;have hb_40:=hb_40.upd a6 nb_40_b_2
 have hb_2:Has w6 b_2 ((⟨na,nn,nc,fa,fn,fc,tb,aa,an,ac,some ⟨b_40,0,none⟩,ws.length,c_40⟩:WdP).cells) _:=hb_2
 refine Ae<|Ab<|Ac<|Bs (fun k=>False) [] w6.heap.size 10 rfl rfl mxo (fun w7 s8=>?_)
 have hNN:∀k,((False)∨w6.heap.size≤k)→w.heap.size≤k:=fun k e=>e.elim (fun e=>e.elim) (fun e=>Ad S.size e)
 have ent_S:=S.size
 have hN0:∀k,w6.heap.size≤k→w.heap.size≤k:=fun k e=>Ad S.size e
 have ltD_b_2:=hb_2.lt;have ltD_b_4:=hb_4.lt;have ltD_b_6:=hb_6.lt;have ltD_b_8:=hb_8.lt;have ltD_b_40:=hb_40.lt;have szD:=Nat.le_refl w6.heap.size;have S:=S.trans s8;have hb_2:=hb_2.sub s8;have hb_4:=hb_4.sub s8;have hb_6:=hb_6.sub s8;have hb_8:=hb_8.sub s8;have hb_40:=hb_40.sub s8;have szD:=Ad szD s8.size;refine Bg 0 rfl (fun w' s'=>.loadR ((⟨na,nn,nc,fa,fn,fc,tb,aa,an,ac,some ⟨b_40,0,none⟩,ws.length,c_40⟩:WdP).cells) Hw rfl (hb_2.step s' (nE id ltD_b_2)).row rfl)<|Bp 1 rfl rfl<|Bl 2 rfl Gz rfl<|Ck 3 rfl Nj rfl hb_2 (nE id ltD_b_2) rfl<|Bp 4 rfl rfl<|Bg 5 rfl (fun _ _=>.as (v':=.pointer (some ⟨b_40,P,none⟩)) (.indexO Nb rfl rfl (by show 0≤((k:Nat):Int)∧((k:Nat):Int)<((ws.length:Nat):Int);omega)) (by rw[hPk,Nat.zero_add,Int.toNat_natCast]))<|Bg 6 rfl (fun w' s'=>.loadR (now.cells) Fs rfl (hb_8.step s' (nE id ltD_b_8)).row rfl)<|Bg 7 rfl (fun _ _=>.buildS (vs:=[(0,.agg (⟨na,nn,nc,fa,fn,fc,tb,aa,an,ac,some ⟨b_40,0,none⟩,ws.length,c_40⟩:WdP).cells.toArray),(1,.int .i64 (k:Int)),(2,.pointer (some ⟨b_40,P,none⟩)),(3,.agg now.cells.toArray)]) (cs:=((⟨⟨na,nn,nc,fa,fn,fc,tb,aa,an,ac,some ⟨b_40,0,none⟩,ws.length,c_40⟩,k,b_40,P,now,false,Mu⟩:UwP).cells).toArray) AKv AK7 rfl (by kernel_rfl))<|Aq 8 rfl<|Bu rfl rfl rfl (fun b_50 w_50 e_50 z_50 hb_50 s_50=>?_)
 have fr_b_50:w6.heap.size≤b_50:=by rw[e_50];exact szD
 have ge_50:=S.le e_50;have n_2__50:=hb_2.ne e_50;have n_4__50:=hb_4.ne e_50;have n_6__50:=hb_6.ne e_50;have n_8__50:=hb_8.ne e_50;have n_40__50:=hb_40.ne e_50;have S:=S.trans s_50;have hb_2:=hb_2.sub s_50;have hb_4:=hb_4.sub s_50;have hb_6:=hb_6.sub s_50;have hb_8:=hb_8.sub s_50;have hb_40:=hb_40.sub s_50;have szD:=Ad szD s_50.size
 have hb_50:Has w_50 b_50 ((⟨⟨na,nn,nc,fa,fn,fc,tb,aa,an,ac,some ⟨b_40,0,none⟩,ws.length,c_40⟩,k,b_40,P,now,false,Mu⟩:UwP).cells) _:=hb_50
 refine Be s_50.agr<|Cu 9 rfl rfl<|Cp<|Ab<|Ac<|Aa rfl<|Xf .i64 rfl rfl (fun b_51 w_51 e_51 z_51 hb_51 s_51=>?_);have ge_51:=S.le e_51;have n_2__51:=hb_2.ne e_51;have n_4__51:=hb_4.ne e_51;have n_6__51:=hb_6.ne e_51;have n_8__51:=hb_8.ne e_51;have n_40__51:=hb_40.ne e_51;have n_50__51:=hb_50.ne e_51;have S:=S.trans s_51;have hb_2:=hb_2.sub s_51;have hb_4:=hb_4.sub s_51;have hb_6:=hb_6.sub s_51;have hb_8:=hb_8.sub s_51;have hb_40:=hb_40.sub s_51;have hb_50:=hb_50.sub s_51;refine Af rfl<|Ak (.func (xs:=[_]) (ys:=[]) rfl rfl)<|He Tryz.underlying251 Tryz.underlying3 rfl rfl rfl hb_51 (rfl) rfl (fun w9 z9 hb_51 a9=>?_);have S:=S.upd a9 ge_51;have hb_2:=hb_2.upd a9 n_2__51;have hb_4:=hb_4.upd a9 n_4__51;have hb_6:=hb_6.upd a9 n_6__51;have hb_8:=hb_8.upd a9 n_8__51;have hb_40:=hb_40.upd a9 n_40__51;have hb_50:=hb_50.upd a9 n_50__51;refine Af rfl<|Ak (.func (xs:=[_]) (ys:=[]) rfl rfl)<|He Tryz.underlying251 Tryz.underlying3 rfl rfl rfl hb_51 (rfl) rfl (fun w10 z10 hb_51 a10=>?_);have S:=S.upd a10 ge_51;have hb_2:=hb_2.upd a10 n_2__51;have hb_4:=hb_4.upd a10 n_4__51;have hb_6:=hb_6.upd a10 n_6__51;have hb_8:=hb_8.upd a10 n_8__51;have hb_40:=hb_40.upd a10 n_40__51;have hb_50:=hb_50.upd a10 n_50__51;refine Af rfl<|Ak (.func (xs:=[_]) (ys:=[]) rfl rfl)<|He Tryz.underlying251 Tryz.underlying3 rfl rfl rfl hb_51 (rfl) rfl (fun w11 z11 hb_51 a11=>?_);have S:=S.upd a11 ge_51;have hb_2:=hb_2.upd a11 n_2__51;have hb_4:=hb_4.upd a11 n_4__51;have hb_6:=hb_6.upd a11 n_6__51;have hb_8:=hb_8.upd a11 n_8__51;have hb_40:=hb_40.upd a11 n_40__51;have hb_50:=hb_50.upd a11 n_50__51;refine Af rfl<|Ak (.func (xs:=[_]) (ys:=[]) rfl rfl)<|He Tryz.underlying251 Tryz.underlying3 rfl rfl rfl hb_51 (rfl) rfl (fun w12 z12 hb_51 a12=>?_);have S:=S.upd a12 ge_51;have hb_2:=hb_2.upd a12 n_2__51;have hb_4:=hb_4.upd a12 n_4__51;have hb_6:=hb_6.upd a12 n_6__51;have hb_8:=hb_8.upd a12 n_8__51;have hb_40:=hb_40.upd a12 n_40__51;have hb_50:=hb_50.upd a12 n_50__51;refine Af rfl<|Ak (.func (xs:=[_]) (ys:=[]) rfl rfl)<|He Tryz.underlying251 Tryz.underlying3 rfl rfl rfl hb_51 (rfl) rfl (fun w13 z13 hb_51 a13=>?_);have S:=S.upd a13 ge_51;have hb_2:=hb_2.upd a13 n_2__51;have hb_4:=hb_4.upd a13 n_4__51;have hb_6:=hb_6.upd a13 n_6__51;have hb_8:=hb_8.upd a13 n_8__51;have hb_40:=hb_40.upd a13 n_40__51;have hb_50:=hb_50.upd a13 n_50__51;refine Af rfl<|Ak (.func (xs:=[_]) (ys:=[]) rfl rfl)<|He Tryz.underlying251 Tryz.underlying3 rfl rfl rfl hb_51 (rfl) rfl (fun w14 z14 hb_51 a14=>?_);have S:=S.upd a14 ge_51;have hb_2:=hb_2.upd a14 n_2__51;have hb_4:=hb_4.upd a14 n_4__51;have hb_6:=hb_6.upd a14 n_6__51;have hb_8:=hb_8.upd a14 n_8__51;have hb_40:=hb_40.upd a14 n_40__51;have hb_50:=hb_50.upd a14 n_50__51;refine Af rfl<|Ak (.func (xs:=[_]) (ys:=[]) rfl rfl)<|He Tryz.underlying251 Tryz.underlying3 rfl rfl rfl hb_51 (rfl) rfl (fun w15 z15 hb_51 a15=>?_);have S:=S.upd a15 ge_51;have hb_2:=hb_2.upd a15 n_2__51;have hb_4:=hb_4.upd a15 n_4__51;have hb_6:=hb_6.upd a15 n_6__51;have hb_8:=hb_8.upd a15 n_8__51;have hb_40:=hb_40.upd a15 n_40__51;have hb_50:=hb_50.upd a15 n_50__51;refine Af rfl<|Ak (.func (xs:=[_]) (ys:=[]) rfl rfl)<|He Tryz.underlying251 Tryz.underlying3 rfl rfl rfl hb_51 (rfl) rfl (fun w16 z16 hb_51 a16=>?_);have S:=S.upd a16 ge_51;have hb_2:=hb_2.upd a16 n_2__51;have hb_4:=hb_4.upd a16 n_4__51;have hb_6:=hb_6.upd a16 n_6__51;have hb_8:=hb_8.upd a16 n_8__51;have hb_40:=hb_40.upd a16 n_40__51;have hb_50:=hb_50.upd a16 n_50__51;refine Af rfl<|Ah rfl<|Ae<|Ab<|Ac<|Ac<|Aa rfl<|Af rfl<|Af rfl<|Ak (.nilCheck rfl)<|Av Cz rfl<|Ba Dy rfl hb_50 rfl<|Ak (.nilCheck rfl)<|Av Gn rfl<|Ak (.load1 sh3 rfl (Fx (j:=0) hb_40 hP rfl)) ?_
 refine Ak (.as (v':=.tuple #[.func (.func (Kp x.st)) #[.pointer (some ⟨b_50,0,none⟩)] #[],.bool true]) (.lookupM Tryz.underlying251 Tryz.underlying3 ze1 rfl rfl hb_51) (by rcases hst8 with h|h|h|h|h|h|h|h<;>rw[h]<;>rfl))<|Af rfl<|Bz rfl rfl<|Bz rfl rfl<|Ah rfl<|Ah rfl<|Ae<|Ab<|Ac<|Aa rfl<|Af rfl<|Ae<|Ab<|Bm rfl<|Ac<|Aa rfl ?_;refine Af rfl<|Ak (.nilCheck rfl)<|Av Cz rfl<|Ba Dy rfl hb_50 rfl<|Ak (.nilCheck rfl)<|Av ACL rfl<|Ak (.load1 sh3 rfl (Fx (j:=7) hb_40 hP rfl))<|Ak (.as (.bin rfl rfl rfl) (Cs (y:=x.took+1) (by rfl) (by omega)))<|Ak (.nilCheck rfl)<|Av ACL rfl<|Cg sh3 rfl rfl rfl hb_40 (by rw[Ag,Ag,hP];show P+7+1≤P+24+List.length post;omega) (by rfl) rfl (fun w17 z17 hb_40 a17=>?_);have S:=S.upd a17 ge_40;have hb_2:=hb_2.upd a17 nb_40_b_2.symm;have hb_4:=hb_4.upd a17 nb_40_b_4.symm;have hb_6:=hb_6.upd a17 nb_40_b_6.symm;have hb_8:=hb_8.upd a17 nb_40_b_8.symm;have hb_50:=hb_50.upd a17 n_40__50.symm;have hb_51:=hb_51.upd a17 n_40__51.symm
 have hb_40:Has w17 b_40 (pre++(({x with took:=x.took+1}:WkP).cells)++post) _:=Du (mid:=x.cells) hb_40 hP (by show 7+1≤24;decide)
 refine Ae<|Ab<|Aa rfl<|Af rfl<|Dl rfl rfl (us:=[.pointer (some ⟨b_50,0,none⟩)]) (cs:=[]) AGN (hdo b_50 b_40 c_40 post w17 S ge_50 ge_40 hb_50.lt hb_40.lt (Ne.symm n_40__50) k40 (by rw[←hPk];exact hb_50) (by rw[←hpre];exact hb_40)) rfl rfl ?_;rintro _ w18 ⟨u',x',C,I,hu2,hx2,hww,hC,upC,hQ,ag⟩
 have dCb_4:∀k,C k→k≠b_4:=fun k hk e=>(upC k hk).elim (fun h=>by have:=hM k h;omega) (fun h=>by have:=hb_4.lt;omega)
 have dCb_6:∀k,C k→k≠b_6:=fun k hk e=>(upC k hk).elim (fun h=>by have:=hM k h;omega) (fun h=>by have:=hb_6.lt;omega)
 have szw:=S.size
 have S:=S.agrN ag (fun k e=>e.elim (fun e=>e▸ge_50) (fun e=>e▸ge_40))
 have hb_4:=hb_4.step ag (fun e=>e.elim (fun e=>n_4__50 e) (fun e=>nb_40_b_4.symm e));have hb_6:=hb_6.step ag (fun e=>e.elim (fun e=>n_6__50 e) (fun e=>nb_40_b_6.symm e))
 have hb_50:=hu2
 have hb_40:=hx2
 have dC40:True:=trivial
 refine Ae<|Ab<|Ac<|Bs (fun k=>k=b_4∨k=b_6) [12,14] w18.heap.size 16 rfl rfl mxo (fun w20 s21=>?_)
 have hNN:∀k,((k=b_4∨k=b_6)∨w18.heap.size≤k)→w.heap.size≤k:=fun k e=>e.elim (fun e=>e.elim (fun e=>e▸ge_4) (fun e=>e▸ge_6)) (fun e=>Ad S.size e)
 have ent_S:=S.size
 have hN0:∀k,w18.heap.size≤k→w.heap.size≤k:=fun k e=>Ad S.size e
 have ltD_b_4:=hb_4.lt;have ltD_b_6:=hb_6.lt;have ltD_b_50:=hb_50.lt;have ltD_b_40:=hb_40.lt
 have ltD_hC:=fun k hk=>(hC.ge k hk).2
 have szD:=Nat.le_refl w18.heap.size;have S:=S.trans s21;have hb_4:=hb_4.sub s21;have hb_6:=hb_6.sub s21;have hb_50:=hb_50.sub s21;have hb_40:=hb_40.sub s21;have hC:=hC.sub s21;have szD:=Ad szD s21.size;refine Bp 0 rfl rfl<|Ci 1 rfl rfl<|Bl 2 rfl Fa rfl<|Bg 3 rfl (fun w' s'=>.loadR (u'.wd.cells) Hw rfl (Ia (m1:=List.take 0 (u'.cells)) (m2:=u'.wd.cells) (m3:=List.drop 7 (u'.cells)) (hb_50.step s' (nE (nO n_4__50.symm n_6__50.symm) ltD_b_50)) rfl) rfl)<|Bp 4 rfl rfl<|Ci 5 rfl rfl<|Bl 6 rfl ADe rfl<|Ck 7 rfl sh4 rfl hb_50 (nE (nO n_4__50.symm n_6__50.symm) ltD_b_50) rfl<|Bp 8 rfl rfl<|Ci 9 rfl rfl<|Bl 10 rfl ADd rfl<|Bg 11 rfl (fun w' s'=>.loadR (u'.res.cells) Hq rfl (Ia (m1:=List.take 17 (u'.cells)) (m2:=u'.res.cells) (m3:=List.drop 20 (u'.cells)) (hb_50.step s' (nE (nO n_4__50.symm n_6__50.symm) ltD_b_50)) rfl) rfl)<|Aq 12 rfl<|At Hw rfl rfl rfl hb_4 (fun w22 z22 hb_4 a22=>?_);have S:=S.upd a22 ge_4;have hb_6:=hb_6.upd a22 n_4__6.symm;have hb_50:=hb_50.upd a22 n_4__50.symm;have hb_40:=hb_40.upd a22 nb_40_b_4;have hC:=hC.updD a22 dCb_4;have szD:=Ad szD a22.size
 have hb_4:Has w22 b_4 (u'.wd.cells) _:=hb_4.now (by kernel_rfl)
 refine Cq rfl a22 (.inl rfl)<|Cu 13 rfl rfl<|Aq 14 rfl<|At Hq rfl rfl rfl hb_6 (fun w23 z23 hb_6 a23=>?_);have S:=S.upd a23 ge_6;have hb_4:=hb_4.upd a23 n_4__6;have hb_50:=hb_50.upd a23 n_6__50.symm;have hb_40:=hb_40.upd a23 nb_40_b_6;have hC:=hC.updD a23 dCb_6;have szD:=Ad szD a23.size
 have hb_6:Has w23 b_6 (u'.res.cells) _:=hb_6.now (by kernel_rfl)
 refine Cq rfl a23 (.inr (rfl))<|Cu 15 rfl rfl<|Cp<|Ab<|Bo (rs:=[.cell 4 63,.tmp 5,.cell 6 38,.tmp 7]) (vs:=[_,_,_,_]) rfl rfl ⟨⟨_,rfl,.inr ⟨u'.wd.cells,Hw,hb_4.row,rfl⟩⟩,rfl,⟨_,rfl,.inr ⟨u'.res.cells,Hq,hb_6.row,rfl⟩⟩,rfl,trivial⟩ ?_
 exact⟨S,u',x',_,rfl,hww.2.1,by rw[hww.2.2];exact k40,fun j hj=>hj.elim (fun h=>(upC j h).imp id (fun h=>Ad szw h)) (fun e=>.inr (by rw[e];exact ge_40)),I,hQ,(hC.and hb_40.ft).imp (fun v h=>⟨h.1,by rw[hww.1];have q:=h.2;rw[hpost,ADI hx] at q;exact Has.sl (extra:=ex_40) q (ACF _)⟩)⟩
structure WdS (y:WdP) (A:Ar) (l:List AnT) (ws:List WkP):Prop where
 nn:y.nn=A.nodes.length
 nc:A.nodes.length≤y.nc
 fn:y.fn=A.free.length
 fc:A.free.length≤y.fc
 an:y.an=l.length
 ac:l.length≤y.ac
 wn:y.wn=ws.length
 wc:ws.length≤y.wc
structure WdM (y:WdP) (A:Ar) (L:List VP) (ps:List Int) (l:List AnT) (ws:List WkP) (E:World→Prop) (u:World):Prop where
 ar:ArR u y.na y.fa A
 tb:TbR y.tb L ps u
 an:Sl u y.aa 5 (l.map AnT.cells)
 wk:Sl u y.wa 24 (ws.map WkP.cells)
 ex:E u
structure Out where
 y:WdP
 A:Ar
 L:List VP
 ps:List Int
 l:List AnT
 x:WkP
 E:World→Prop
 ans:Bool
 res:RsT
def Out.I(o:Out)(ws:List WkP)(k:Nat):World→Prop:=WdM o.y o.A o.L o.ps o.l (ws.set k o.x) o.E
theorem Jt(y:WdP)(A:Ar)(L:List VP)(ps:List Int)(l:List AnT)(ws:List WkP)(E:World→Prop)(k:Nat)(x:WkP)(hx:ws[k]?=some x)(hS:WdS y A l ws)(hw8:ws.length≤8)(hkn:k<l.length)(hst:1≤x.st∧x.st≤8)(htk:0≤x.took∧x.took<1000000)(p:VP)(hp:L[L.length-1]?=some p)(hL:1≤L.length∧L.length≤64)(M:Nat→Prop)(w:World)(hF:Ft M (WdM y A L ps l ws E) w)(P:Out→Prop)
  (hdo:∀b bW c post w1,Sub w w1→b<w1.heap.size→bW<w1.heap.size→b≠bW→ws.length≤c→Has w1 b (⟨{y with wa:=some ⟨bW,0,none⟩,wn:=ws.length,wc:=c},k,bW,k*24,p.x,false,Mu⟩:UwP).cells 250→Has w1 bW (Kc ws k++({x with took:=x.took+1}:WkP).cells++post) 90→Ft M (WdM y A L ps l ws E) w1→(∀k,M k→k≠b)→(∀k,M k→k≠bW) →
   FC Tryz.prog (Kp x.st) [.pointer (some ⟨b,0,none⟩)] w1 (fun _ w2=>∃o:Out,P o∧WdS o.y o.A o.l ws∧o.y.wa=some ⟨bW,0,none⟩∧o.y.wn=ws.length∧o.y.wc=c∧Has w2 b (⟨o.y,k,bW,k*24,p.x,o.ans,o.res⟩:UwP).cells 250∧Has w2 bW (Kc ws k++o.x.cells++post) 90∧Agr (fun k=>k=b∨k=bW) w1 w2∧∃C,Ft C (fun u=>ArR u o.y.na o.y.fa o.A∧TbR o.y.tb o.L o.ps u∧Sl u o.y.aa 5 (o.l.map AnT.cells)∧o.E u) w2∧Up M w1 C)) :
  FC Tryz.prog 91 [.agg y.cells.toArray,.int .i64 (k:Int)] w (fun v w'=>Sub w w'∧∃o:Out,P o∧v=.tuple #[.agg o.y.cells.toArray,.bool o.ans,o.res.val,.int .i64 0]∧WdS o.y o.A o.l (ws.set k o.x)∧∃C,Ft C (o.I ws k) w'∧Up M w C):=by
 have hpm:L.map (·.x)=L.map (·.x):=rfl
 have hpx:(L.map (·.x))[(L.map (·.x)).length-1]?=some p.x:=by rw[Aj,List.getElem?_map,hp];rfl
 have e7:(L.map (·.x)).map RcP.cells=L.map VP.cells:=by rw[List.map_map];rfl
 have tb0:=hF.now.tb
 refine FC.mono (AH8 y k ws x hx hS.wn hw8 (by rw[hS.an];exact hkn) hst htk p.x M w hF.lt hF.now.wk (fun w1 s1=>AF8 y.tb (by rw[tb0.rn];exact hL) tb0.sn (L.map (·.x)) (by rw[tb0.rn,Aj]) p.x hpx w1 (by rw[e7];exact tb0.r.sub s1))
  (fun u' x' I=>∃o:Out,P o∧WdS o.y o.A o.l ws∧u'.wd=o.y∧u'.ans=o.ans∧u'.res=o.res∧x'=o.x∧∀u,I u→ArR u o.y.na o.y.fa o.A∧TbR o.y.tb o.L o.ps u∧Sl u o.y.aa 5 (o.l.map AnT.cells)∧o.E u) ?_) ?_
 ·intro b bW c post w1 s1 h1 h2 h3 h4 h5 h6 h7 h8
  have hMb:∀j,M j→j≠b:=fun j hj e=>by have:=hF.lt j hj;omega
  have hMW:∀j,M j→j≠bW:=fun j hj e=>by have:=hF.lt j hj;omega
  refine FC.mono (hdo b bW c post w1 s1 h3 h4 h5 h6 h7 h8 (hF.sub s1) hMb hMW) ?_
  rintro _ w2 ⟨o,q1,q2,q3,q4,q5,q6,q7,q8,C,q9,q10⟩
  exact⟨_,o.x,C,_,q6,q7,⟨q3,q4,q5⟩,q9,q10,⟨o,q1,q2,rfl,rfl,rfl,rfl,fun u h=>h⟩,q8⟩
 ·rintro v w' ⟨s,u',x',C,rfl,h1,h2,h3,I,⟨o,q1,q2,q3,q4,q5,q6,q7⟩,hC⟩
  subst q6
  obtain⟨uwd,uk,ub,uP,unow,uans,ures⟩:=u'
  simp only[] at q3 q4 q5 h1 h2 hC
  subst q3 q4 q5
  exact⟨s,o,q1,rfl,⟨q2.nn,q2.nc,q2.fn,q2.fc,q2.an,q2.ac,by rw[List.length_set];exact h1,by rw[List.length_set];exact h2⟩,C,hC.imp (fun u h=>⟨(q7 u h.1).1,(q7 u h.1).2.1,(q7 u h.1).2.2.1,h.2,(q7 u h.1).2.2.2⟩),h3⟩
def Pr(y:WdP)(k:Nat)(ws:List WkP)(M:Nat→Prop)(w:World)(P:Out→Prop):Prop :=
 FC Tryz.prog 91 [.agg y.cells.toArray,.int .i64 (k:Int)] w (fun v w'=>Sub w w'∧∃o:Out,P o∧v=.tuple #[.agg o.y.cells.toArray,.bool o.ans,o.res.val,.int .i64 0]∧WdS o.y o.A o.l (ws.set k o.x)∧∃C,Ft C (o.I ws k) w'∧Up M w C)
theorem AAA{p q:Nat→Prop}{M:Nat→Prop}(h1:∀k,M k→¬p k)(h2:∀k,M k→¬q k):∀k,M k→¬(p k∨q k):=fun k hk e=>e.elim (h1 k hk) (h2 k hk)
section
variable {y:WdP} {A:Ar} {L:List VP} {ps:List Int} {l:List AnT} {ws:List WkP} {E:World→Prop} {k:Nat} {x:WkP}
theorem ABv(hx:ws[k]?=some x)(hS:WdS y A l ws)(hw8:ws.length≤8)(hl8:l.length≤8)(hkn:k<l.length)(hst:x.st=1)(htk:0≤x.took∧x.took<1000000)(p:VP)(hp:L[L.length-1]?=some p)(hL:1≤L.length∧L.length≤64)(M:Nat→Prop)(w:World)(hF:Ft M (WdM y A L ps l ws E) w):
  Pr y k ws M w (fun o=>o.A=A∧o.L=L∧o.ps=ps∧o.l=l.set k ⟨x.seq,x.op⟩∧o.x={x with took:=x.took+1,st:=2}∧o.E=E∧o.ans=false):=by
 have hk:=Cc hx
 refine Jt y A L ps l ws E k x hx hS hw8 hkn (by omega) htk p hp hL M w hF _ ?_
 intro b bW c post w1 s1 h1 h2 h3 h4 hb hW hF1 hMb hMW
 rw[show Kp x.st=157 from by rw[hst];rfl]
 refine FC.mono (ABz b _ (Kc ws k) post (Ha (Nat.le_of_lt hk)) {x with took:=x.took+1} (by show k<8;omega) l hl8 hkn hS.an h3 w1 hb hW M (hF1.imp fun u h=>h.an) hMb hMW) ?_
 rintro _ w2 ⟨a,c2,M2,q1,q2,q3,q4,q5,q6⟩
 have hF2:=hF1.step q6 (AAA hMb hMW)
 exact⟨⟨{y with wa:=some ⟨bW,0,none⟩,wn:=ws.length,wc:=c,aa:=a,an:=l.length,ac:=c2},A,L,ps,l.set k ⟨x.seq,x.op⟩,{x with took:=x.took+1,st:=2},E,false,Mu⟩,⟨rfl,rfl,rfl,rfl,rfl,rfl,rfl⟩,
  ⟨hS.nn,hS.nc,hS.fn,hS.fc,List.length_set.symm,by rw[List.length_set];exact q5,rfl,h4⟩,rfl,rfl,rfl,q1,q2,q6,_,(hF2.and q3).imp (fun u h=>⟨h.1.ar,h.1.tb,h.2,h.1.ex⟩),fun j hj=>hj.elim .inl (fun h=>(q4 j h).imp False.elim id)⟩
theorem AGc(hx:ws[k]?=some x)(hS:WdS y A l ws)(hw8:ws.length≤8)(hkn:k<l.length)(hst:x.st=2)(htk:0≤x.took∧x.took<1000000)(p:VP)(hp:L[L.length-1]?=some p)(hL:1≤L.length∧L.length≤64)(s:Int)(hap:p.v.ap[k]?=some s)(hrl:k<p.v.rs.length)(hs:¬s=x.seq)(M:Nat→Prop)(w:World)(hF:Ft M (WdM y A L ps l ws E) w):
  Pr y k ws M w (fun o=>o.A=A∧o.L=L∧o.ps=ps∧o.l=l∧o.x={x with took:=x.took+1,rc:=p.x,st:=3}∧o.E=E∧o.ans=false):=by
 have hk:=Cc hx
 have hpm:=Au hp
 refine Jt y A L ps l ws E k x hx hS hw8 hkn (by omega) htk p hp hL M w hF _ ?_
 intro b bW c post w1 s1 h1 h2 h3 h4 hb hW hF1 hMb hMW
 rw[show Kp x.st=158 from by rw[hst];rfl]
 refine FC.mono (AGy b _ (Kc ws k) post (Ha (Nat.le_of_lt hk)) {x with took:=x.took+1} p.v s hap hrl hs h3 w1 hb hW M (hF1.imp fun u h=>h.tb.v p hpm) hMb hMW) ?_
 rintro _ w2 ⟨q1,q2,q6⟩
 have hF2:=hF1.step q6 (AAA hMb hMW)
 exact⟨⟨{y with wa:=some ⟨bW,0,none⟩,wn:=ws.length,wc:=c},A,L,ps,l,{x with took:=x.took+1,rc:=p.x,st:=3},E,false,Mu⟩,⟨rfl,rfl,rfl,rfl,rfl,rfl,rfl⟩,
  ⟨hS.nn,hS.nc,hS.fn,hS.fc,hS.an,hS.ac,rfl,h4⟩,rfl,rfl,rfl,q1,q2,q6,_,hF2.imp (fun u h=>⟨h.ar,h.tb,h.an,h.ex⟩),fun j hj=>.inl hj⟩
theorem AGb(hx:ws[k]?=some x)(hS:WdS y A l ws)(hw8:ws.length≤8)(hkn:k<l.length)(hst:x.st=2)(htk:0≤x.took∧x.took<1000000)(p:VP)(hp:L[L.length-1]?=some p)(hL:1≤L.length∧L.length≤64)(hap:p.v.ap[k]?=some x.seq)(r:RsT)(hrs:p.v.rs[k]?=some r)(M:Nat→Prop)(w:World)(hF:Ft M (WdM y A L ps l ws E) w):
  Pr y k ws M w (fun o=>o.A=A∧o.L=L∧o.ps=ps∧o.l=l∧o.x={x with took:=x.took+1,rc:=Hr,st:=0,aa:=none,an:=0,ac:=0,nx:=Hr,ma:=none,mn:=0,mc:=0}∧o.E=(fun _=>True)∧o.ans=true∧o.res=r):=by
 have hk:=Cc hx
 have hpm:=Au hp
 refine Jt y A L ps l ws E k x hx hS hw8 hkn (by omega) htk p hp hL M w hF _ ?_
 intro b bW c post w1 s1 h1 h2 h3 h4 hb hW hF1 hMb hMW
 rw[show Kp x.st=158 from by rw[hst];rfl]
 refine FC.mono (AGx b _ (Kc ws k) post (Ha (Nat.le_of_lt hk)) {x with took:=x.took+1} p.v hap r hrs h3 w1 hb hW M (hF1.imp fun u h=>h.tb.v p hpm) hMb hMW) ?_
 rintro _ w2 ⟨q1,q2,q6⟩
 have hF2:=hF1.step q6 (AAA hMb hMW)
 exact⟨⟨{y with wa:=some ⟨bW,0,none⟩,wn:=ws.length,wc:=c},A,L,ps,l,{x with took:=x.took+1,rc:=Hr,st:=0,aa:=none,an:=0,ac:=0,nx:=Hr,ma:=none,mn:=0,mc:=0},(fun _=>True),true,r⟩,⟨rfl,rfl,rfl,rfl,rfl,rfl,rfl,rfl⟩,
  ⟨hS.nn,hS.nc,hS.fn,hS.fc,hS.an,hS.ac,rfl,h4⟩,rfl,rfl,rfl,q1,q2,q6,_,hF2.imp (fun u h=>⟨h.ar,h.tb,h.an,trivial⟩),fun j hj=>.inl hj⟩
theorem AJn(hx:ws[k]?=some x)(hS:WdS y A l ws)(hw8:ws.length≤8)(hkn:k<l.length)(hst:x.st=3)(htk:0≤x.took∧x.took<1000000)(p:VP)(hp:L[L.length-1]?=some p)(hL:1≤L.length∧L.length≤64)(hps:ps.length≤8)(hkp:k<ps.length)(hno:0≤x.rc.no∧x.rc.no≤1099511627776)(M:Nat→Prop)(w:World)(hF:Ft M (WdM y A L ps l ws E) w):
  Pr y k ws M w (fun o=>o.A=A∧o.L=L∧o.ps=ps.set k x.rc.no∧o.l=l∧o.x={x with took:=x.took+1,st:=4}∧o.E=E∧o.ans=false):=by
 have hk:=Cc hx
 have tb0:=hF.now.tb
 refine Jt y A L ps l ws E k x hx hS hw8 hkn (by omega) htk p hp hL M w hF _ ?_
 intro b bW c post w1 s1 h1 h2 h3 h4 hb hW hF1 hMb hMW
 rw[show Kp x.st=159 from by rw[hst];rfl]
 refine FC.mono (AJy b _ (Kc ws k) post (Ha (Nat.le_of_lt hk)) {x with took:=x.took+1} ps ⟨by rw[tb0.rn];exact hL,tb0.sn,tb0.pn,hps⟩ hkp hno h3 w1 hb hW M (hF1.imp fun u h=>h.tb.p) hMb) ?_
 rintro _ w2 ⟨b2,c2,M2,q1,q2,q3,q4,q6⟩
 have hF2:=hF1.step q6 (AAA hMb hMW)
 exact⟨⟨{y with wa:=some ⟨bW,0,none⟩,wn:=ws.length,wc:=c,tb:={y.tb with pa:=some ⟨b2,0,none⟩,pn:=ps.length,pc:=c2}},A,L,ps.set k x.rc.no,l,{x with took:=x.took+1,st:=4},E,false,Mu⟩,⟨rfl,rfl,rfl,rfl,rfl,rfl,rfl⟩,
  ⟨hS.nn,hS.nc,hS.fn,hS.fc,hS.an,hS.ac,rfl,h4⟩,rfl,rfl,rfl,q1,q2,q6,_,(hF2.and q3).imp (fun u h=>⟨h.1.ar,⟨h.1.tb.r,h.1.tb.rn,h.1.tb.rc,h.2,List.length_set.symm,h.1.tb.s,h.1.tb.sn,h.1.tb.v⟩,h.1.an,h.1.ex⟩),fun j hj=>hj.elim .inl (fun h=>(q4 j h).imp False.elim id)⟩
theorem AGd(hx:ws[k]?=some x)(hS:WdS y A l ws)(hw8:ws.length≤8)(hkn:k<l.length)(hst:x.st=4)(htk:0≤x.took∧x.took<1000000)(p:VP)(hp:L[L.length-1]?=some p)(hL:1≤L.length∧L.length≤64)(heq:p.x.no=x.rc.no)(M:Nat→Prop)(w:World)(hF:Ft M (WdM y A L ps l ws E) w):
  Pr y k ws M w (fun o=>o.A=A∧o.L=L∧o.ps=ps∧o.l=l∧o.x={x with took:=x.took+1,st:=5,aa:=none,an:=0,ac:=0}∧o.E=E∧o.ans=false):=by
 have hk:=Cc hx
 refine Jt y A L ps l ws E k x hx hS hw8 hkn (by omega) htk p hp hL M w hF _ ?_
 intro b bW c post w1 s1 h1 h2 h3 h4 hb hW hF1 hMb hMW
 rw[show Kp x.st=160 from by rw[hst];rfl]
 refine FC.mono (AGz b _ (Kc ws k) post (Ha (Nat.le_of_lt hk)) {x with took:=x.took+1} heq h3 w1 hb hW) ?_
 rintro _ w2 ⟨q1,q2,q6⟩
 have hF2:=hF1.step q6 (AAA hMb hMW)
 exact⟨⟨{y with wa:=some ⟨bW,0,none⟩,wn:=ws.length,wc:=c},A,L,ps,l,{x with took:=x.took+1,st:=5,aa:=none,an:=0,ac:=0},E,false,Mu⟩,⟨rfl,rfl,rfl,rfl,rfl,rfl,rfl⟩,
  ⟨hS.nn,hS.nc,hS.fn,hS.fc,hS.an,hS.ac,rfl,h4⟩,rfl,rfl,rfl,q1,q2,q6,_,hF2.imp (fun u h=>⟨h.ar,h.tb,h.an,h.ex⟩),fun j hj=>.inl hj⟩
theorem Wk(hx:ws[k]?=some x)(hS:WdS y A l ws)(hw8:ws.length≤8)(hl8:l.length≤8)(hkn:k<l.length)(hst:x.st=5)(htk:0≤x.took∧x.took<1000000)(p:VP)(hp:L[L.length-1]?=some p)(hL:1≤L.length∧L.length≤64)(j:Nat)(hj:j<l.length)(hxn:x.an=j)(hxc:j≤x.ac)(M:Nat→Prop)(w:World)(hF:Ft M (WdM y A L ps l ws (fun u=>Sl u x.aa 5 ((l.take j).map AnT.cells))) w):
  Pr y k ws M w (fun o=>o.A=A∧o.L=L∧o.ps=ps∧o.l=l∧(∃a c,j+1≤c∧o.x={x with took:=x.took+1,aa:=a,an:=j+1,ac:=c,st:=if l.length≤j+1 then 6 else x.st}∧o.E=(fun u=>Sl u a 5 ((l.take (j+1)).map AnT.cells)))∧o.ans=false):=by
 have hk:=Cc hx
 refine Jt y A L ps l ws _ k x hx hS hw8 hkn (by omega) htk p hp hL M w hF _ ?_
 intro b bW c post w1 s1 h1 h2 h3 h4 hb hW hF1 hMb hMW
 rw[show Kp x.st=161 from by rw[hst];rfl]
 refine FC.mono (ACn b _ (Kc ws k) post (Ha (Nat.le_of_lt hk)) {x with took:=x.took+1} l hl8 hS.an j hj hxn hxc h3 w1 hb hW M (hF1.imp fun u h=>h.an) hMb hMW M (hF1.imp fun u h=>h.ex) hMb hMW) ?_
 rintro _ w2 ⟨a,c2,M2,q1,q2,q3,q4,q5,q6⟩
 have hF2:=hF1.step q6 (AAA hMb hMW)
 exact⟨⟨{y with wa:=some ⟨bW,0,none⟩,wn:=ws.length,wc:=c},A,L,ps,l,{x with took:=x.took+1,aa:=a,an:=j+1,ac:=c2,st:=if l.length≤j+1 then 6 else x.st},(fun u=>Sl u a 5 ((l.take (j+1)).map AnT.cells)),false,Mu⟩,⟨rfl,rfl,rfl,rfl,⟨a,c2,q3,rfl,rfl⟩,rfl⟩,
  ⟨hS.nn,hS.nc,hS.fn,hS.fc,hS.an,hS.ac,rfl,h4⟩,rfl,rfl,rfl,q1,q2,q6,_,(hF2.and q4).imp (fun u h=>⟨h.1.ar,h.1.tb,h.1.an,h.2⟩),fun i hi=>hi.elim .inl (fun h=>(q5 i h).imp False.elim id)⟩
end
section
variable {y:WdP} {A:Ar} {L:List VP} {ps:List Int} {l:List AnT} {ws:List WkP} {E:World→Prop} {k:Nat} {x:WkP}
theorem AGe(hx:ws[k]?=some x)(hS:WdS y A l ws)(hw8:ws.length≤8)(hkn:k<l.length)(hst:x.st=6)(htk:0≤x.took∧x.took<1000000)(p:VP)(hp:L[L.length-1]?=some p)(hL:1≤L.length∧L.length≤64)(hrc:x.rc=p.x)(hxn:x.an=l.length)(n:Nat)(hln:l.length=n)(hv:VerOk n A p.v (Pg p.V))(hm0:RowA A p.v.rt p.V)(hlok:∀x∈l,x.ok)
  (an:AnT) (hk:l[k]?=some an) (hpd:Tm l p.v.ap=[(k:Int)]) (hb3:an.op.box=3) (hkd:an.op.kind=2∨an.op.kind=5) (hok:okP an.op) (hno:p.v.no<1099511627776) (hfr:p.V.length+2≤A.free.length) (M:Nat→Prop) (w:World) (hF:Ft M (WdM y A L ps l ws (fun u=>Sl u x.aa 5 (l.map AnT.cells))) w) :
  Pr y k ws M w (fun o=>o.L=L∧o.ps=ps∧o.l=l∧(∃xr R ma mn mc,NextP A p.v p.V an.op R o.A∧o.x={x with took:=x.took+1,st:=7,nx:=xr,ma:=ma,mn:=mn,mc:=mc}∧o.E=(fun u=>RcR u xr (Uz p.v p.V k an R)))∧o.ans=false):=by
 have hk2:=Cc hx
 have hpm:=Au hp
 refine Jt y A L ps l ws _ k x hx hS hw8 hkn (by omega) htk p hp hL M w hF _ ?_
 intro b bW c post w1 s1 h1 h2 h3 h4 hb hW hF1 hMb hMW
 rw[show Kp x.st=162 from by rw[hst];rfl]
 refine FC.mono (AG0 b _ (Kc ws k) post (Ha (Nat.le_of_lt hk2)) {x with took:=x.took+1} n A hS.nn hS.fn hS.nc hS.fc p.v p.V hv hm0 l hxn hln hlok k an hk hpd hb3 hkd hok hno hfr h3 w1 hb hW M (hF1.imp fun u h=>h.ar) hMb hMW M (hF1.imp fun u h=>by show RcR u x.rc p.v;rw[hrc];exact h.tb.v p hpm) hMb hMW M (hF1.imp fun u h=>h.ex) hMb hMW) ?_
 rintro _ w2 ⟨B,nb,fb,ncb,fcb,xr,R,ma,mn,mc,C,q1,q2,q3,q4,q5,q6,q7,q8⟩
 have hF2:=hF1.step q8 (AAA hMb hMW)
 exact⟨⟨{y with wa:=some ⟨bW,0,none⟩,wn:=ws.length,wc:=c,na:=nb,nn:=B.nodes.length,nc:=ncb,fa:=fb,fn:=B.free.length,fc:=fcb},B,L,ps,l,{x with took:=x.took+1,st:=7,nx:=xr,ma:=ma,mn:=mn,mc:=mc},(fun u=>RcR u xr (Uz p.v p.V k an R)),false,Mu⟩,⟨rfl,rfl,rfl,⟨xr,R,ma,mn,mc,q5,rfl,rfl⟩,rfl⟩,
  ⟨rfl,q3,rfl,q4,hS.an,hS.ac,rfl,h4⟩,rfl,rfl,rfl,q1,q2,q8,_,(hF2.and q6).imp (fun u h=>⟨h.2.1,h.1.tb,h.1.an,h.2.2⟩),fun i hi=>hi.elim .inl (q7 i)⟩
theorem AJo(hx:ws[k]?=some x)(p:VP)(v1:Ver)(V1:List Int)(hS:WdS y A l ws)(hw8:ws.length≤8)(hkn:k<l.length)(hst:x.st=7)(htk:0≤x.took∧x.took<1000000)(heq:p.x.no=x.rc.no)(hno:x.nx.no=p.x.no+1)(hx64:0≤p.x.no∧p.x.no<1099511627776)(M:Nat→Prop)(w:World)(hF:Ft M (WdM y A [p] ps l ws (fun u=>RcR u x.nx v1)) w):
  Pr y k ws M w (fun o=>o.A=A∧o.L=[p,⟨x.nx,v1,V1⟩]∧o.ps=ps∧o.l=l∧o.x={x with took:=x.took+1,st:=8,ma:=none,mn:=0,mc:=0}∧o.E=(fun _=>True)∧o.ans=false):=by
 have hk2:=Cc hx
 have tb0:=hF.now.tb
 refine Jt y A [p] ps l ws _ k x hx hS hw8 hkn (by omega) htk p rfl (by show 1≤1∧1≤64;decide) M w hF _ ?_
 intro b bW c post w1 s1 h1 h2 h3 h4 hb hW hF1 hMb hMW
 rw[show Kp x.st=163 from by rw[hst];rfl]
 refine FC.mono (AJ0 b _ (Kc ws k) post (Ha (Nat.le_of_lt hk2)) {x with took:=x.took+1} heq (by show 1≤y.tb.rn∧y.tb.rn<64;rw[tb0.rn];show 1≤1∧1<64;decide) tb0.sn [p.x] tb0.rn tb0.rc p.x rfl hno hx64 h3 w1 hb hW M (hF1.imp fun u h=>h.tb.r) hMb hMW) ?_
 rintro _ w2 ⟨a,c2,C,q1,q2,q3,q4,q5,q6⟩
 have hF2:=hF1.step q6 (AAA hMb hMW)
 exact⟨⟨{y with wa:=some ⟨bW,0,none⟩,wn:=ws.length,wc:=c,tb:={y.tb with ra:=a,rn:=2,rc:=c2}},A,[p,⟨x.nx,v1,V1⟩],ps,l,{x with took:=x.took+1,st:=8,ma:=none,mn:=0,mc:=0},(fun _=>True),false,Mu⟩,⟨rfl,rfl,rfl,rfl,rfl,rfl,rfl⟩,
  ⟨hS.nn,hS.nc,hS.fn,hS.fc,hS.an,hS.ac,rfl,h4⟩,rfl,rfl,rfl,q1,q2,q6,_,(hF2.and q4).imp (fun u h=>⟨h.1.ar,⟨h.2,rfl,q3,h.1.tb.p,h.1.tb.pn,h.1.tb.s,h.1.tb.sn,fun z hz=>by
   simp only[List.mem_cons,List.not_mem_nil,or_false] at hz
   rcases hz with rfl|rfl
   ·exact h.1.tb.v _ (by simp)
   ·exact h.1.ex⟩,h.1.an,trivial⟩),fun i hi=>hi.elim .inl (fun h=>(q5 i h).imp False.elim id)⟩
theorem AGa(hx:ws[k]?=some x)(p0 p1:VP)(hS:WdS y A l ws)(hw8:ws.length≤8)(hkn:k<l.length)(hst:x.st=8)(htk:0≤x.took∧x.took<1000000)(hrd:0≤x.round∧x.round<1000000)(n:Nat)(hn8:1≤n∧n≤8)(hok:TbOk n A [p0,p1] (Er n))(hk:k<n)(hps:ps.set k (-1)=Er n)(M:Nat→Prop)(w:World)(hF:Ft M (WdM y A [p0,p1] ps l ws (fun _=>True)) w):
  Pr y k ws M w (fun o=>o.L=[p1]∧o.ps=Er n∧o.l=l∧RowA o.A p1.v.rt p1.V∧o.A.nodes.length=A.nodes.length∧A.free.length≤o.A.free.length∧o.x={x with took:=x.took+1,aa:=none,an:=0,ac:=0,nx:=Hr,round:=x.round+1,st:=2}∧o.E=(fun _=>True)∧o.ans=false):=by
 have hk2:=Cc hx
 have tb0:=hF.now.tb
 refine Jt y A [p0,p1] ps l ws _ k x hx hS hw8 hkn (by omega) htk p1 rfl (by show 1≤2∧2≤64;decide) M w hF _ ?_
 intro b bW c post w1 s1 h1 h2 h3 h4 hb hW hF1 hMb hMW
 rw[show Kp x.st=164 from by rw[hst];rfl]
 refine FC.mono (AGw b _ (Kc ws k) post (Ha (Nat.le_of_lt hk2)) {x with took:=x.took+1} hrd n hn8 A hS.nn hS.fn hS.nc hS.fc p0 p1 hok ps hk hps tb0.rn tb0.sn tb0.pn tb0.rc h3 w1 hb hW M (hF1.imp fun u h=>h.ar) hMb hMW M (hF1.imp fun u h=>⟨h.tb.r,h.tb.s,h.tb.v⟩) hMb hMW M (hF1.imp fun u h=>h.tb.p) hMb) ?_
 rintro _ w2 ⟨D,nd,fd,ncd,fcd,ra,rc,b2,c2,C,CP,q1,q2,q3,q4,q5,q6,q7,q8,q9,q10,q11,q12,q13⟩
 have hF2:=hF1.step q13 (AAA hMb hMW)
 exact⟨⟨{y with wa:=some ⟨bW,0,none⟩,wn:=ws.length,wc:=c,na:=nd,nn:=D.nodes.length,nc:=ncd,fa:=fd,fn:=D.free.length,fc:=fcd,tb:={y.tb with ra:=ra,rn:=1,rc:=rc,pa:=some ⟨b2,0,none⟩,pn:=n,pc:=c2}},D,[p1],Er n,l,{x with took:=x.took+1,aa:=none,an:=0,ac:=0,nx:=Hr,round:=x.round+1,st:=2},(fun _=>True),false,Mu⟩,⟨rfl,rfl,rfl,q10,q11,q12,rfl,rfl,rfl⟩,
  ⟨rfl,q3,rfl,q4,hS.an,hS.ac,rfl,h4⟩,rfl,rfl,rfl,q1,q2,q13,_,(hF2.and (q6.and q8)).imp (fun u h=>⟨h.2.1.1,⟨h.2.1.2,rfl,q5,h.2.2,(Sm n).symm,h.1.tb.s,h.1.tb.sn,fun z hz=>by rw[List.mem_singleton.1 hz];exact h.1.tb.v _ (by simp)⟩,h.1.an,trivial⟩),fun i hi=>hi.elim .inl (fun h=>h.elim (q7 i) (fun h=>(q9 i h).imp False.elim id))⟩
end
theorem AAP(b:Nat)(z:StP)(ht:0≤z.time∧z.time<1000000000)(w:World)(hz:Has w b z.cells 173):
  FC Tryz.prog 93 [.pointer (some ⟨b,0,none⟩),.int .i64 0,.int .i64 0,.int .i64 0] w (fun v w'=>v=.tuple #[.agg ({z with time:=z.time+1}:StP).cells.toArray,.int .i64 0,.int .i64 0]∧Agr (· = b) w w'):=by
 refine As Tryz.func93 rfl Tryz.ntmps93 rfl ?_
 have G:Agr (· = b) w w:=Agr.refl _ _
 refine Ac<|Aa rfl<|Ay Ka rfl rfl (fun f i e g a d=>?_);have c:=hz.ne e
 have geG_8:=Gi G e
 have G:=G.trans d.agr;have hz:=hz.sub d;refine Ah rfl<|Ah rfl<|Ae<|Ab<|Ac<|Ac<|Aa rfl<|Af rfl<|Ak (.as (v':=.bool false) (.bin rfl rfl rfl) (Bt (fun h=>h rfl)))<|Ae<|Ab<|Bw rfl<|Ao<|Ab<|Ac<|Aa rfl ?_;refine Af rfl<|Ak (.nilCheck rfl)<|Av Ij rfl<|Av AAL rfl<|Ba sh3 rfl hz rfl<|Ak (.as (.bin rfl rfl rfl) (Cs (y:=z.time+1) (by rfl) (by omega)))<|Ak (.nilCheck rfl)<|Av Ij rfl<|Av AAL rfl<|At sh3 rfl rfl rfl hz (fun w1 z1 hz a1=>?_);have G:=G.trans a1;have a:=a.upd a1 c.symm
 have hz:Has w1 b (({z with time:=z.time+1}:StP).cells) _:=hz
 refine Ae<|Ab<|Ac<|Aa rfl<|Af rfl<|Ak (.nilCheck rfl)<|Av Ij rfl<|Ak (.loadR (({z with time:=z.time+1}:StP).cells) Dw rfl hz.row rfl)<|Af rfl<|At Dw rfl rfl rfl a (fun w2 z2 a a2=>?_)
 have G:=Dv G a2 geG_8
 have a:Has w2 f (({z with time:=z.time+1}:StP).cells) _:=a.now (by kernel_rfl)
 refine Ah rfl<|Ah rfl<|Ae<|Ab<|Bo (rs:=[.cell 8 67,.tmp 9,.tmp 10]) (vs:=[_,_,_]) rfl rfl ⟨⟨_,rfl,.inr ⟨({z with time:=z.time+1}:StP).cells,Dw,a.row,rfl⟩⟩,rfl,rfl,trivial⟩ ?_
 exact⟨rfl,G⟩
set_option maxRecDepth 10000 in
theorem AIF(z:StP)(k:Nat)(M:Nat→Prop)(w:World)(hM:∀j,M j→j<w.heap.size)(ht:0≤z.time∧z.time<1000000000)(K:WdP→RsT→(World→Prop)→Prop)
  (hstep:∀w1,Sub w w1→FC Tryz.prog 91 [.agg z.wd.cells.toArray,.int .i64 (k:Int)] w1 (fun v w'=>Sub w1 w'∧∃y' r I C,v=.tuple #[.agg (y':WdP).cells.toArray,.bool false,(r:RsT).val,.int .i64 0]∧K y' r I∧Ft C I w'∧Up M w1 C)) :
  FC Tryz.prog 41 [.agg z.cells.toArray,.int .i64 (k:Int)] w (fun v w'=>Sub w w'∧∃y' r I C,v=.tuple #[.agg ({z with wd:=y',time:=z.time+1}:StP).cells.toArray,.int .i64 0]∧K y' r I∧Ft C I w'∧Up M w C):=by
 refine As Tryz.func41 rfl Tryz.ntmps41 rfl ?_
 have S:=Ax w
 refine Ac<|Aa rfl<|Bu rfl rfl rfl (fun U W Y ae b X=>?_);have P:=S.le Y;have S:=S.trans X
 have b:Has W U (z.cells) _:=b
 refine Ay Ka rfl rfl (fun T ai R ad c Q=>?_);have O:=S.le R;have B:=b.ne R;have S:=S.trans Q;have b:=b.sub Q;refine Ah rfl<|Ae<|Ab<|Ac<|Aa rfl<|Ak (.loadR (z.cells) Dw rfl b.row rfl)<|Ak (.buildS (vs:=[(0,.agg z.cells.toArray)]) (cs:=(z.cells).toArray) ACz AC5 rfl (by kernel_rfl))<|Bu rfl rfl rfl (fun q G D V a t=>?_);have s:=S.le D;have g:=b.ne D;have f:=c.ne D;have S:=S.trans t;have b:=b.sub t;have c:=c.sub t
 have a:Has G q (z.cells) _:=a
 refine Ah rfl<|Ae<|Ab<|Ac<|Aa rfl<|Av Gp rfl<|Ak (.loadR (z.wd.cells) Hw rfl (Ia (m1:=List.take 0 (z.cells)) (m2:=z.wd.cells) (m3:=List.drop 7 (z.cells)) b rfl) rfl)<|Af rfl<|Az rfl AJa (hstep G S) ?_;rintro _ w1 ⟨s2,y',r,I,C,rfl,hK,hC,upC⟩
 have dC2:∀j,C j→j≠U:=fun j hj e=>(upC j hj).elim (fun h=>by have:=hM j h;omega) (fun h=>by have:=b.lt;omega)
 have dC4:∀j,C j→j≠T:=fun j hj e=>(upC j hj).elim (fun h=>by have:=hM j h;omega) (fun h=>by have:=c.lt;omega)
 have dC13:∀j,C j→j≠q:=fun j hj e=>(upC j hj).elim (fun h=>by have:=hM j h;omega) (fun h=>by have:=a.lt;omega)
 have upC:=upC.le S.size
 have S:=S.trans s2;have b:=b.sub s2;have c:=c.sub s2;have a:=a.sub s2;refine Af rfl<|Bz rfl rfl<|Bz rfl rfl<|Bz rfl rfl<|Bz rfl rfl<|Ay Tz rfl rfl (fun aa ah J ac d H=>?_);have N:=S.le J;have A:=b.ne J;have x:=c.ne J;have p:=a.ne J;have n:=hC.neNew J;have S:=S.trans H;have b:=b.sub H;have c:=c.sub H;have a:=a.sub H;have hC:=hC.sub H;refine Ay Nh rfl rfl (fun Z ag F ab i E=>?_);have L:=S.le F;have y:=b.ne F;have u:=c.ne F;have o:=a.ne F;have l:=d.ne F;have m:=hC.neNew F;have S:=S.trans E;have b:=b.sub E;have c:=c.sub E;have a:=a.sub E;have hC:=hC.sub E;have d:=d.sub E;refine At Hw rfl rfl rfl d (fun w3 z3 d a3=>?_);have S:=S.upd a3 N;have b:=b.upd a3 A;have c:=c.upd a3 x;have a:=a.upd a3 p;have hC:=hC.updD a3 n;have i:=i.upd a3 l.symm
 have d:Has w3 aa (y'.cells) _:=d.now (by kernel_rfl)
 refine Ah rfl<|At Hq rfl rfl rfl i (fun w4 z4 i a4=>?_);have S:=S.upd a4 L;have b:=b.upd a4 y;have c:=c.upd a4 u;have a:=a.upd a4 o;have hC:=hC.updD a4 m;have d:=d.upd a4 l
 have i:Has w4 Z (r.cells) _:=i.now (by kernel_rfl)
 refine Ah rfl<|Ae<|Ab<|Ac<|Aa rfl<|Af rfl<|Ak (.loadR (y'.cells) Hw rfl d.row rfl)<|Ak (.nilCheck rfl)<|Av Ij rfl<|Av Gp rfl<|At Hw rfl rfl rfl a (fun w5 z5 a a5=>?_);have S:=S.upd a5 s;have b:=b.upd a5 g;have c:=c.upd a5 f;have hC:=hC.updD a5 dC13
 have a:Has w5 q (({z with wd:=y'}:StP).cells) _:=a.eqc (by kernel_rfl)
 refine Ae<|Ab<|Ac<|Ac<|Aa rfl<|Af rfl<|Af rfl<|Bd 5 rfl<|Bq rfl rfl<|Ae<|Ab<|Bw rfl<|Ao<|Ab<|Ac<|Aa rfl ?_;refine Af rfl<|Af rfl<|Az rfl AFD (AAP q {z with wd:=y'} ht w5 a) ?_;rintro _ w6 ⟨rfl,a65⟩;have S:=S.upd a65 s;have b:=b.upd a65 g;have c:=c.upd a65 f;have hC:=hC.updD a65 dC13;refine Af rfl<|Bz rfl rfl<|Bz rfl rfl<|Bz rfl rfl<|At Dw rfl rfl rfl b (fun w8 z8 b a8=>?_);have S:=S.upd a8 P;have c:=c.upd a8 B.symm;have hC:=hC.updD a8 dC2;refine Ah rfl<|Ae<|Ab<|Ac<|Aa rfl<|Ak (.loadR (_) Dw rfl b.row rfl)<|Af rfl<|At Dw rfl rfl rfl c (fun w9 z9 c a9=>?_);have S:=S.upd a9 O;have hC:=hC.updD a9 dC4
 have c:Has w9 T (({z with wd:=y',time:=z.time+1}:StP).cells) _:=c.now (by kernel_rfl)
 refine Ah rfl<|Ae<|Ab<|Bo (rs:=[.cell 4 67,.tmp 5]) (vs:=[_,_]) rfl rfl ⟨⟨_,rfl,.inr ⟨({z with wd:=y',time:=z.time+1}:StP).cells,Dw,c.row,rfl⟩⟩,rfl,trivial⟩ ?_
 exact⟨S,y',r,I,C,rfl,hK,hC,upC⟩
structure EnQ where
 proc:Int
 op:OpT
 res:RsT
 a:Int
 b:Int
def EnQ.cells(e:EnQ):List Value:=[.int .i64 e.proc,.int .i64 e.op.box,.int .i64 e.op.kind,.int .i64 e.op.a,.int .i64 e.op.b,.int .i64 e.res.e,.int .i64 e.res.a,.int .i64 e.res.b,.int .i64 e.a,.int .i64 e.b]
theorem AAE(l:List EnQ):∀r∈l.map EnQ.cells,r.length=10:=fun r hr=>by obtain⟨z,_,rfl⟩:=List.mem_map.1 hr;rfl
set_option maxRecDepth 10000 in
theorem AIE(z:StP)(k:Nat)(M:Nat→Prop)(w:World)(hM:∀j,M j→j<w.heap.size)(ht:0≤z.time∧z.time<1000000000)(ws:List WkP)(x:WkP)(hx:ws[k]?=some x)(hwn:z.wd.wn=ws.length)(hwk:Sl w z.wd.wa 24 (ws.map WkP.cells))(si:List Int)(s0:Int)(hs0:si[k]?=some s0)(hin:z.inn=si.length)(hsi:Sl w z.ia 1 (si.map fun x=>[i6 x]))(lg:List EnQ)(hln:z.ln=lg.length)(hlc:lg.length≤z.lc)(hlg:Sl w z.la 10 (lg.map EnQ.cells))(hl9:lg.length≤1000)(K:WdP→RsT→(World→Prop)→Prop)
  (hstep:∀w1,Sub w w1→FC Tryz.prog 91 [.agg z.wd.cells.toArray,.int .i64 (k:Int)] w1 (fun v w'=>Sub w1 w'∧∃y' r I C,v=.tuple #[.agg (y':WdP).cells.toArray,.bool true,(r:RsT).val,.int .i64 0]∧K y' r I∧Ft C I w'∧Up M w1 C)) :
  FC Tryz.prog 41 [.agg z.cells.toArray,.int .i64 (k:Int)] w (fun v w'=>Sub w w'∧∃y' r I C a c CL,v=.tuple #[.agg ({z with wd:=y',time:=z.time+1,la:=a,ln:=lg.length+1,lc:=c}:StP).cells.toArray,.int .i64 0]∧K y' r I∧Ft C I w'∧Up M w C∧lg.length+1≤c∧Ft CL (fun u=>Sl u a 10 ((lg++[(⟨k,x.op,r,s0,z.time⟩:EnQ)]).map EnQ.cells)) w'∧UpN w CL):=by
 obtain⟨wd,time,ia,inn,ic,la,ln,lc,ca,cn,cc⟩:=z
 simp only[] at ht hwn hwk hin hsi hln hlc hlg hstep
 subst hin hln
 have hxz:ws[(k:Int).toNat]?=some x:=by rw[Int.toNat_natCast];exact hx
 have hsz:si[(k:Int).toNat]?=some s0:=by rw[Int.toNat_natCast];exact hs0
 have hxl:=Cc hx
 have hsl:=Cc hs0
 have hws:=hwk
 refine As Tryz.func41 rfl Tryz.ntmps41 rfl ?_
 have S:=Ax w
 refine Ac<|Aa rfl<|Bu rfl rfl rfl (fun a1 bd bf bl b be=>?_);have av:=S.le bf;have S:=S.trans be
 have b:Has bd a1 ((⟨wd,time,ia,si.length,ic,la,lg.length,lc,ca,cn,cc⟩:StP).cells) _:=b
 refine Ay Ka rfl rfl (fun ay bo bb bk f ba=>?_);have au:=S.le bb;have J:=b.ne bb;have S:=S.trans ba;have b:=b.sub ba;refine Ah rfl<|Ae<|Ab<|Ac<|Aa rfl<|Ak (.loadR ((⟨wd,time,ia,si.length,ic,la,lg.length,lc,ca,cn,cc⟩:StP).cells) Dw rfl b.row rfl)<|Ak (.buildS (vs:=[(0,.agg (⟨wd,time,ia,si.length,ic,la,lg.length,lc,ca,cn,cc⟩:StP).cells.toArray)]) (cs:=((⟨wd,time,ia,si.length,ic,la,lg.length,lc,ca,cn,cc⟩:StP).cells).toArray) ACz AC5 rfl (by kernel_rfl))<|Bu rfl rfl rfl (fun L an aj bc d ai=>?_);have H:=S.le aj;have o:=b.ne aj;have B:=f.ne aj;have S:=S.trans ai;have b:=b.sub ai;have f:=f.sub ai
 have d:Has an L ((⟨wd,time,ia,si.length,ic,la,lg.length,lc,ca,cn,cc⟩:StP).cells) _:=d
 refine Ah rfl<|Ae<|Ab<|Ac<|Aa rfl<|Av Gp rfl<|Ak (.loadR (wd.cells) Hw rfl (Ia (m1:=List.take 0 ((⟨wd,time,ia,si.length,ic,la,lg.length,lc,ca,cn,cc⟩:StP).cells)) (m2:=wd.cells) (m3:=List.drop 7 ((⟨wd,time,ia,si.length,ic,la,lg.length,lc,ca,cn,cc⟩:StP).cells)) b rfl) rfl)<|Af rfl<|Az rfl AJa (hstep an S) ?_;rintro _ w1 ⟨s2,y',r,I,C,rfl,hK,hC,upC⟩
 have dC2:∀j,C j→j≠a1:=fun j hj e=>(upC j hj).elim (fun h=>by have:=hM j h;omega) (fun h=>by have:=b.lt;omega)
 have dC4:∀j,C j→j≠ay:=fun j hj e=>(upC j hj).elim (fun h=>by have:=hM j h;omega) (fun h=>by have:=f.lt;omega)
 have dC13:∀j,C j→j≠L:=fun j hj e=>(upC j hj).elim (fun h=>by have:=hM j h;omega) (fun h=>by have:=d.lt;omega)
 have upC:=upC.le S.size
 have S:=S.trans s2;have b:=b.sub s2;have f:=f.sub s2;have d:=d.sub s2;refine Af rfl<|Bz rfl rfl<|Bz rfl rfl<|Bz rfl rfl<|Bz rfl rfl<|Ay Tz rfl rfl (fun bh bn ax bj g ap=>?_);have a9:=S.le ax;have Q:=b.ne ax;have O:=f.ne ax;have A:=d.ne ax;have Z:=hC.neNew ax;have S:=S.trans ap;have b:=b.sub ap;have f:=f.sub ap;have d:=d.sub ap;have hC:=hC.sub ap;refine Ay Nh rfl rfl (fun bg bm am bi l al=>?_);have a8:=S.le am;have P:=b.ne am;have N:=f.ne am;have s:=d.ne am;have T:=g.ne am;have Y:=hC.neNew am;have S:=S.trans al;have b:=b.sub al;have f:=f.sub al;have d:=d.sub al;have hC:=hC.sub al;have g:=g.sub al;refine At Hw rfl rfl rfl g (fun w3 z3 g a3=>?_);have S:=S.upd a3 a9;have b:=b.upd a3 Q;have f:=f.upd a3 O;have d:=d.upd a3 A;have hC:=hC.updD a3 Z;have l:=l.upd a3 T.symm
 have g:Has w3 bh (y'.cells) _:=g.now (by kernel_rfl)
 refine Ah rfl<|At Hq rfl rfl rfl l (fun w4 z4 l a4=>?_);have S:=S.upd a4 a8;have b:=b.upd a4 P;have f:=f.upd a4 N;have d:=d.upd a4 s;have hC:=hC.updD a4 Y;have g:=g.upd a4 T
 have l:Has w4 bg (r.cells) _:=l.now (by kernel_rfl)
 refine Ah rfl<|Ae<|Ab<|Ac<|Aa rfl<|Af rfl<|Ak (.loadR (y'.cells) Hw rfl g.row rfl)<|Ak (.nilCheck rfl)<|Av Ij rfl<|Av Gp rfl<|At Hw rfl rfl rfl d (fun w5 z5 d a5=>?_);have S:=S.upd a5 H;have b:=b.upd a5 o;have f:=f.upd a5 B;have hC:=hC.updD a5 dC13;have g:=g.upd a5 A.symm;have l:=l.upd a5 s.symm
 have d:Has w5 L ((⟨y',time,ia,si.length,ic,la,lg.length,lc,ca,cn,cc⟩:StP).cells) _:=d.eqc (by kernel_rfl)
 refine Ae<|Ab<|Ac<|Ac<|Aa rfl<|Af rfl<|Af rfl<|Af rfl<|Av Se rfl<|Ba El rfl b rfl<|Cm Dd rfl<|Ak (.as (v':=.bool true) (.bin rfl rfl rfl) (Cr (by show((k:Nat):Int)<((si.length:Nat):Int);omega)))<|Br rfl rfl<|Ae<|Ab<|Bm rfl ?_;refine Bs (fun k=>k=L) [26] w5.heap.size 27 rfl rfl mxo (fun w6 s7=>?_)
 have hNN:∀k,((k=L)∨w5.heap.size≤k)→w.heap.size≤k:=fun k e=>e.elim (fun e=>e▸H) (fun e=>Ad S.size e)
 have ent_S:=S.size
 have hN0:∀k,w5.heap.size≤k→w.heap.size≤k:=fun k e=>Ad S.size e
 have F:=b.lt;have a0:=f.lt;have aq:=d.lt
 have ltD_hC:=fun k hk=>(hC.ge k hk).2
 have az:=g.lt;have ae:=l.lt;have szD:=Nat.le_refl w5.heap.size;have S:=S.trans s7;have b:=b.sub s7;have f:=f.sub s7;have d:=d.sub s7;have hC:=hC.sub s7;have g:=g.sub s7;have l:=l.sub s7;have szD:=Ad szD s7.size;refine Bp 0 rfl rfl<|Bl 1 rfl Vk rfl<|Ck 2 rfl AE8 rfl b (nE o F) rfl<|Bp 4 rfl rfl<|Bl 5 rfl Gp rfl<|Bl 6 rfl Gz rfl<|Ck 7 rfl Nj rfl b (nE o F) rfl<|Bp 8 rfl rfl<|Bg 9 rfl (fun _ _=>.indexS Nb rfl rfl (by show 0≤((k:Nat):Int)∧((k:Nat):Int)<((wd.wn:Nat):Int);rw[hwn];omega) (hws.is (i:=0) (by simp only[Aj,Al,Am];omega)))<|Bg 10 rfl (fun _ _=>.fieldA ACN rfl)<|Bg 11 rfl (fun w' s'=>.loadR (x.op.cells) Uc rfl (AAX (pre:=[.int .i64 x.st]) (mid:=x.op.cells) (post:=List.drop 5 x.cells) ((hwk.sub (S.agrN s' hNN)).rowAt (enc:=WkP.cells) (i:=(k:Int).toNat) hxz) rfl) rfl)<|Bg 12 rfl (fun w' s'=>.loadR (r.cells) Hq rfl (l.step s' (nE s.symm ae)).row rfl)<|Bl 13 rfl Se rfl<|Ck 14 rfl El rfl b (nE o F) rfl<|Bp 15 rfl rfl<|Bg 16 rfl (fun _ _=>.indexS Dd rfl rfl (by show 0≤((k:Nat):Int)∧((k:Nat):Int)<((si.length:Nat):Int);omega) (hsi.is (i:=0) (by simp only[Aj,Al,Am];omega))) ?_;refine Bg 17 rfl (fun w' s'=>.load1 sh3 rfl ((hsi.sub (S.agrN s' hNN)).one (enc:=i6) (i:=(k:Int).toNat) hsz))<|Bl 18 rfl AAL rfl<|Ck 19 rfl sh3 rfl b (nE o F) rfl<|Bg 20 rfl (fun _ _=>.buildS (vs:=[(0,.int .i64 (k:Int)),(1,.agg x.op.cells.toArray),(2,.agg r.cells.toArray),(3,.int .i64 s0),(4,.int .i64 time)]) (cs:=((⟨(k:Int),x.op,r,s0,time⟩:EnQ).cells).toArray) AE5 AMQ rfl (by kernel_rfl))<|Ej [3,21] (by kernel_rfl) rfl (Ca rfl ?_ (Ca rfl ?_ (Do)))
 ·
  refine Az rfl AKb (ABc lg.length la lc w6 hlc) ?_;rintro _ w8 ⟨rfl,s9⟩;have S:=S.trans s9;have b:=b.sub s9;have f:=f.sub s9;have d:=d.sub s9;have hC:=hC.sub s9;have g:=g.sub s9;have l:=l.sub s9;have szD:=Ad szD s9.size;refine Be s9.agr<|Aq 21 rfl<|Bi Zx _ AE5 rfl rfl rfl rfl rfl rfl rfl (fun ak ah t a2 G q=>?_)
  have ag:w5.heap.size≤ak:=by rw[t];exact szD
  have ar:=S.le t;have ad:=b.ne t;have ac:=f.ne t;have U:=d.ne t;have ab:=g.ne t;have aa:=l.ne t;have R:=hC.neNew t;have S:=S.trans q;have b:=b.sub q;have f:=f.sub q;have d:=d.sub q;have hC:=hC.sub q;have g:=g.sub q;have l:=l.sub q;have szD:=Ad szD q.size;refine Be q.agr<|Aq 22 rfl ?_;have ao:=S.size
  have ltb_2_58:=b.lt
  have ltb_4_58:=f.lt
  have ltb_13_58:=d.lt
  have ltb_7_58:=g.lt
  have ltb_9_58:=l.lt
  have ltb_57_58:=G.lt
  refine De (base:=ah.heap.size) (rows:=lg.map EnQ.cells) (news:=[_]) Zx AE5 rfl rfl rfl rfl (.inr ⟨_,by rw[Aj],hlg.sub S,AAE _⟩) (Dr G) rfl (by intro r hr;rw[List.mem_singleton] at hr;subst hr;rfl) rfl (by(try simp only[Aj,Am,Ag,Al]);omega) (by(try simp only[Aj,Am,Ag,Al]);omega) (by omega) rfl rfl (fun a7 a6 hc_58 V n ob_58=>?_)
  have S:=S.agrN n (fun k e=>Ad (by omega) e.2)
  have b:=b.step n (fun e=>absurd e.2 (by omega));have f:=f.step n (fun e=>absurd e.2 (by omega));have d:=d.step n (fun e=>absurd e.2 (by omega));have hC:=hC.step n (fun k hk e=>absurd e.2 (by have:=(hC.ge k hk).2;omega));have g:=g.step n (fun e=>absurd e.2 (by omega));have l:=l.step n (fun e=>absurd e.2 (by omega));have szD:=Ad szD n.size
  have o58:=V (.inl (by simp))
  rw[show lg.map EnQ.cells++[(Value.agg (⟨(k:Int),x.op,r,s0,time⟩:EnQ).cells.toArray).cells.toList]=(lg++[(⟨(k:Int),x.op,r,s0,time⟩:EnQ)]).map EnQ.cells from by rw[List.map_append];rfl] at o58
  obtain⟨y,cap58,X,e58,aw,k58,_,m,_⟩:=o58.has (by simp)
  rw[Aj,Ag,List.length_singleton] at e58 k58
  subst e58
  have E:y≠a1:=by omega
  have D:y≠ay:=by omega
  have p:y≠L:=by omega
  have W:w.heap.size≤y:=(by omega)
  refine Be (n.mono fun k _ e=>by have:=e.2;omega)<|Ci 23 rfl rfl<|Bl 24 rfl Ij rfl<|Bl 25 rfl Vk rfl<|Aq 26 rfl<|At AE8 rfl rfl rfl d (fun w10 z10 d a10=>?_);have S:=S.upd a10 H;have b:=b.upd a10 o;have f:=f.upd a10 B;have hC:=hC.updD a10 dC13;have g:=g.upd a10 A.symm;have l:=l.upd a10 s.symm;have szD:=Ad szD a10.size;have m:=m.upd a10 p;refine Cq rfl a10 (rfl)<|Cp<|Ab<|Ac<|Aa rfl<|Af rfl<|Af rfl<|Az rfl AFD (AAP L (⟨y',time,ia,si.length,ic,(some ⟨y,0,none⟩),(lg.length+1),cap58,ca,cn,cc⟩:StP) ht w10 d) ?_;rintro _ w11 ⟨rfl,a65⟩;have S:=S.upd a65 H;have b:=b.upd a65 o;have f:=f.upd a65 B;have hC:=hC.updD a65 dC13;have g:=g.upd a65 A.symm;have l:=l.upd a65 s.symm;have m:=m.upd a65 p;refine Af rfl<|Bz rfl rfl<|Bz rfl rfl<|Bz rfl rfl<|At Dw rfl rfl rfl b (fun w13 z13 b a13=>?_);have S:=S.upd a13 av;have f:=f.upd a13 J.symm;have hC:=hC.updD a13 dC2;have g:=g.upd a13 Q.symm;have l:=l.upd a13 P.symm;have m:=m.upd a13 E;refine Ah rfl<|Ae<|Ab<|Ac<|Aa rfl<|Ak (.loadR (_) Dw rfl b.row rfl)<|Af rfl<|At Dw rfl rfl rfl f (fun w14 z14 f a14=>?_);have S:=S.upd a14 au;have b:=b.upd a14 J;have hC:=hC.updD a14 dC4;have g:=g.upd a14 O.symm;have l:=l.upd a14 N.symm;have m:=m.upd a14 D
  have f:Has w14 ay ((⟨y',(time+1),ia,si.length,ic,(some ⟨y,0,none⟩),(lg.length+1),cap58,ca,cn,cc⟩:StP).cells) _:=f.now (by kernel_rfl)
  refine Ah rfl<|Ae<|Ab<|Bo (rs:=[.cell 4 67,.tmp 5]) (vs:=[_,_]) rfl rfl ⟨⟨_,rfl,.inr ⟨(⟨y',(time+1),ia,si.length,ic,(some ⟨y,0,none⟩),(lg.length+1),cap58,ca,cn,cc⟩:StP).cells,Dw,f.row,rfl⟩⟩,rfl,trivial⟩ ?_
  exact⟨S,y',r,I,C,some ⟨y,0,none⟩,cap58,_,rfl,hK,hC,upC,k58,m.ft.imp (fun u h=>Has.sl (extra:=X) h (AAE _)),By W⟩
 ·
  refine Bi Zx _ AE5 rfl rfl rfl rfl rfl rfl rfl (fun ak ah t a2 G q=>?_)
  have ag:w5.heap.size≤ak:=by rw[t];exact szD
  have ar:=S.le t;have ad:=b.ne t;have ac:=f.ne t;have U:=d.ne t;have ab:=g.ne t;have aa:=l.ne t;have R:=hC.neNew t;have S:=S.trans q;have b:=b.sub q;have f:=f.sub q;have d:=d.sub q;have hC:=hC.sub q;have g:=g.sub q;have l:=l.sub q;have szD:=Ad szD q.size;refine Be q.agr<|Aq 3 rfl<|Az rfl AKb (ABc lg.length la lc ah hlc) ?_;rintro _ w15 ⟨rfl,s16⟩;have S:=S.trans s16;have b:=b.sub s16;have f:=f.sub s16;have d:=d.sub s16;have hC:=hC.sub s16;have g:=g.sub s16;have l:=l.sub s16;have szD:=Ad szD s16.size;have G:=G.sub s16;refine Be s16.agr<|Aq 22 rfl ?_;have ao:=S.size
  have ltb_2_58:=b.lt
  have ltb_4_58:=f.lt
  have ltb_13_58:=d.lt
  have ltb_7_58:=g.lt
  have ltb_9_58:=l.lt
  have ltb_57_58:=G.lt
  refine De (base:=w15.heap.size) (rows:=lg.map EnQ.cells) (news:=[_]) Zx AE5 rfl rfl rfl rfl (.inr ⟨_,by rw[Aj],hlg.sub S,AAE _⟩) (Dr G) rfl (by intro r hr;rw[List.mem_singleton] at hr;subst hr;rfl) rfl (by(try simp only[Aj,Am,Ag,Al]);omega) (by(try simp only[Aj,Am,Ag,Al]);omega) (by omega) rfl rfl (fun a7 a6 hc_58 V n ob_58=>?_)
  have S:=S.agrN n (fun k e=>Ad (by omega) e.2)
  have b:=b.step n (fun e=>absurd e.2 (by omega));have f:=f.step n (fun e=>absurd e.2 (by omega));have d:=d.step n (fun e=>absurd e.2 (by omega));have hC:=hC.step n (fun k hk e=>absurd e.2 (by have:=(hC.ge k hk).2;omega));have g:=g.step n (fun e=>absurd e.2 (by omega));have l:=l.step n (fun e=>absurd e.2 (by omega));have szD:=Ad szD n.size
  have o58:=V (.inl (by simp))
  rw[show lg.map EnQ.cells++[(Value.agg (⟨(k:Int),x.op,r,s0,time⟩:EnQ).cells.toArray).cells.toList]=(lg++[(⟨(k:Int),x.op,r,s0,time⟩:EnQ)]).map EnQ.cells from by rw[List.map_append];rfl] at o58
  obtain⟨y,cap58,X,e58,aw,k58,_,m,_⟩:=o58.has (by simp)
  rw[Aj,Ag,List.length_singleton] at e58 k58
  subst e58
  have E:y≠a1:=by omega
  have D:y≠ay:=by omega
  have p:y≠L:=by omega
  have W:w.heap.size≤y:=(by omega)
  refine Be (n.mono fun k _ e=>by have:=e.2;omega)<|Ci 23 rfl rfl<|Bl 24 rfl Ij rfl<|Bl 25 rfl Vk rfl<|Aq 26 rfl<|At AE8 rfl rfl rfl d (fun w17 z17 d a17=>?_);have S:=S.upd a17 H;have b:=b.upd a17 o;have f:=f.upd a17 B;have hC:=hC.updD a17 dC13;have g:=g.upd a17 A.symm;have l:=l.upd a17 s.symm;have szD:=Ad szD a17.size;have m:=m.upd a17 p;refine Cq rfl a17 (rfl)<|Cp<|Ab<|Ac<|Aa rfl<|Af rfl<|Af rfl<|Az rfl AFD (AAP L (⟨y',time,ia,si.length,ic,(some ⟨y,0,none⟩),(lg.length+1),cap58,ca,cn,cc⟩:StP) ht w17 d) ?_;rintro _ w18 ⟨rfl,a65⟩;have S:=S.upd a65 H;have b:=b.upd a65 o;have f:=f.upd a65 B;have hC:=hC.updD a65 dC13;have g:=g.upd a65 A.symm;have l:=l.upd a65 s.symm;have m:=m.upd a65 p;refine Af rfl<|Bz rfl rfl<|Bz rfl rfl<|Bz rfl rfl<|At Dw rfl rfl rfl b (fun w20 z20 b a20=>?_);have S:=S.upd a20 av;have f:=f.upd a20 J.symm;have hC:=hC.updD a20 dC2;have g:=g.upd a20 Q.symm;have l:=l.upd a20 P.symm;have m:=m.upd a20 E;refine Ah rfl<|Ae<|Ab<|Ac<|Aa rfl<|Ak (.loadR (_) Dw rfl b.row rfl)<|Af rfl<|At Dw rfl rfl rfl f (fun w21 z21 f a21=>?_);have S:=S.upd a21 au;have b:=b.upd a21 J;have hC:=hC.updD a21 dC4;have g:=g.upd a21 O.symm;have l:=l.upd a21 N.symm;have m:=m.upd a21 D
  have f:Has w21 ay ((⟨y',(time+1),ia,si.length,ic,(some ⟨y,0,none⟩),(lg.length+1),cap58,ca,cn,cc⟩:StP).cells) _:=f.now (by kernel_rfl)
  refine Ah rfl<|Ae<|Ab<|Bo (rs:=[.cell 4 67,.tmp 5]) (vs:=[_,_]) rfl rfl ⟨⟨_,rfl,.inr ⟨(⟨y',(time+1),ia,si.length,ic,(some ⟨y,0,none⟩),(lg.length+1),cap58,ca,cn,cc⟩:StP).cells,Dw,f.row,rfl⟩⟩,rfl,trivial⟩ ?_
  exact⟨S,y',r,I,C,some ⟨y,0,none⟩,cap58,_,rfl,hK,hC,upC,k58,m.ft.imp (fun u h=>Has.sl (extra:=X) h (AAE _)),By W⟩
def AA1(x:WkP)(o:OpT):WkP:={x with op:=o,seq:=x.seq+1,round:=0,took:=0,st:=1}
set_option maxRecDepth 10000 in
theorem AH9(y:WdP)(k:Nat)(ws:List WkP)(x:WkP)(hx:ws[k]?=some x)(hws:y.wn=ws.length)(hw8:ws.length≤8)(hst:x.st=0)(hsq:0≤x.seq∧x.seq<1000000)(o:OpT)(hok:okP o)(w:World)(hwk:Sl w y.wa 24 (ws.map WkP.cells)):
  FC Tryz.prog 118 [.agg y.cells.toArray,.int .i64 (k:Int),.agg o.cells.toArray] w (fun v w'=>Sub w w'∧∃b c C,v=.tuple #[.agg ({y with wa:=some ⟨b,0,none⟩,wn:=ws.length,wc:=c}:WdP).cells.toArray,.int .i64 0]∧ws.length≤c∧Ft C (fun u=>Sl u (some ⟨b,0,none⟩) 24 ((ws.set k (AA1 x o)).map WkP.cells)) w'∧UpN w C):=by
 have hkl:=Cc hx
 have hxz:ws[(k:Int).toNat]?=some x:=by rw[Int.toNat_natCast];exact hx
 obtain⟨na,nn,nc,fa,fn,fc,tb,aa,an,ac,wa,wn,wc⟩:=y
 simp only[] at hws hwk
 subst hws
 refine As Tryz.func118 rfl Tryz.ntmps118 rfl ?_
 have S:=Ax w
 refine Ac<|Aa rfl<|Bu rfl rfl rfl (fun J R V Y d T=>?_);have I:=S.le V;have S:=S.trans T
 have d:Has R J ((⟨na,nn,nc,fa,fn,fc,tb,aa,an,ac,wa,ws.length,wc⟩:WdP).cells) _:=d
 refine Bu rfl rfl rfl (fun N Q U X m K=>?_);have E:=d.ne U;have S:=S.trans K;have d:=d.sub K
 have m:Has Q N (o.cells) _:=m
 refine Ay Tz rfl rfl (fun M O L W f G=>?_);have H:=S.le L;have D:=d.ne L;have S:=S.trans G;have d:=d.sub G;have m:=m.sub G;refine Ah rfl<|Ae<|Ab<|Ac<|Bh<|Ac<|Aa rfl<|Af rfl<|Ak (.as (v':=.bool false) (.bin rfl rfl rfl) (Bt (by omega)))<|Af rfl<|Af rfl<|Av Gz rfl<|Ba Nj rfl d rfl<|Cm Nb rfl<|Ak (.as (v':=.bool false) (.bin rfl rfl rfl) (Bt (by show¬((ws.length:Nat):Int)≤(k:Int);omega)))<|Bq rfl rfl ?_;refine Af rfl<|Ak (.loadR (o.cells) Uc rfl m.row rfl)<|Az rfl AJc (FC.yes (Td o O) hok) ?_;rintro _ w1 ⟨rfl,s2⟩;have S:=S.trans s2;have d:=d.sub s2;have m:=m.sub s2;have f:=f.sub s2;refine Ak (.not rfl)<|Bq rfl rfl<|Ah rfl<|Ae<|Ab<|Bw rfl<|Ac<|Aa rfl<|Av Gz rfl<|Ba Nj rfl d rfl<|Af rfl<|Ak (.indexS Nb rfl rfl (by show 0≤((k:Nat):Int)∧((k:Nat):Int)<((ws.length:Nat):Int);omega) (hwk.is (i:=0) (by simp only[Aj,Al,Am];omega)))<|Ak (.fieldA Gn rfl)<|Ak (.load1 sh3 rfl ((hwk.sub S).rowAt (enc:=WkP.cells) (i:=(k:Int).toNat) hxz 0 _ rfl))<|Ak (.as (v':=.bool false) (.bin rfl rfl rfl) (Bt (by rw[hst];exact fun h=>h rfl)))<|Ah rfl ?_;refine Ae<|Ab<|Bw rfl<|Ao<|Ab<|Ac<|Aa rfl<|Av Gz rfl<|Ba Nj rfl d rfl<|Az rfl AJA (AGF ws (by omega) wa wc _ rfl w1 (hwk.sub S) (by omega)) ?_;rintro _ w3 ⟨s4,n,z,B,rfl,F,k36,a⟩
 have l:n≠J:=by have:=d.lt;omega
 have s:n≠N:=by have:=m.lt;omega
 have g:n≠M:=by have:=f.lt;omega
 have r:=Ad S.size F;have S:=S.trans s4;have d:=d.sub s4;have m:=m.sub s4;have f:=f.sub s4
 obtain⟨pre,hpre⟩:∃p,p=Kc ws k:=⟨_,rfl⟩
 obtain⟨post,hpost⟩:∃p,p=((ws.drop (k+1)).map WkP.cells).flatten++B:=⟨_,rfl⟩
 rw[Vl hx,←hpre,←hpost] at a
 obtain⟨P,hPk⟩:∃P,P=k*24:=⟨_,rfl⟩
 have hP:pre.length=P:=by rw[hpre,hPk,Ha (Nat.le_of_lt hkl)]
 refine Av Gz rfl<|At Nj rfl rfl rfl d (fun w5 z5 d a5=>?_);have S:=S.upd a5 I;have m:=m.upd a5 E.symm;have f:=f.upd a5 D.symm;have a:=a.upd a5 l
 have d:Has w5 J ((⟨na,nn,nc,fa,fn,fc,tb,aa,an,ac,some ⟨n,0,none⟩,ws.length,z⟩:WdP).cells) _:=d
 refine Ae<|Ab<|Ac<|Aa rfl<|Av Gz rfl<|Ba Nj rfl d rfl<|Af rfl<|Ak (.as (v':=.pointer (some ⟨n,P,none⟩)) (.indexO Nb rfl rfl (by show 0≤((k:Nat):Int)∧((k:Nat):Int)<((ws.length:Nat):Int);omega)) (by rw[hPk,Nat.zero_add,Int.toNat_natCast]))<|Ah rfl<|Ae<|Ab<|Ac<|Bs (fun k=>k=n) [13,16,19,22,25] w5.heap.size 26 rfl rfl mxo (fun w6 s7=>?_)
 have hNN:∀k,((k=n)∨w5.heap.size≤k)→w.heap.size≤k:=fun k e=>e.elim (fun e=>e▸r) (fun e=>Ad S.size e)
 have hN0:∀k,w5.heap.size≤k→w.heap.size≤k:=fun k e=>Ad S.size e
 have A:=m.lt;have t:=a.lt;have S:=S.trans s7;have d:=d.sub s7;have m:=m.sub s7;have f:=f.sub s7;have a:=a.sub s7;refine Bp 0 rfl rfl<|Bp 1 rfl rfl<|Bp 2 rfl rfl<|Bp 3 rfl rfl<|Bp 4 rfl rfl<|Bg 5 rfl (fun w' s'=>.loadR (o.cells) Uc rfl (m.step s' (nE s.symm A)).row rfl)<|Bp 6 rfl rfl<|Ci 7 rfl rfl<|Bl 8 rfl Vj rfl<|Fq 9 rfl (by kernel_rfl) (by kernel_rfl) (by kernel_rfl) (by kernel_rfl) (fun w' s'=>.load1 sh3 rfl (Fx (j:=5) (a.step s' (Nat.not_le.2 t)) hP rfl)) rfl rfl<|Bg 10 rfl (fun _ _=>.as (.bin rfl rfl rfl) (Cs (y:=x.seq+1) (by rfl) (by omega)))<|Ci 11 rfl rfl<|Bl 12 rfl ACN rfl<|Aq 13 rfl<|Cg Uc rfl rfl rfl a (by rw[Ag,Ag,hP];show P+1+4≤P+24+List.length post;omega) (by rfl) rfl (fun w8 z8 a a8=>?_);have S:=S.upd a8 r;have d:=d.upd a8 l.symm;have f:=f.upd a8 g.symm
 have a:Has w8 n (pre++(({x with op:=o}:WkP).cells)++post) _:=Du (mid:=x.cells) a hP (by show 1+4≤24;decide)
 refine Cq rfl a8 (rfl)<|Ci 14 rfl rfl<|Bl 15 rfl Vj rfl<|Aq 16 rfl<|Cg sh3 rfl rfl rfl a (by rw[Ag,Ag,hP];show P+5+1≤P+24+List.length post;omega) (by rfl) rfl (fun w9 z9 a a9=>?_);have S:=S.upd a9 r;have d:=d.upd a9 l.symm;have f:=f.upd a9 g.symm
 have a:Has w9 n (pre++(({x with op:=o,seq:=x.seq+1}:WkP).cells)++post) _:=Du (mid:=({x with op:=o}:WkP).cells) a hP (by show 5+1≤24;decide)
 refine Cq rfl a9 (rfl)<|Ci 17 rfl rfl<|Bl 18 rfl ACM rfl<|Aq 19 rfl<|Cg sh3 rfl rfl rfl a (by rw[Ag,Ag,hP];show P+6+1≤P+24+List.length post;omega) (by rfl) rfl (fun w10 z10 a a10=>?_);have S:=S.upd a10 r;have d:=d.upd a10 l.symm;have f:=f.upd a10 g.symm
 have a:Has w10 n (pre++(({x with op:=o,seq:=x.seq+1,round:=0}:WkP).cells)++post) _:=Du (mid:=({x with op:=o,seq:=x.seq+1}:WkP).cells) a hP (by show 6+1≤24;decide)
 refine Cq rfl a10 (rfl)<|Ci 20 rfl rfl<|Bl 21 rfl ACL rfl<|Aq 22 rfl<|Cg sh3 rfl rfl rfl a (by rw[Ag,Ag,hP];show P+7+1≤P+24+List.length post;omega) (by rfl) rfl (fun w11 z11 a a11=>?_);have S:=S.upd a11 r;have d:=d.upd a11 l.symm;have f:=f.upd a11 g.symm
 have a:Has w11 n (pre++(({x with op:=o,seq:=x.seq+1,round:=0,took:=0}:WkP).cells)++post) _:=Du (mid:=({x with op:=o,seq:=x.seq+1,round:=0}:WkP).cells) a hP (by show 7+1≤24;decide)
 refine Cq rfl a11 (rfl)<|Ci 23 rfl rfl<|Bl 24 rfl Gn rfl<|Aq 25 rfl<|Cg sh3 rfl rfl rfl a (by rw[Ag,Ag,hP];show P+0+1≤P+24+List.length post;omega) (by rfl) rfl (fun w12 z12 a a12=>?_);have S:=S.upd a12 r;have d:=d.upd a12 l.symm;have f:=f.upd a12 g.symm
 have a:Has w12 n (pre++((AA1 x o).cells)++post) _:=Du (mid:=({x with op:=o,seq:=x.seq+1,round:=0,took:=0}:WkP).cells) a hP (by show 0+1≤24;decide)
 refine Cq rfl a12 (rfl)<|Cp<|Ab<|Ac<|Aa rfl<|Ak (.loadR ((⟨na,nn,nc,fa,fn,fc,tb,aa,an,ac,some ⟨n,0,none⟩,ws.length,z⟩:WdP).cells) Hw rfl d.row rfl)<|At Hw rfl rfl rfl f (fun w13 z13 f a13=>?_);have S:=S.upd a13 H;have a:=a.upd a13 g
 have f:Has w13 M ((⟨na,nn,nc,fa,fn,fc,tb,aa,an,ac,some ⟨n,0,none⟩,ws.length,z⟩:WdP).cells) _:=f.now (by kernel_rfl)
 refine Ah rfl<|Ae<|Ab<|Bo (rs:=[.cell 6 63,.tmp 7]) (vs:=[_,_]) rfl rfl ⟨⟨_,rfl,.inr ⟨(⟨na,nn,nc,fa,fn,fc,tb,aa,an,ac,some ⟨n,0,none⟩,ws.length,z⟩:WdP).cells,Hw,f.row,rfl⟩⟩,rfl,trivial⟩ ?_
 exact⟨S,n,z,_,rfl,k36,a.ft.imp (fun u h=>by have q:=h;rw[hpre,hpost,ADI hx] at q;exact Has.sl (extra:=B) q (ACF _)),By r⟩
set_option maxRecDepth 10000 in
theorem AID(z:StP)(k:Nat)(ws:List WkP)(x:WkP)(hx:ws[k]?=some x)(hws:z.wd.wn=ws.length)(hw8:ws.length≤8)(hst:x.st=0)(hsq:0≤x.seq∧x.seq<1000000)(o:OpT)(hok:okP o)(ht:0≤z.time∧z.time<1000000000)(si:List Int)(hk:k<si.length)(hin:z.inn=si.length)(hi8:si.length≤8)(w:World)(hwk:Sl w z.wd.wa 24 (ws.map WkP.cells))(hsi:Sl w z.ia 1 (si.map fun x=>[i6 x])):
  FC Tryz.prog 57 [.agg z.cells.toArray,.int .i64 (k:Int),.agg o.cells.toArray] w (fun v w'=>Sub w w'∧∃b c C b2 c2 C2,v=.tuple #[.agg ({z with wd:={z.wd with wa:=some ⟨b,0,none⟩,wn:=ws.length,wc:=c},time:=z.time+1,ia:=some ⟨b2,0,none⟩,inn:=si.length,ic:=c2}:StP).cells.toArray,.int .i64 0]∧ws.length≤c∧Ft C (fun u=>Sl u (some ⟨b,0,none⟩) 24 ((ws.set k (AA1 x o)).map WkP.cells)) w'∧UpN w C∧si.length≤c2∧Ft C2 (fun u=>Sl u (some ⟨b2,0,none⟩) 1 ((si.set k z.time).map fun x=>[i6 x])) w'∧UpN w C2):=by
 obtain⟨wd,time,ia,inn,ic,la,ln,lc,ca,cn,cc⟩:=z
 simp only[] at hws ht hin hwk hsi
 subst hin
 refine As Tryz.func57 rfl Tryz.ntmps57 rfl ?_
 have S:=Ax w
 refine Ac<|Aa rfl<|Bu rfl rfl rfl (fun ai al an ar d am=>?_);have ab:=S.le an;have S:=S.trans am
 have d:Has al ai ((⟨wd,time,ia,si.length,ic,la,ln,lc,ca,cn,cc⟩:StP).cells) _:=d
 refine Bu rfl rfl rfl (fun ah ak aw aq l ac=>?_);have S:=S.trans ac;have d:=d.sub ac
 have l:Has ak ah (o.cells) _:=l
 refine Ay Ka rfl rfl (fun ag av ad ap f Y=>?_);have aa:=S.le ad;have O:=d.ne ad;have S:=S.trans Y;have d:=d.sub Y;have l:=l.sub Y;refine Ah rfl<|Ae<|Ab<|Ac<|Aa rfl<|Ak (.loadR ((⟨wd,time,ia,si.length,ic,la,ln,lc,ca,cn,cc⟩:StP).cells) Dw rfl d.row rfl)<|Ak (.buildS (vs:=[(0,.agg (⟨wd,time,ia,si.length,ic,la,ln,lc,ca,cn,cc⟩:StP).cells.toArray)]) (cs:=((⟨wd,time,ia,si.length,ic,la,ln,lc,ca,cn,cc⟩:StP).cells).toArray) ACz AC5 rfl (by kernel_rfl))<|Bu rfl rfl rfl (fun B V P aj a I=>?_);have E:=S.le P;have p:=d.ne P;have s:=f.ne P;have S:=S.trans I;have d:=d.sub I;have l:=l.sub I;have f:=f.sub I
 have a:Has V B ((⟨wd,time,ia,si.length,ic,la,ln,lc,ca,cn,cc⟩:StP).cells) _:=a
 refine Ah rfl<|Ae<|Ab<|Ac<|Aa rfl<|Av Gp rfl<|Ak (.loadR (wd.cells) Hw rfl (Ia (m1:=List.take 0 ((⟨wd,time,ia,si.length,ic,la,ln,lc,ca,cn,cc⟩:StP).cells)) (m2:=wd.cells) (m3:=List.drop 7 ((⟨wd,time,ia,si.length,ic,la,ln,lc,ca,cn,cc⟩:StP).cells)) d rfl) rfl)<|Af rfl<|Ak (.loadR (o.cells) Uc rfl l.row rfl)<|Az rfl ALy (AH9 wd k ws x hx hws hw8 hst hsq o hok V (hwk.sub S)) ?_;rintro _ w1 ⟨s2,b1,c1,C1,rfl,kc1,hW,upW⟩
 have dWb_3:=Di upW (fun _ (h:False)=>h.elim) d.lt
 have dWb_5:=Di upW (fun _ (h:False)=>h.elim) l.lt
 have dWb_6:=Di upW (fun _ (h:False)=>h.elim) f.lt
 have dWb_13:=Di upW (fun _ (h:False)=>h.elim) a.lt
 have upW:=upW.low S.size
 have S:=S.trans s2;have d:=d.sub s2;have l:=l.sub s2;have f:=f.sub s2;have a:=a.sub s2;refine Af rfl<|Bz rfl rfl<|Bz rfl rfl<|Ay Tz rfl rfl (fun ae au U ao y Q=>?_);have Z:=S.le U;have N:=d.ne U;have M:=l.ne U;have L:=f.ne U;have D:=a.ne U;have G:=hW.neNew U;have S:=S.trans Q;have d:=d.sub Q;have l:=l.sub Q;have f:=f.sub Q;have a:=a.sub Q;have hW:=hW.sub Q;refine At Hw rfl rfl rfl y (fun w3 z3 y a3=>?_);have S:=S.upd a3 Z;have d:=d.upd a3 N;have l:=l.upd a3 M;have f:=f.upd a3 L;have a:=a.upd a3 D;have hW:=hW.updD a3 G
 have y:Has w3 ae (({wd with wa:=some ⟨b1,0,none⟩,wn:=ws.length,wc:=c1}:WdP).cells) _:=y.now (by kernel_rfl)
 refine Ah rfl<|Ae<|Ab<|Ac<|Ac<|Aa rfl<|Af rfl<|Ak (.as (v':=.bool true) (.bin rfl rfl rfl) (Cr (rfl)))<|Af rfl<|Af rfl<|Av Se rfl<|Ba El rfl d rfl<|Cm Dd rfl<|Ak (.as (v':=.bool true) (.bin rfl rfl rfl) (Cr (by show((k:Nat):Int)<((si.length:Nat):Int);omega)))<|Br rfl rfl<|Ae (Ab ?_);refine Bm rfl<|Ac<|Bs (fun k=>k=B) [9,13] w3.heap.size 14 rfl rfl mxo (fun w4 s5=>?_)
 have hNN:∀k,((k=B)∨w3.heap.size≤k)→w.heap.size≤k:=fun k e=>e.elim (fun e=>e▸E) (fun e=>Ad S.size e)
 have hN0:∀k,w3.heap.size≤k→w.heap.size≤k:=fun k e=>Ad S.size e
 have t:=d.lt;have A:=a.lt;have J:=y.lt;have szD:=Nat.le_refl w3.heap.size;have S:=S.trans s5;have d:=d.sub s5;have l:=l.sub s5;have f:=f.sub s5;have a:=a.sub s5;have hW:=hW.sub s5;have y:=y.sub s5;have szD:=Ad szD s5.size;refine Bp 0 rfl rfl<|Bp 1 rfl rfl<|Bg 2 rfl (fun w' s'=>.loadR (({wd with wa:=some ⟨b1,0,none⟩,wn:=ws.length,wc:=c1}:WdP).cells) Hw rfl (y.step s' (nE D.symm J)).row rfl)<|Bl 3 rfl Se rfl<|Ck 4 rfl El rfl d (nE p t) rfl<|Aq 5 rfl<|Az rfl AFc (AJL si (by omega) ia ic _ rfl w4 (hsi.sub S) (by omega)) ?_;rintro _ w6 ⟨s7,n,H,X,rfl,W,k36,g⟩
 have m:n≠ai:=by have:=d.lt;omega
 have T:n≠ah:=by have:=l.lt;omega
 have q:n≠ag:=by have:=f.lt;omega
 have R:n≠ae:=by have:=y.lt;omega
 have i:n≠B:=by have:=a.lt;omega
 have dW36:∀j,C1 j→j≠n:=fun j hj e=>by have:=(hW.ge j hj).2;omega
 have K:=Ad szD W;have F:=hN0 _ K;have S:=S.trans s7;have d:=d.sub s7;have f:=f.sub s7;have a:=a.sub s7;have hW:=hW.sub s7;refine Be s7.agr<|Ci 6 rfl rfl<|Bl 7 rfl Ij rfl<|Bl 8 rfl Gp rfl<|Aq 9 rfl<|At Hw rfl rfl rfl a (fun w8 z8 a a8=>?_);have S:=S.upd a8 E;have d:=d.upd a8 p;have f:=f.upd a8 s;have hW:=hW.updD a8 dWb_13;have g:=g.upd a8 i
 have a:Has w8 B ((⟨({wd with wa:=some ⟨b1,0,none⟩,wn:=ws.length,wc:=c1}),time,ia,si.length,ic,la,ln,lc,ca,cn,cc⟩:StP).cells) _:=a.eqc (by kernel_rfl)
 refine Cq rfl a8 (rfl)<|Ci 10 rfl rfl<|Bl 11 rfl Ij rfl<|Bl 12 rfl Se rfl<|Aq 13 rfl<|At El rfl rfl rfl a (fun w9 z9 a a9=>?_);have S:=S.upd a9 E;have d:=d.upd a9 p;have f:=f.upd a9 s;have hW:=hW.updD a9 dWb_13;have g:=g.upd a9 i
 have a:Has w9 B ((⟨({wd with wa:=some ⟨b1,0,none⟩,wn:=ws.length,wc:=c1}),time,(some ⟨n,0,none⟩),si.length,H,la,ln,lc,ca,cn,cc⟩:StP).cells) _:=a
 refine Cq rfl a9 (rfl)<|Cp<|Ab<|Bs (fun k=>k=n) [9] w9.heap.size 10 rfl rfl mxo (fun w10 s11=>?_)
 have hNN:∀k,((k=n)∨w9.heap.size≤k)→w.heap.size≤k:=fun k e=>e.elim (fun e=>e▸F) (fun e=>Ad S.size e)
 have hN0:∀k,w9.heap.size≤k→w.heap.size≤k:=fun k e=>Ad S.size e
 have t:=d.lt;have A:=a.lt;have S:=S.trans s11;have d:=d.sub s11;have f:=f.sub s11;have a:=a.sub s11;have hW:=hW.sub s11;have g:=g.sub s11;refine Bp 0 rfl rfl<|Ci 1 rfl rfl<|Bl 2 rfl Ij rfl<|Bl 3 rfl Se rfl<|Ck 4 rfl El rfl a (nE i.symm A) rfl<|Bp 5 rfl rfl<|Bl 6 rfl AAL rfl<|Ck 7 rfl sh3 rfl d (nE m.symm t) rfl<|Bg 8 rfl (fun _ _=>.indexO Dd rfl rfl (by show 0≤((k:Nat):Int)∧((k:Nat):Int)<((si.length:Nat):Int);omega))<|Aq 9 rfl<|Cg sh3 rfl rfl rfl g (by rw[Ag,Cy (sz:=1) _ (Po _),Aj,Int.toNat_natCast];show 0+k*1+1≤_;omega) (by rfl) rfl (fun w12 z12 g a12=>?_);have S:=S.upd a12 F;have d:=d.upd a12 m.symm;have f:=f.upd a12 q.symm;have a:=a.upd a12 i.symm;have hW:=hW.updD a12 dW36
 rw[Nat.zero_add,Int.toNat_natCast] at g
 have g:=Gh (r:=[i6 time]) g (Po _) (by rw[Aj];omega) rfl
 rw[←List.map_set] at g
 refine Cq rfl a12 (rfl)<|Cp<|Ab<|Ac<|Aa rfl<|Af rfl<|Af rfl<|Az rfl AFD (AAP B (⟨({wd with wa:=some ⟨b1,0,none⟩,wn:=ws.length,wc:=c1}),time,(some ⟨n,0,none⟩),si.length,H,la,ln,lc,ca,cn,cc⟩:StP) ht w12 a) ?_;rintro _ w13 ⟨rfl,a55⟩;have S:=S.upd a55 E;have d:=d.upd a55 p;have f:=f.upd a55 s;have hW:=hW.updD a55 dWb_13;have g:=g.upd a55 i;refine Af rfl<|Bz rfl rfl<|Bz rfl rfl<|Bz rfl rfl<|At Dw rfl rfl rfl d (fun w15 z15 d a15=>?_);have S:=S.upd a15 ab;have f:=f.upd a15 O.symm;have hW:=hW.updD a15 dWb_3;have g:=g.upd a15 m;refine Ah rfl<|Ae<|Ab<|Ac<|Aa rfl<|Ak (.loadR (_) Dw rfl d.row rfl)<|Af rfl<|At Dw rfl rfl rfl f (fun w16 z16 f a16=>?_);have S:=S.upd a16 aa;have hW:=hW.updD a16 dWb_6;have g:=g.upd a16 q
 have f:Has w16 ag ((⟨({wd with wa:=some ⟨b1,0,none⟩,wn:=ws.length,wc:=c1}),(time+1),(some ⟨n,0,none⟩),si.length,H,la,ln,lc,ca,cn,cc⟩:StP).cells) _:=f.now (by kernel_rfl)
 refine Ah rfl<|Ae<|Ab<|Bo (rs:=[.cell 6 67,.tmp 7]) (vs:=[_,_]) rfl rfl ⟨⟨_,rfl,.inr ⟨(⟨({wd with wa:=some ⟨b1,0,none⟩,wn:=ws.length,wc:=c1}),(time+1),(some ⟨n,0,none⟩),si.length,H,la,ln,lc,ca,cn,cc⟩:StP).cells,Dw,f.row,rfl⟩⟩,rfl,trivial⟩ ?_
 exact⟨S,b1,c1,C1,n,H,_,rfl,kc1,hW,upW,k36,g.ft.imp (fun u h=>Has.sl (extra:=X) h (Po _)),By F⟩
structure Idle (c:Nat) (A:Ar) (p:VP) (l:List AnT) (ws:List WkP):Prop where
 ver:VerOk 2 A p.v (Pg p.V)
 row:RowA A p.v.rt p.V
 no:p.v.no=c
 ll:l.length=2
 wl:ws.length=2
 lok:∀x∈l,x.ok
 idle:∀x∈ws,x.st=0
 sync:∀(i:Nat) x,ws[i]?=some x→0≤x.seq∧x.seq≤c∧p.v.ap[i]?=some x.seq∧∃a,l[i]?=some a∧a.seq=x.seq
structure OpD where
 c:Nat
 A:Ar
 p:VP
 l:List AnT
 ws:List WkP
 k:Nat
 x:WkP
 o:OpT
structure OpOk (D:OpD):Prop where
 idle:Idle D.c D.A D.p D.l D.ws
 c:D.c<1000
 k:D.k<2
 x:D.ws[D.k]?=some D.x
 oo:D.o.ok
 ok:okP D.o
 b3:D.o.box=3
 kd:D.o.kind=2∨D.o.kind=5
 fr:D.p.V.length+2≤D.A.free.length
def OpD.an(D:OpD):AnT:=⟨D.x.seq+1,D.o⟩
def OpD.l1(D:OpD):List AnT:=D.l.set D.k D.an
def OpD.v1(D:OpD)(R:Rt):Ver:=Uz D.p.v D.p.V D.k D.an R
def OpD.V1(D:OpD):List Int:=(Gw D.p.V D.o).1
theorem OpOk.an_ok{D:OpD}(h:OpOk D):D.an.ok:=by
 have h1:=h.idle.sync _ _ h.x
 have:=h.c
 exact⟨by unfold Hn OpD.an;simp only[];omega,h.oo,fun _=>h.ok⟩
theorem OpOk.l1_len{D:OpD}(h:OpOk D):D.l1.length=2:=by unfold OpD.l1;rw[List.length_set];exact h.idle.ll
theorem OpOk.l1_ok{D:OpD}(h:OpOk D):∀x∈D.l1,x.ok:=fun x hx=>(List.mem_or_eq_of_mem_set hx).elim (h.idle.lok x) (fun e=>e▸h.an_ok)
theorem OpOk.l1_k{D:OpD}(h:OpOk D):D.l1[D.k]?=some D.an:=List.getElem?_set_self (by rw[h.idle.ll];exact h.k)
theorem Yi{k:Nat}(h:k<2):k=0∨k=1:=by omega
theorem OpOk.pend{D:OpD}(h:OpOk D):Tm D.l1 D.p.v.ap=[(D.k:Int)]:=by
 have hs:=h.idle.sync
 have hap:=h.idle.ver.an
 have hwl:=h.idle.wl
 have hll:=h.idle.ll
 have qk:Lk D.l1 D.p.v.ap D.k=true:=by
  obtain⟨_,_,h3,_⟩:=hs _ _ h.x
  rw[Vp h.l1_k h3]
  exact decide_eq_true (by show D.x.seq<D.x.seq+1;omega)
 have qi:∀i,i<2→i≠D.k→Lk D.l1 D.p.v.ap i=false:=fun i hi hne=>by
  obtain⟨y,hy⟩:=Ce (l:=D.ws) (i:=i) (by omega)
  obtain⟨_,_,h3,a,h4,h5⟩:=hs _ _ hy
  rw[Vp (by unfold OpD.l1;rw[List.getElem?_set_ne (fun e=>hne e.symm)];exact h4) h3]
  exact decide_eq_false (by rw[h5];omega)
 unfold Tm
 rw[h.l1_len,hap]
 rcases Yi h.k with e|e
 ·rw[e] at qk qi ⊢
  show Iw _ 2=_
  rw[Oc (qi 1 (by omega) (by omega)),Ra qk];rfl
 ·rw[e] at qk qi ⊢
  show Iw _ 2=_
  rw[Ra qk,Oc (qi 0 (by omega) (by omega))];rfl
theorem VerOk.of_row{n:Nat}{A B:Ar}{v:Ver}{V:List Int}(h:VerOk n A v (Pg V))(hB:RowA B v.rt V):VerOk n B v (Pg V):=⟨h.nn,h.no,h.an,h.rn,h.ap,hB.rok,hB.h0,hB.isC⟩
theorem OpOk.ver1{D:OpD}(h:OpOk D){R:Rt}{B:Ar}(hB:RowA B R D.V1):VerOk 2 B (D.v1 R) (Pg D.V1):=by
 have hv:=h.idle.ver
 have hno:=h.idle.no
 have hc:=h.c
 refine⟨hv.nn,?_,?_,?_,fun s hs=>?_,hB.rok,hB.h0,hB.isC⟩
 ·show Hn (D.p.v.no+1);rw[hno];unfold Hn;omega
 ·show(D.p.v.ap.set D.k D.an.seq).length=2;rw[List.length_set];exact hv.an
 ·show(D.p.v.rs.set D.k _).length=2;rw[List.length_set];exact hv.rn
 ·exact(List.mem_or_eq_of_mem_set hs).elim (hv.ap s) (fun e=>e▸h.an_ok.1)
theorem OpOk.tb{D:OpD}(h:OpOk D){R:Rt}{B:Ar}{xr:RcP}(hN:NextP D.A D.p.v D.p.V D.o R B):TbOk 2 B [D.p,⟨xr,D.v1 R,D.V1⟩] (Er 2):=by
 refine⟨by show 1≤2∧2≤64;decide,fun q hq=>?_,fun i q r h1 h2=>?_,rfl,fun x hx=>by rw[List.eq_of_mem_replicate hx];decide⟩
 ·simp only[List.mem_cons,List.not_mem_nil,or_false] at hq
  rcases hq with rfl|rfl
  ·exact⟨h.idle.ver.of_row hN.old,hN.old⟩
  ·exact⟨h.ver1 hN.row,hN.row⟩
 ·cases i with
  |zero=>simp only[List.getElem?_cons_zero,List.getElem?_cons_succ,Option.some.injEq] at h1 h2;subst h1 h2;show D.p.v.no<D.p.v.no+1;omega
  |succ i=>simp at h2
def OpD.ps1(D:OpD):List Int:=(Er 2).set D.k D.p.x.no
theorem OpOk.ps1_back{D:OpD}(h:OpOk D):D.ps1.set D.k (-1)=Er 2:=by
 unfold OpD.ps1
 rcases Yi h.k with e|e<;>rw[e]<;>rfl
def PhP(D:OpD)(j:Nat)(A:Ar)(L:List VP)(ps:List Int)(l:List AnT)(x:WkP)(E:World→Prop):Prop :=
  x.op=D.o∧x.seq=D.x.seq+1∧x.took=(j:Int)-1 ∧
  ((j=1∧A=D.A∧L=[D.p]∧ps=Er 2∧l=D.l∧x.st=1∧x.round=0) ∨
   (j=2∧A=D.A∧L=[D.p]∧ps=Er 2∧l=D.l1∧x.st=2∧x.round=0) ∨
   (j=3∧A=D.A∧L=[D.p]∧ps=Er 2∧l=D.l1∧x.st=3∧x.round=0∧x.rc=D.p.x) ∨
   (j=4∧A=D.A∧L=[D.p]∧ps=D.ps1∧l=D.l1∧x.st=4∧x.round=0∧x.rc=D.p.x) ∨
   (j=5∧A=D.A∧L=[D.p]∧ps=D.ps1∧l=D.l1∧x.st=5∧x.round=0∧x.rc=D.p.x∧x.an=0∧E=(fun u=>Sl u x.aa 5 ((D.l1.take 0).map AnT.cells))) ∨
   (j=6∧A=D.A∧L=[D.p]∧ps=D.ps1∧l=D.l1∧x.st=5∧x.round=0∧x.rc=D.p.x∧x.an=1∧1≤x.ac∧E=(fun u=>Sl u x.aa 5 ((D.l1.take 1).map AnT.cells))) ∨
   (j=7∧A=D.A∧L=[D.p]∧ps=D.ps1∧l=D.l1∧x.st=6∧x.round=0∧x.rc=D.p.x∧x.an=2∧E=(fun u=>Sl u x.aa 5 (D.l1.map AnT.cells))) ∨
   (j=8∧L=[D.p]∧ps=D.ps1∧l=D.l1∧x.st=7∧x.round=0∧x.rc=D.p.x∧∃R,NextP D.A D.p.v D.p.V D.o R A∧E=(fun u=>RcR u x.nx (D.v1 R))) ∨
   (j=9∧ps=D.ps1∧l=D.l1∧x.st=8∧x.round=0∧∃R xr,NextP D.A D.p.v D.p.V D.o R A∧L=[D.p,⟨xr,D.v1 R,D.V1⟩]∧E=(fun _=>True)) ∨
   (j=10∧ps=Er 2∧l=D.l1∧x.st=2∧x.round=1∧∃R xr,L=[⟨xr,D.v1 R,D.V1⟩]∧RowA A R D.V1∧D.A.free.length≤A.free.length+(D.p.V.length+2)))
def Phz(D:OpD)(j:Nat)(y:WdP)(I:World→Prop):Prop :=
 ∃A L ps l x E,(∀u,I u→WdM y A L ps l (D.ws.set D.k x) E u)∧WdS y A l (D.ws.set D.k x)∧PhP D j A L ps l x E
theorem Nu{D:OpD}(h:OpOk D)(x:WkP):(D.ws.set D.k x)[D.k]?=some x:=List.getElem?_set_self (Cc h.x)
theorem Oq(D:OpD)(x x':WkP):(D.ws.set D.k x).set D.k x'=D.ws.set D.k x':=List.set_set ..
def AFh(D:OpD)(y:WdP)(M:Nat→Prop)(w:World)(ans:Bool)(K:WdP→RsT→(World→Prop)→Prop):Prop :=
 FC Tryz.prog 91 [.agg y.cells.toArray,.int .i64 (D.k:Int)] w (fun v w'=>Sub w w'∧∃y' r I C,v=.tuple #[.agg (y':WdP).cells.toArray,.bool ans,(r:RsT).val,.int .i64 0]∧K y' r I∧Ft C I w'∧Up M w C)
theorem conv{D:OpD}{y:WdP}{x:WkP}{M:Nat→Prop}{w:World}{P:Out→Prop}{j:Nat}(h:Pr y D.k (D.ws.set D.k x) M w P)(hP:∀o,P o→o.ans=false∧∃E',(∀u,o.E u→E' u)∧PhP D j o.A o.L o.ps o.l o.x E'):AFh D y M w false (fun y' _ I=>Phz D j y' I):=by
 refine FC.mono h ?_
 rintro v w' ⟨s,o,hp,rfl,hS,C,hF,hU⟩
 obtain⟨ha,E',hE,hph⟩:=hP o hp
 rw[Oq] at hS
 refine⟨s,o.y,o.res,_,C,by rw[ha],⟨o.A,o.L,o.ps,o.l,o.x,E',fun u hu=>?_,hS,hph⟩,hF,hU⟩
 unfold Out.I at hu
 rw[Oq] at hu
 exact⟨hu.ar,hu.tb,hu.an,hu.wk,hE u hu.ex⟩
set_option maxHeartbeats 1000000 in
theorem ACc{D:OpD}(h:OpOk D)(j:Nat)(hj:j≤9)(y:WdP)(I:World→Prop)(M:Nat→Prop)(w:World)(hP:Phz D j y I)(hF0:Ft M I w):AFh D y M w false (fun y' _ I=>Phz D (j+1) y' I):=by
 obtain⟨A,L,ps,l,x,E,hI,hS,hop,hsq,htk,hc⟩:=hP
 have hF:=hF0.imp hI
 have hxs:=Nu h x
 have hwl:(D.ws.set D.k x).length=2:=by rw[List.length_set];exact h.idle.wl
 have hw8:(D.ws.set D.k x).length≤8:=by omega
 have hll:=h.idle.ll
 have hl1:=h.l1_len
 have hk2:=h.k
 have hv:=h.idle.ver
 have hno:=h.idle.no
 have hc3:=h.c
 have hxp:D.p.x.no=D.p.v.no∨True:=.inr trivial
 obtain⟨_,hsc,hap,_⟩:=h.idle.sync _ _ h.x
 rcases hc with⟨rfl,rfl,rfl,rfl,rfl,hst,hrd⟩|⟨rfl,rfl,rfl,rfl,rfl,hst,hrd⟩|⟨rfl,rfl,rfl,rfl,rfl,hst,hrd,hrc⟩|⟨rfl,rfl,rfl,rfl,rfl,hst,hrd,hrc⟩|⟨rfl,rfl,rfl,rfl,rfl,hst,hrd,hrc,hxn,rfl⟩|⟨rfl,rfl,rfl,rfl,rfl,hst,hrd,hrc,hxn,hxc,rfl⟩|⟨rfl,rfl,rfl,rfl,rfl,hst,hrd,hrc,hxn,rfl⟩|⟨rfl,rfl,rfl,rfl,hst,hrd,hrc,R,hN,rfl⟩|⟨rfl,rfl,rfl,hst,hrd,R,xr,hN,rfl,rfl⟩|⟨rfl,_⟩
 ·refine conv (ABv hxs hS hw8 (by omega) (by omega) hst (by omega) D.p rfl (by show 1≤1∧1≤64;decide) M w hF) ?_
  rintro⟨oy,oA,oL,ops,ol,ox,oE,oans,ores⟩ ⟨rfl,rfl,rfl,rfl,rfl,rfl,rfl⟩
  exact⟨rfl,_,fun u h=>h,hop,hsq,by simp only[];omega,.inr (.inl ⟨rfl,rfl,rfl,rfl,by rw[hsq,hop];rfl,rfl,hrd⟩)⟩
 ·refine conv (AGc hxs hS hw8 (by omega) hst (by omega) D.p rfl (by show 1≤1∧1≤64;decide) D.x.seq hap (by rw[hv.rn];exact hk2) (by omega) M w hF) ?_
  rintro⟨oy,oA,oL,ops,ol,ox,oE,oans,ores⟩ ⟨rfl,rfl,rfl,rfl,rfl,rfl,rfl⟩
  exact⟨rfl,_,fun u h=>h,hop,hsq,by simp only[];omega,.inr (.inr (.inl ⟨rfl,rfl,rfl,rfl,rfl,rfl,hrd,rfl⟩))⟩
 ·have hpn:D.p.x.no=D.p.v.no:=(hF.now.tb.v D.p (by simp)).1
  refine conv (AJn (ps:=Er 2) hxs hS hw8 (by omega) hst (by omega) D.p rfl (by show 1≤1∧1≤64;decide) (by show 2≤8;decide) hk2 (by rw[hrc,hpn];omega) M w hF) ?_
  rintro⟨oy,oA,oL,ops,ol,ox,oE,oans,ores⟩ ⟨rfl,rfl,rfl,rfl,rfl,rfl,rfl⟩
  exact⟨rfl,_,fun u h=>h,hop,hsq,by simp only[];omega,.inr (.inr (.inr (.inl ⟨rfl,rfl,rfl,by rw[hrc];rfl,rfl,rfl,hrd,hrc⟩)))⟩
 ·refine conv (AGd hxs hS hw8 (by omega) hst (by omega) D.p rfl (by show 1≤1∧1≤64;decide) (by rw[hrc]) M w hF) ?_
  rintro⟨oy,oA,oL,ops,ol,ox,oE,oans,ores⟩ ⟨rfl,rfl,rfl,rfl,rfl,rfl,rfl⟩
  exact⟨rfl,(fun u=>Sl u none 5 ((D.l1.take 0).map AnT.cells)),fun u h=>Sl.nil _ _ _,hop,hsq,by simp only[];omega,.inr (.inr (.inr (.inr (.inl ⟨rfl,rfl,rfl,rfl,rfl,rfl,hrd,hrc,rfl,rfl⟩))))⟩
 ·refine conv (Wk hxs hS hw8 (by omega) (by omega) hst (by omega) D.p rfl (by show 1≤1∧1≤64;decide) 0 (by omega) hxn (Nat.zero_le _) M w hF) ?_
  rintro⟨oy,oA,oL,ops,ol,ox,oE,oans,ores⟩ ⟨rfl,rfl,rfl,rfl,⟨a,c,hac,rfl,rfl⟩,rfl⟩
  exact⟨rfl,_,fun u h=>h,hop,hsq,by simp only[];omega,.inr (.inr (.inr (.inr (.inr (.inl ⟨rfl,rfl,rfl,rfl,rfl,by simp only[];rw[if_neg (by omega)];exact hst,hrd,hrc,rfl,hac,rfl⟩)))))⟩
 ·refine conv (Wk hxs hS hw8 (by omega) (by omega) hst (by omega) D.p rfl (by show 1≤1∧1≤64;decide) 1 (by omega) hxn hxc M w hF) ?_
  rintro⟨oy,oA,oL,ops,ol,ox,oE,oans,ores⟩ ⟨rfl,rfl,rfl,rfl,⟨a,c,hac,rfl,rfl⟩,rfl⟩
  exact⟨rfl,_,fun u h=>h,hop,hsq,by simp only[];omega,.inr (.inr (.inr (.inr (.inr (.inr (.inl ⟨rfl,rfl,rfl,rfl,rfl,by simp only[];rw[if_pos (by omega)],hrd,hrc,rfl,by rw[List.take_of_length_le (by omega)]⟩))))))⟩
 ·refine conv (AGe hxs hS hw8 (by omega) hst (by omega) D.p rfl (by show 1≤1∧1≤64;decide) hrc (by rw[hxn,hl1]) 2 hl1 hv h.idle.row h.l1_ok D.an h.l1_k h.pend h.b3 h.kd h.ok (by omega) h.fr M w hF) ?_
  rintro⟨oy,oA,oL,ops,ol,ox,oE,oans,ores⟩ ⟨rfl,rfl,rfl,⟨xr,R,ma,mn,mc,hN,rfl,rfl⟩,rfl⟩
  exact⟨rfl,_,fun u h=>h,hop,hsq,by simp only[];omega,.inr (.inr (.inr (.inr (.inr (.inr (.inr (.inl ⟨rfl,rfl,rfl,rfl,rfl,hrd,hrc,R,hN,rfl⟩)))))))⟩
 ·have hpn:D.p.x.no=D.p.v.no:=(hF.now.tb.v D.p (by simp)).1
  have hxn:x.nx.no=(D.v1 R).no:=hF.now.ex.1
  refine conv (AJo hxs D.p (D.v1 R) D.V1 hS hw8 (by omega) hst (by omega) (by rw[hrc]) (by rw[hxn,hpn];rfl) (by omega) M w hF) ?_
  rintro⟨oy,oA,oL,ops,ol,ox,oE,oans,ores⟩ ⟨rfl,rfl,rfl,rfl,rfl,rfl,rfl⟩
  exact⟨rfl,_,fun u h=>h,hop,hsq,by simp only[];omega,.inr (.inr (.inr (.inr (.inr (.inr (.inr (.inr (.inl ⟨rfl,rfl,rfl,rfl,hrd,R,_,hN,rfl,rfl⟩))))))))⟩
 ·refine conv (AGa hxs D.p ⟨xr,D.v1 R,D.V1⟩ hS hw8 (by omega) hst (by omega) (by omega) 2 (by decide) (h.tb hN) hk2 h.ps1_back M w hF) ?_
  rintro⟨oy,oA,oL,ops,ol,ox,oE,oans,ores⟩ ⟨rfl,rfl,rfl,hr,hlA,hfA,rfl,rfl,rfl⟩
  exact⟨rfl,_,fun u h=>h,hop,hsq,by simp only[];omega,.inr (.inr (.inr (.inr (.inr (.inr (.inr (.inr (.inr ⟨rfl,rfl,rfl,rfl,by simp only[];omega,R,xr,rfl,hr,Ad hN.free (Nat.add_le_add_right hfA _)⟩))))))))⟩
 ·omega
def OpD.res(D:OpD):RsT:=rsR (Gw D.p.V D.o).2
def Fin(D:OpD)(y:WdP)(I:World→Prop):Prop :=
 ∃A x xr R,Idle (D.c+1) A ⟨xr,D.v1 R,D.V1⟩ D.l1 (D.ws.set D.k x)∧WdS y A D.l1 (D.ws.set D.k x)∧D.A.free.length≤A.free.length+(D.p.V.length+2)∧∀u,I u→WdM y A [⟨xr,D.v1 R,D.V1⟩] (Er 2) D.l1 (D.ws.set D.k x) (fun _=>True) u
theorem OpOk.idle1{D:OpD}(h:OpOk D){A:Ar}{R:Rt}{xr:RcP}{x:WkP}(hr:RowA A R D.V1)(hst:x.st=0)(hsq:x.seq=D.x.seq+1):Idle (D.c+1) A ⟨xr,D.v1 R,D.V1⟩ D.l1 (D.ws.set D.k x):=by
 have hi:=h.idle
 have hwl:=hi.wl
 have hap:=hi.ver.an
 have hno:=hi.no
 refine⟨h.ver1 hr,hr,by show D.p.v.no+1=_;rw[hno];omega,h.l1_len,by rw[List.length_set];exact hwl,h.l1_ok,fun z hz=>?_,fun i z hz=>?_⟩
 ·exact(List.mem_or_eq_of_mem_set hz).elim (hi.idle z) (fun e=>e▸hst)
 ·by_cases e:i=D.k
  ·subst e
   rw[Nu h] at hz
   cases hz
   obtain⟨h1,h2,_,_⟩:=hi.sync _ _ h.x
   refine⟨by omega,by omega,?_,D.an,h.l1_k,by rw[hsq];rfl⟩
   show(D.p.v.ap.set D.k D.an.seq)[D.k]?=_
   rw[List.getElem?_set_self (by rw[hap];exact h.k),hsq];rfl
  ·rw[List.getElem?_set_ne (fun q=>e q.symm)] at hz
   obtain⟨h1,h2,h3,a,h4,h5⟩:=hi.sync _ _ hz
   refine⟨h1,by omega,?_,a,?_,h5⟩
   ·show(D.p.v.ap.set D.k D.an.seq)[i]?=_
    rw[List.getElem?_set_ne (fun q=>e q.symm)];exact h3
   ·unfold OpD.l1;rw[List.getElem?_set_ne (fun q=>e q.symm)];exact h4
theorem ACd{D:OpD}(h:OpOk D)(y:WdP)(I:World→Prop)(M:Nat→Prop)(w:World)(hP:Phz D 10 y I)(hF0:Ft M I w):AFh D y M w true (fun y' r I=>r=D.res∧Fin D y' I):=by
 obtain⟨A,L,ps,l,x,E,hI,hS,hop,hsq,htk,hc⟩:=hP
 have hF:=hF0.imp hI
 have hxs:=Nu h x
 have hwl:(D.ws.set D.k x).length=2:=by rw[List.length_set];exact h.idle.wl
 have hl1:=h.l1_len
 have hk2:=h.k
 have hv:=h.idle.ver
 rcases hc with⟨q,_⟩|⟨q,_⟩|⟨q,_⟩|⟨q,_⟩|⟨q,_⟩|⟨q,_⟩|⟨q,_⟩|⟨q,_⟩|⟨q,_⟩|⟨_,rfl,rfl,hst,hrd,R,xr,rfl,hr,hfr⟩
 iterate 9 omega
 have hap1:(D.v1 R).ap[D.k]?=some x.seq:=by
  show(D.p.v.ap.set D.k D.an.seq)[D.k]?=_
  rw[List.getElem?_set_self (by rw[hv.an];exact hk2),hsq];rfl
 have hrs1:(D.v1 R).rs[D.k]?=some D.res:=by
  show(D.p.v.rs.set D.k (rsR (Gw D.p.V D.an.op).2))[D.k]?=_
  rw[List.getElem?_set_self (by rw[hv.rn];exact hk2)];rfl
 refine FC.mono (AGb hxs hS (by omega) (by omega) hst (by omega) ⟨xr,D.v1 R,D.V1⟩ rfl (by show 1≤1∧1≤64;decide) hap1 D.res hrs1 M w hF) ?_
 rintro v w' ⟨s,⟨oy,oA,oL,ops,ol,ox,oE,oans,ores⟩,⟨rfl,rfl,rfl,rfl,rfl,rfl,rfl,rfl⟩,rfl,hS2,C,hF2,hU⟩
 rw[Oq] at hS2
 refine⟨s,oy,D.res,_,C,rfl,⟨rfl,oA,{x with took:=x.took+1,rc:=Hr,st:=0,aa:=none,an:=0,ac:=0,nx:=Hr,ma:=none,mn:=0,mc:=0},xr,R,h.idle1 hr rfl hsq,hS2,hfr,fun u hu=>?_⟩,hF2,hU⟩
 unfold Out.I at hu
 rw[Oq] at hu
 exact hu
def Pz(D:OpD)(si:List Int)(lg:List EnQ)(j:Nat)(z:StP)(I:World→Prop):Prop :=
  z.inn=si.length∧si.length=2∧z.time=11*(D.c:Int)+j∧lg.length≤100 ∧
  ((1≤j∧j≤10∧z.ln=lg.length∧lg.length≤z.lc∧∃I0,Phz D j z.wd I0∧∀u,I u→I0 u∧Sl u z.ia 1 (si.map fun x=>[i6 x])∧Sl u z.la 10 (lg.map EnQ.cells)) ∨
   (j=11∧z.ln=lg.length+1∧lg.length+1≤z.lc∧∃I0 e,e.res=D.res∧Fin D z.wd I0∧∀u,I u→I0 u∧Sl u z.ia 1 (si.map fun x=>[i6 x])∧Sl u z.la 10 ((lg++[(e:EnQ)]).map EnQ.cells)))
theorem Phz.busy{D:OpD}{j:Nat}{y:WdP}{I:World→Prop}(h:Phz D j y I):∃x,(x.st≠0)∧y.wn=(D.ws.set D.k x).length∧∀u,I u→Sl u y.wa 24 ((D.ws.set D.k x).map WkP.cells):=by
 obtain⟨A,L,ps,l,x,E,hI,hS,_,_,_,hc⟩:=h
 refine⟨x,?_,hS.wn,fun u hu=>(hI u hu).wk⟩
 rcases hc with⟨_,_,_,_,_,hst,_⟩|⟨_,_,_,_,_,hst,_⟩|⟨_,_,_,_,_,hst,_⟩|⟨_,_,_,_,_,hst,_⟩|⟨_,_,_,_,_,hst,_⟩|⟨_,_,_,_,_,hst,_⟩|⟨_,_,_,_,_,hst,_⟩|⟨_,_,_,_,hst,_⟩|⟨_,_,_,hst,_⟩|⟨_,_,_,hst,_⟩<;>rw[hst]<;>decide
theorem Pz.states{D:OpD}{si:List Int}{lg:List EnQ}{j:Nat}{z:StP}{I:World→Prop}(hD:OpOk D)(h:Pz D si lg j z I):∃ws':List WkP,ws'.length=2∧z.wd.wn=2∧(∀u,I u→Sl u z.wd.wa 24 (ws'.map WkP.cells))∧(∀i (x:WkP),ws'[i]?=some x→(¬x.st=0↔i=D.k∧j≤10)):=by
 have hwl:=hD.idle.wl
 obtain⟨_,_,_,_,h|h⟩:=h
 ·obtain⟨_,h10,_,_,I0,hp,hI⟩:=h
  obtain⟨x,hx,hn,hw⟩:=hp.busy
  rw[List.length_set,hwl] at hn
  refine⟨_,by rw[List.length_set];exact hwl,hn,fun u hu=>hw u (hI u hu).1,fun i y hy=>?_⟩
  by_cases e:i=D.k
  ·subst e
   rw[Nu hD] at hy
   cases hy
   exact⟨fun _=>⟨rfl,h10⟩,fun _=>hx⟩
  ·rw[List.getElem?_set_ne (fun q=>e q.symm)] at hy
   exact⟨fun q=>absurd (hD.idle.idle y (Au hy)) q,fun q=>absurd q.1 e⟩
 ·obtain⟨h11,_,_,I0,e,_,⟨A,x,xr,R,hid,hS,_,hM⟩,hI⟩:=h
  refine⟨_,hid.wl,by rw[hS.wn];exact hid.wl,fun u hu=>(hM u (hI u hu).1).wk,fun i y hy=>⟨fun q=>absurd (hid.idle y (Au hy)) q,fun q=>by omega⟩⟩
theorem AKp{D:OpD}(h:OpOk D)(si:List Int)(lg:List EnQ)(j:Nat)(hj:j≤10)(z:StP)(I:World→Prop)(M:Nat→Prop)(w:World)(hP:Pz D si lg j z I)(hF:Ft M I w):
  FC Tryz.prog 41 [.agg z.cells.toArray,.int .i64 (D.k:Int)] w (fun v w'=>Sub w w'∧∃z' I' M',v=.tuple #[.agg (z':StP).cells.toArray,.int .i64 0]∧Pz D si lg (j+1) z' I'∧Ft M' I' w'∧Up M w M'):=by
 obtain⟨h1,h2,h3,h4,hc⟩:=hP
 have hcb:=h.c
 rcases hc with⟨g1,_,g3,g4,I0,hp,hI⟩|⟨h11,_⟩
 rotate_left
 ·omega
 have hF0:Ft M I0 w:=hF.imp fun u hu=>(hI u hu).1
 have hFr:Ft M (fun u=>Sl u z.ia 1 (si.map fun x=>[i6 x])∧Sl u z.la 10 (lg.map EnQ.cells)) w:=hF.imp fun u hu=>(hI u hu).2
 by_cases h10:j=10
 ·subst h10
  obtain⟨x,hxs,hwn,hwk⟩:=hp.busy
  obtain⟨s0,hs0⟩:=Ce (l:=si) (i:=D.k) (by rw[h2];exact h.k)
  refine FC.mono (AIE z D.k M w hF.lt (by omega) _ x (Nu h x) hwn (hwk w hF0.now) si s0 hs0 h1 hFr.now.1 lg g3 g4 hFr.now.2 (by omega) (fun y' r I'=>r=D.res∧Fin D y' I') (fun w1 s1=>ACd h z.wd I0 M w1 hp (hF0.sub s1))) ?_
  rintro v w' ⟨s,y',r,I',C,a,c,CL,rfl,⟨rfl,hfin⟩,hC,hU,hcl,hCL,hUL⟩
  exact⟨s,_,_,_,rfl,⟨h1,h2,by show z.time+1=_;omega,h4,.inr ⟨rfl,rfl,hcl,I',_,rfl,hfin,fun u hu=>hu⟩⟩,(hC.and (((hFr.sub s).imp fun u hu=>hu.1).and hCL)),fun i hi=>hi.elim (hU i) (fun hi=>hi.elim .inl (fun hi=>(hUL i hi).imp False.elim id))⟩
 ·refine FC.mono (AIF z D.k M w hF.lt (by omega) (fun y' r I'=>Phz D (j+1) y' I') (fun w1 s1=>ACc h j (by omega) z.wd I0 M w1 hp (hF0.sub s1))) ?_
  rintro v w' ⟨s,y',r,I',C,rfl,hph,hC,hU⟩
  exact⟨s,_,_,_,rfl,⟨h1,h2,by show z.time+1=_;omega,h4,.inl ⟨by omega,by omega,g3,g4,I',hph,fun u hu=>hu⟩⟩,(hC.and (hFr.sub s)),fun i hi=>hi.elim (hU i) .inl⟩
def StI(c:Nat)(A:Ar)(p:VP)(l:List AnT)(ws:List WkP)(si:List Int)(lg:List EnQ)(z:StP)(I:World→Prop):Prop :=
 Idle c A p l ws∧WdS z.wd A l ws∧z.inn=si.length∧si.length=2∧z.ln=lg.length∧lg.length≤z.lc∧z.time=11*(c:Int) ∧
 ∀u,I u→WdM z.wd A [p] (Er 2) l ws (fun _=>True) u∧Sl u z.ia 1 (si.map fun x=>[i6 x])∧Sl u z.la 10 (lg.map EnQ.cells)
theorem Pz.fin{D:OpD}{si:List Int}{lg:List EnQ}{z:StP}{I:World→Prop}(h:Pz D si lg 11 z I):∃A xr R ws e,(e:EnQ).res=D.res∧StI (D.c+1) A ⟨xr,D.v1 R,D.V1⟩ D.l1 ws si (lg++[e]) z I∧D.A.free.length≤A.free.length+(D.p.V.length+2):=by
 obtain⟨h1,h2,h3,h4,⟨_,h10,_⟩|⟨_,h5,h6,I0,e,he,⟨A,x,xr,R,hid,hS,hf,hM⟩,hI⟩⟩:=h
 ·omega
 ·exact⟨A,xr,R,_,e,he,⟨hid,hS,h1,h2,by rw[h5];simp,by rw[Ag,List.length_singleton];exact h6,by rw[h3];omega,fun u hu=>⟨hM u (hI u hu).1,(hI u hu).2⟩⟩,hf⟩
theorem AIS{D:OpD}(h:OpOk D)(si:List Int)(lg:List EnQ)(hlg:lg.length≤100)(z:StP)(I:World→Prop)(M:Nat→Prop)(w:World)(hP:StI D.c D.A D.p D.l D.ws si lg z I)(hF:Ft M I w):
  FC Tryz.prog 57 [.agg z.cells.toArray,.int .i64 (D.k:Int),.agg D.o.cells.toArray] w (fun v w'=>Sub w w'∧∃z' I' M' si',v=.tuple #[.agg (z':StP).cells.toArray,.int .i64 0]∧Pz D si' lg 1 z' I'∧Ft M' I' w'∧Up M w M'):=by
 obtain⟨hid,hS,h1,h2,h3,h4,h5,hI⟩:=hP
 have hwl:=hid.wl
 have hcb:=h.c
 obtain⟨q1,q2,_,_⟩:=hid.sync _ _ h.x
 refine FC.mono (AID z D.k D.ws D.x h.x hS.wn (by omega) (hid.idle _ (Au h.x)) (by omega) D.o h.ok (by omega) si (by rw[h2];exact h.k) h1 (by omega) w (hI w hF.now).1.wk (hI w hF.now).2.1) ?_
 rintro v w' ⟨s,b,c,C,b2,c2,C2,rfl,hc,hC,hU,hc2,hC2,hU2⟩
 have hF2:=hF.sub s
 have hFF:Ft _ (fun u=>WdM {z.wd with wa:=some ⟨b,0,none⟩,wn:=D.ws.length,wc:=c} D.A [D.p] (Er 2) D.l (D.ws.set D.k (AA1 D.x D.o)) (fun _=>True) u∧Sl u (some ⟨b2,0,none⟩) 1 ((si.set D.k z.time).map fun x=>[i6 x])∧Sl u z.la 10 (lg.map EnQ.cells)) w' :=
  (hF2.and (hC.and hC2)).imp fun u hu=>⟨⟨(hI u hu.1).1.ar,(hI u hu.1).1.tb,(hI u hu.1).1.an,hu.2.1,trivial⟩,hu.2.2,(hI u hu.1).2.2⟩
 exact⟨s,_,_,_,si.set D.k z.time,rfl,⟨List.length_set.symm,by rw[List.length_set];exact h2,by show z.time+1=_;omega,hlg,.inl ⟨Nat.le_refl _,by omega,h3,h4,_,⟨D.A,[D.p],Er 2,D.l,AA1 D.x D.o,(fun _=>True),fun u hu=>hu,⟨hS.nn,hS.nc,hS.fn,hS.fc,hS.an,hS.ac,by rw[List.length_set],by rw[List.length_set];exact hc⟩,rfl,rfl,rfl,.inl ⟨rfl,rfl,rfl,rfl,rfl,rfl,rfl⟩⟩,fun u hu=>hu⟩⟩,hFF,
  fun i hi=>hi.elim .inl (fun hi=>hi.elim (fun hi=>(hU i hi).imp False.elim id) (fun hi=>(hU2 i hi).imp False.elim id))⟩
structure PlS where
 i:Nat
 j:Nat
 z:StP
 I:World→Prop
 M:Nat→Prop
 si:List Int
theorem Pz.wn{D:OpD}{si:List Int}{lg:List EnQ}{j:Nat}{z:StP}{I:World→Prop}(hD:OpOk D)(h:Pz D si lg j z I):z.wd.wn=2:=(h.states hD).choose_spec.2.1
set_option maxRecDepth 10000 in
set_option maxHeartbeats 2000000 in
theorem AJ7{D:OpD}(h:OpOk D)(si:List Int)(lg:List EnQ)(hlg:lg.length≤100)(z:StP)(I:World→Prop)(M:Nat→Prop)(w:World)(hP:StI D.c D.A D.p D.l D.ws si lg z I)(hF:Ft M I w)(sa:Option Addr)(sc:Nat)(hsa:Sl w sa 5 [(.int .i64 (D.k:Int)::D.o.cells)]):
  FC Tryz.prog 19 [.agg z.cells.toArray,.slice sa 1 sc,.int .i64 1,.bool true] w (fun v w'=>Sub w w'∧∃z' I' M' si',v=.tuple #[.agg (z':StP).cells.toArray,.bool true]∧Pz D si' lg 11 z' I'∧Ft M' I' w'∧Up M w M'):=by
 have hwl:=hP.1.wl
 have hwn:z.wd.wn=2:=by rw[hP.2.1.wn];exact hwl
 have hk2:=h.k
 have hwk:=hF.imp fun u hu=>(hP.2.2.2.2.2.2.2 u hu).1.wk
 have hst:=hP.1.idle _ (Au h.x)
 have hxz:D.ws[(D.k:Int).toNat]?=some D.x:=by rw[Int.toNat_natCast];exact h.x
 refine As Tryz.func19 rfl Tryz.ntmps19 rfl ?_
 have S:=Ax w
 refine Ac<|Aa rfl<|Bu rfl rfl rfl (fun b_4 w_4 e_4 z_4 hb_4 s_4=>?_);have ge_4:=S.le e_4;have d_hF_b_4:=hF.neNew e_4;have S:=S.trans s_4;have hF:=hF.sub s_4
 have hb_4:Has w_4 b_4 (z.cells) _:=hb_4
 refine Ay Ka rfl rfl (fun b_8 w_8 e_8 z_8 hb_8 s_8=>?_);have ge_8:=S.le e_8;have n_4__8:=hb_4.ne e_8;have d_hF_b_8:=hF.neNew e_8;have S:=S.trans s_8;have hF:=hF.sub s_8;have hb_4:=hb_4.sub s_8;refine Ah rfl<|Ae<|Ab<|Ac<|Aa rfl<|Av Gp rfl<|Av Gz rfl<|Ba Nj rfl hb_4 rfl<|Ak (.as (v':=.int .i64 2) (.len Nb rfl) (by rw[hwn];rfl))<|Ah rfl<|Ae<|Ab<|Ac<|Ac<|Aa rfl<|Af rfl ?_;refine Cm AHT rfl<|Af rfl<|Ae<|Ab<|Bh<|Cw (α:=PlS) (fun x=>[(2,.int .i64 1),(3,.bool true),(4,.pointer (some ⟨b_4,0,none⟩)),(8,.pointer (some ⟨b_8,0,none⟩)),(9,.bool false),(10,.int .i64 2),(26,.slice sa 1 sc),(27,.int .i64 1),(28,.int .i64 (x.i:Int))]) (fun x w1=>(x.i≤1∧(x.i=0→z=x.z∧I=x.I∧M=x.M)∧(x.i=1→Pz D x.si lg 2 x.z x.I)∧Up M w x.M)∧Has w1 b_4 x.z.cells 67∧Has w1 b_8 Rx.cells 67∧Ft x.M x.I w1∧Sub w w1∧(∀k,x.M k→k≠b_4)∧(∀k,x.M k→k≠b_8)) (fun x=>1-x.i) ⟨0,0,z,I,M,si⟩ (Bf (by repeat (first|exact trivial|refine And.intro rfl ?_))) (⟨⟨Nat.zero_le _,fun _=>⟨rfl,rfl,rfl⟩,fun h=>(by cases h),Up.refl M w⟩,hb_4,hb_8,hF,S,d_hF_b_4,d_hF_b_8⟩) (fun x w1 hJ=>?_)
 obtain⟨i,jj,z1,I1,M1,si1⟩:=x;obtain⟨⟨hi,h0,h1,upF⟩,hb_4,hb_8,hF,S,d4,d8⟩:=hJ;simp only[] at hi h0 h1 upF hb_4 hF d4 d8
 refine Ac<|Aa rfl<|Bc rfl rfl rfl<|Ae<|Ab<|Ac<|An rfl (fun h2=>?_) (fun h2=>?_)
 ·
  have h29:=h2
  simp only[] at h29
  have hi0:i=0:=(by omega)
  subst hi0
  obtain⟨e1,e2,e3⟩:=h0 rfl
  subst e1
  subst e2
  subst e3
  have hwk:=hF.imp fun u hu=>(hP.2.2.2.2.2.2.2 u hu).1.wk
  refine Ao<|Ab<|Ac<|Bh<|Ac<|Aa rfl<|Af rfl<|Ak (.indexS AHT rfl rfl (by show 0≤((0:Nat):Int)∧((0:Nat):Int)<((1:Nat):Int);decide) (hsa.is (i:=0) (by simp only[Aj,Al,Am];omega)))<|Ak (.loadR (.int .i64 (D.k:Int)::D.o.cells) AKX rfl ((hsa.sub S).row 0 _ rfl) rfl)<|Ay AE6 rfl rfl (fun b_12 w_12 e_12 z_12 hb_12 s_12=>?_);have ge_12:=S.le e_12;have n_4__12:=hb_4.ne e_12;have n_8__12:=hb_8.ne e_12;have d_hF_b_12:=hF.neNew e_12;have S:=S.trans s_12;have hb_4:=hb_4.sub s_12;have hb_8:=hb_8.sub s_12;have hF:=hF.sub s_12;refine Ah rfl<|At AKX rfl rfl rfl hb_12 (fun w3 z3 hb_12 a3=>?_);have S:=S.upd a3 ge_12;have hb_4:=hb_4.upd a3 n_4__12;have hb_8:=hb_8.upd a3 n_8__12;have hF:=hF.updD a3 d_hF_b_12
  have hb_12:Has w3 b_12 (.int .i64 (D.k:Int)::D.o.cells) _:=hb_12.now (by kernel_rfl)
  refine Ae<|Ab<|Ac<|Ac<|Aa rfl<|Af rfl<|Af rfl<|Ak (.as (v':=.bool false) (.bin rfl rfl rfl) (Bt (by show¬(1:Int)≤((0:Nat):Int);decide)))<|Ae<|Ab<|Bw rfl<|Ao<|Ab<|Ac<|Aa rfl<|Av AJs rfl ?_;refine Ba sh3 rfl hb_12 rfl<|Af rfl<|Ak (.as (v':=.int .i64 (D.k:Int)) (.rem rfl rfl (by omega)) (by rw[AAv (by omega)];congr 1;omega))<|Af rfl<|Ak (.as (.bin rfl rfl rfl) (Cs (y:=(D.k:Int)+2) (by rfl) (by omega)))<|Af rfl<|Ak (.as (v':=.int .i64 (D.k:Int)) (.rem rfl rfl (by omega)) (by rw[AAv (by omega)];congr 1;omega))<|Ah rfl<|Ae<|Ab<|Ac<|Ac<|Aa rfl<|Av Gp rfl<|Av Gz rfl<|Ba Nj rfl hb_4 rfl ?_;refine Af rfl<|Ak (.indexS Nb rfl rfl (by show 0≤(D.k:Int)∧(D.k:Int)<((z.wd.wn:Nat):Int);rw[hwn];omega) (hwk.now.is (i:=0) (by simp only[Aj,Al,Am];omega)))<|Ak (.fieldA Gn rfl)<|Ak (.load1 sh3 rfl ((hP.2.2.2.2.2.2.2 _ hF.now).1.wk.rowAt (enc:=WkP.cells) (i:=(D.k:Int).toNat) hxz 0 _ rfl))<|Ak (.as (v':=.bool true) (.bin rfl rfl rfl) (Cr (hst)))<|Af rfl<|Av AFx rfl<|Ak (.loadR (D.o.cells) Uc rfl (Ia (m1:=List.take 1 (.int .i64 (D.k:Int)::D.o.cells)) (m2:=D.o.cells) (m3:=List.drop 5 (.int .i64 (D.k:Int)::D.o.cells)) hb_12 rfl) rfl)<|Az rfl AMl (FC.yes (AAr D.o w3) h.ok) ?_;rintro _ w4 ⟨rfl,s5⟩;have S:=S.trans s5;have hb_4:=hb_4.sub s5;have hb_8:=hb_8.sub s5;have hF:=hF.sub s5;have hb_12:=hb_12.sub s5;refine Br rfl rfl<|Ae<|Ab<|Bm rfl<|Ac<|Aa rfl<|Ak (.loadR (z.cells) Dw rfl hb_4.row rfl)<|Af rfl<|Av AFx rfl<|Ak (.loadR (D.o.cells) Uc rfl (Ia (m1:=List.take 1 (.int .i64 (D.k:Int)::D.o.cells)) (m2:=D.o.cells) (m3:=List.drop 5 (.int .i64 (D.k:Int)::D.o.cells)) hb_12 rfl) rfl)<|Az rfl AMW (AIS h si lg hlg z I M w4 hP hF) ?_;rintro _ w6 ⟨s7,z2,I2,M2,si2,rfl,hP2,hF2,up2⟩;have d_hF2_b_4:=Di up2 d4 hb_4.lt;have d_hF2_b_8:=Di up2 d8 hb_8.lt;have d_hF2_b_12:=Di up2 d_hF_b_12 hb_12.lt
  have upA:Up M w M2:=fun k hk=>(up2 k hk).imp id (fun h=>Ad S.size h)
  have S:=S.trans s7;have hb_4:=hb_4.sub s7;have hb_8:=hb_8.sub s7;have hF:=hF.sub s7;have hb_12:=hb_12.sub s7;refine Af rfl<|Bz rfl rfl<|Bz rfl rfl<|Ay Ka rfl rfl (fun b_14 w_14 e_14 z_14 hb_14 s_14=>?_);have ge_14:=S.le e_14;have n_4__14:=hb_4.ne e_14;have n_8__14:=hb_8.ne e_14;have n_12__14:=hb_12.ne e_14;have d_hF2_b_14:=hF2.neNew e_14;have S:=S.trans s_14;have hb_4:=hb_4.sub s_14;have hb_8:=hb_8.sub s_14;have hb_12:=hb_12.sub s_14;have hF2:=hF2.sub s_14;refine At Dw rfl rfl rfl hb_14 (fun w8 z8 hb_14 a8=>?_);have S:=S.upd a8 ge_14;have hb_4:=hb_4.upd a8 n_4__14;have hb_8:=hb_8.upd a8 n_8__14;have hb_12:=hb_12.upd a8 n_12__14;have hF2:=hF2.updD a8 d_hF2_b_14
  have hb_14:Has w8 b_14 (z2.cells) _:=hb_14.now (by kernel_rfl)
  refine Ah rfl<|Ae<|Ab<|Ac<|Ac<|Aa rfl<|Af rfl<|Ak (.as (v':=.bool false) (.bin rfl rfl rfl) (Bt (fun h=>h rfl)))<|Ae<|Ab<|Bw rfl<|Ao<|Ab<|Aa rfl<|Ak (.loadR (z2.cells) Dw rfl hb_14.row rfl)<|At Dw rfl rfl rfl hb_4 (fun w9 z9 hb_4 a9=>?_);have S:=S.upd a9 ge_4;have hb_8:=hb_8.upd a9 n_4__8.symm;have hb_12:=hb_12.upd a9 n_4__12.symm;have hF2:=hF2.updD a9 d_hF2_b_4;have hb_14:=hb_14.upd a9 n_4__14.symm
  have hb_4:Has w9 b_4 (z2.cells) _:=hb_4.now (by kernel_rfl)
  refine Ae<|Ab<|Ac<|Aa rfl<|Ak (.loadR (z2.cells) Dw rfl hb_4.row rfl)<|Af rfl<|Az rfl AHa (AKp h si2 lg 1 (by omega) z2 I2 M2 w9 hP2 hF2) ?_;rintro _ w10 ⟨s11,z3,I3,M3,rfl,hP3,hF3,up3⟩;have d_hF3_b_4:=Di up3 d_hF2_b_4 hb_4.lt;have d_hF3_b_8:=Di up3 d_hF2_b_8 hb_8.lt;have d_hF3_b_12:=Di up3 d_hF2_b_12 hb_12.lt;have d_hF3_b_14:=Di up3 d_hF2_b_14 hb_14.lt
  have upB:Up M w M3:=fun k hk=>(up3 k hk).elim (upA k) (fun h=>.inr (Ad S.size h))
  have S:=S.trans s11;have hb_4:=hb_4.sub s11;have hb_8:=hb_8.sub s11;have hb_12:=hb_12.sub s11;have hF2:=hF2.sub s11;have hb_14:=hb_14.sub s11;refine Af rfl<|Bz rfl rfl<|Bz rfl rfl<|Ay Ka rfl rfl (fun b_16 w_16 e_16 z_16 hb_16 s_16=>?_);have ge_16:=S.le e_16;have n_4__16:=hb_4.ne e_16;have n_8__16:=hb_8.ne e_16;have n_12__16:=hb_12.ne e_16;have n_14__16:=hb_14.ne e_16;have d_hF3_b_16:=hF3.neNew e_16;have S:=S.trans s_16;have hb_4:=hb_4.sub s_16;have hb_8:=hb_8.sub s_16;have hb_12:=hb_12.sub s_16;have hb_14:=hb_14.sub s_16;have hF3:=hF3.sub s_16;refine At Dw rfl rfl rfl hb_16 (fun w12 z12 hb_16 a12=>?_);have S:=S.upd a12 ge_16;have hb_4:=hb_4.upd a12 n_4__16;have hb_8:=hb_8.upd a12 n_8__16;have hb_12:=hb_12.upd a12 n_12__16;have hb_14:=hb_14.upd a12 n_14__16;have hF3:=hF3.updD a12 d_hF3_b_16
  have hb_16:Has w12 b_16 (z3.cells) _:=hb_16.now (by kernel_rfl)
  refine Ah rfl<|Ae<|Ab<|Ac<|Ac<|Aa rfl<|Af rfl<|Ak (.as (v':=.bool false) (.bin rfl rfl rfl) (Bt (fun h=>h rfl)))<|Af rfl<|Av Gp rfl<|Av Gz rfl<|Ba Nj rfl hb_16 rfl<|Cm Nb rfl<|Af rfl<|Ak (.as (v':=.bool false) (.bin rfl rfl rfl) (Bt (by show¬¬((z3.wd.wn:Nat):Int)=2;rw[hP3.wn h];exact fun h=>h rfl)))<|Bq rfl rfl ?_;refine Ae<|Ab<|Bw rfl<|Ao<|Ab<|Aa rfl<|Ak (.loadR (z3.cells) Dw rfl hb_16.row rfl)<|At Dw rfl rfl rfl hb_4 (fun w13 z13 hb_4 a13=>?_);have S:=S.upd a13 ge_4;have hb_8:=hb_8.upd a13 n_4__8.symm;have hb_12:=hb_12.upd a13 n_4__12.symm;have hb_14:=hb_14.upd a13 n_4__14.symm;have hF3:=hF3.updD a13 d_hF3_b_4;have hb_16:=hb_16.upd a13 n_4__16.symm
  have hb_4:Has w13 b_4 (z3.cells) _:=hb_4.now (by kernel_rfl)
  refine Ae<|Ab<|Aa rfl<|Ak (.as (.bin rfl rfl rfl) (Cs (y:=((1:Nat):Int)) (by rfl) (by omega)))<|Af rfl ?_
  exact Ae (fun a ka=>⟨⟨1,0,z3,I3,M3,si2⟩,⟨⟨Nat.le_refl _,fun h=>(by cases h),fun _=>hP3,upB⟩,hb_4,hb_8,hF3,S,d_hF3_b_4,d_hF3_b_8⟩,by show 1-1<1-0;decide,ka.keep (Bf (by repeat (first|exact trivial|refine And.intro rfl ?_)))⟩)
 ·
  have h29:=h2
  simp only[] at h29
  have hi1:i=1:=(by omega)
  subst hi1
  have hPz:=h1 rfl
  refine Co rfl<|Ab<|Ac<|Ac<|Aa rfl<|Af rfl<|Af rfl<|Ae<|Ab<|Bh<|Cw (α:=PlS) (fun x=>[(3,.bool true),(4,.pointer (some ⟨b_4,0,none⟩)),(8,.pointer (some ⟨b_8,0,none⟩)),(9,.bool false),(10,.int .i64 2),(88,.int .i64 2),(89,.int .i64 (x.i:Int))]) (fun x w14=>(x.i≤2∧x.j=(if x.i≤D.k then 2 else 11)∧Pz D x.si lg x.j x.z x.I∧Up M w x.M)∧Has w14 b_4 x.z.cells 67∧Has w14 b_8 Rx.cells 67∧Ft x.M x.I w14∧Sub w w14∧(∀k,x.M k→k≠b_4)∧(∀k,x.M k→k≠b_8)) (fun x=>2-x.i) ⟨0,2,z1,I1,M1,si1⟩ (Bf (by repeat (first|exact trivial|refine And.intro rfl ?_))) (⟨⟨Nat.zero_le _,(if_pos (Nat.zero_le _)).symm,hPz,upF⟩,hb_4,hb_8,hF,S,d4,d8⟩) (fun x w14 hJ=>?_)
  obtain⟨io,jj,z4,I4,M4,si4⟩:=x;obtain⟨⟨hi,hjj,hPz,upF⟩,hb_4,hb_8,hF,S,d4,d8⟩:=hJ;simp only[] at hi hjj hPz upF hb_4 hF d4 d8
  refine Ac<|Aa rfl<|Bc rfl rfl rfl<|Ae<|Ab<|Ac<|An rfl (fun h15=>?_) (fun h15=>?_)
  ·
   have h90:=h15
   simp only[] at h90
   have hio:io<2:=(by omega)
   refine Ao<|Ab<|Ac<|Bh<|Ac<|Aa rfl<|Af rfl<|Ah rfl<|Ae<|Ab<|Ac<|Aa rfl<|Ah rfl<|Ae<|Ab<|Bh ?_;refine Cw (α:=PlS) (fun x=>[(3,.bool true),(4,.pointer (some ⟨b_4,0,none⟩)),(8,.pointer (some ⟨b_8,0,none⟩)),(9,.bool false),(10,.int .i64 2),(18,.int .i64 (io:Int)),(19,.int .i64 (x.i:Int)),(88,.int .i64 2),(89,.int .i64 (io:Int))]) (fun x w16=>(Pz D x.si lg x.j x.z x.I∧(2≤x.j∧x.j≤11)∧(io<D.k→x.j=2∧x.i=0)∧(io=D.k→x.i+2=x.j)∧(D.k<io→x.j=11∧x.i=0)∧Up M w x.M)∧Has w16 b_4 x.z.cells 67∧Has w16 b_8 Rx.cells 67∧Ft x.M x.I w16∧Sub w w16∧(∀k,x.M k→k≠b_4)∧(∀k,x.M k→k≠b_8)) (fun x=>11-x.j) ⟨0,jj,z4,I4,M4,si4⟩ (Bf (by repeat (first|exact trivial|refine And.intro rfl ?_))) (⟨⟨hPz,by simp only[];rw[hjj];split<;>omega,fun q=>⟨by simp only[];rw[hjj,if_pos (by omega)],rfl⟩,fun q=>by simp only[];rw[hjj,if_pos (by omega)],fun q=>⟨by simp only[];rw[hjj,if_neg (by omega)],rfl⟩,upF⟩,hb_4,hb_8,hF,S,d4,d8⟩) (fun x w16 hJ=>?_)
   obtain⟨i,j,z5,I5,M5,si5⟩:=x;obtain⟨⟨hPz,hj2,hc1,hc2,hc3,upF⟩,hb_4,hb_8,hF,S,d4,d8⟩:=hJ;simp only[] at hPz hj2 hc1 hc2 hc3 upF hb_4 hF d4 d8;obtain⟨ws',hw1,hw2,hw3,hw4⟩:=hPz.states h;obtain⟨y,hy⟩:=Ce (l:=ws') (i:=io) (by omega);have hy4:=hw4 io y hy;have hyz:ws'[(io:Int).toNat]?=some y:=(by rw[Int.toNat_natCast];exact hy);have hws:=hF.imp hw3
   refine Ac<|Ac<|Aa rfl<|Af rfl<|Af rfl<|Av Gp rfl<|Av Gz rfl<|Ba Nj rfl hb_4 rfl<|Af rfl<|Ak (.indexS Nb rfl rfl (by show 0≤(io:Int)∧(io:Int)<((z5.wd.wn:Nat):Int);rw[hw2];omega) (hws.now.is (i:=0) (by simp only[Aj,Al,Am];omega)))<|Ak (.fieldA Gn rfl)<|Ak (.load1 sh3 rfl (hws.now.rowAt (enc:=WkP.cells) (i:=(io:Int).toNat) hyz 0 _ rfl))<|Bc rfl rfl rfl<|Br rfl rfl<|Ae (Ab ?_);refine An rfl (fun h17=>?_) (fun h17=>?_)
   ·
    have h102:=hy4.1 h17
    have hiD:=h102.1
    have hj10:=h102.2
    refine Ao<|Ab<|Ac<|Bh<|Ac<|Aa rfl<|Ak (.loadR (z5.cells) Dw rfl hb_4.row rfl)<|Ak (.as (v':=.int .i64 (D.k:Int)) (.move rfl) (by rw[hiD]))<|Az rfl AHa (AKp h si5 lg j hj10 z5 I5 M5 w16 hPz hF) ?_;rintro _ w18 ⟨s19,z6,I6,M6,rfl,hP6,hF6,up6⟩;have d_hF6_b_4:=Di up6 d4 hb_4.lt;have d_hF6_b_8:=Di up6 d8 hb_8.lt
    have upC:Up M w M6:=fun k hk=>(up6 k hk).elim (upF k) (fun h=>.inr (Ad S.size h))
    have S:=S.trans s19;have hb_4:=hb_4.sub s19;have hb_8:=hb_8.sub s19;have hF:=hF.sub s19;refine Af rfl<|Bz rfl rfl<|Bz rfl rfl<|Ay Ka rfl rfl (fun b_20 w_20 e_20 z_20 hb_20 s_20=>?_);have ge_20:=S.le e_20;have n_4__20:=hb_4.ne e_20;have n_8__20:=hb_8.ne e_20;have d_hF6_b_20:=hF6.neNew e_20;have S:=S.trans s_20;have hb_4:=hb_4.sub s_20;have hb_8:=hb_8.sub s_20;have hF6:=hF6.sub s_20;refine At Dw rfl rfl rfl hb_20 (fun w20 z20 hb_20 a20=>?_);have S:=S.upd a20 ge_20;have hb_4:=hb_4.upd a20 n_4__20;have hb_8:=hb_8.upd a20 n_8__20;have hF6:=hF6.updD a20 d_hF6_b_20
    have hb_20:Has w20 b_20 (z6.cells) _:=hb_20.now (by kernel_rfl)
    refine Ah rfl<|Ae<|Ab<|Ac<|Ac<|Aa rfl<|Af rfl<|Ak (.as (v':=.bool false) (.bin rfl rfl rfl) (Bt (fun h=>h rfl)))<|Af rfl<|Af rfl<|Af rfl<|Ak (.as (v':=.int .i64 4) (.bin rfl rfl rfl) (by rfl))<|Ak (.as (v':=.int .i64 18) (.bin rfl rfl rfl) (by rfl))<|Ak (.as (v':=.bool false) (.bin rfl rfl rfl) (Bt (by show¬(18:Int)<((i:Nat):Int);omega)))<|Bq rfl rfl<|Af rfl ?_;refine Av Gp rfl<|Av Gz rfl<|Ba Nj rfl hb_20 rfl<|Cm Nb rfl<|Af rfl<|Ak (.as (v':=.bool false) (.bin rfl rfl rfl) (Bt (by show¬¬((z6.wd.wn:Nat):Int)=2;rw[hP6.wn h];exact fun h=>h rfl)))<|Bq rfl rfl<|Ae<|Ab<|Bw rfl<|Ao<|Ab<|Aa rfl<|Ak (.loadR (z6.cells) Dw rfl hb_20.row rfl)<|At Dw rfl rfl rfl hb_4 (fun w21 z21 hb_4 a21=>?_);have S:=S.upd a21 ge_4;have hb_8:=hb_8.upd a21 n_4__8.symm;have hF6:=hF6.updD a21 d_hF6_b_4;have hb_20:=hb_20.upd a21 n_4__20.symm
    have hb_4:Has w21 b_4 (z6.cells) _:=hb_4.now (by kernel_rfl)
    refine Ae<|Ab<|Aa rfl<|Af rfl<|Ak (.as (.bin rfl rfl rfl) (Cs (y:=((i+1:Nat):Int)) (by show((i:Nat):Int)+1=_;omega) (by omega)))<|Ah rfl ?_
    exact Ae (fun a ka=>⟨⟨i+1,j+1,z6,I6,M6,si5⟩,⟨⟨hP6,by simp only[];omega,fun q=>by omega,fun q=>by simp only[];omega,fun q=>by omega,upC⟩,hb_4,hb_8,hF6,S,d_hF6_b_4,d_hF6_b_8⟩,by simp only[];omega,ka.keep (Bf (by repeat (first|exact trivial|refine And.intro rfl ?_)))⟩)
   ·
    have h102:¬(io=D.k∧j≤10):=(fun q=>h17 (hy4.2 q))
    refine Co rfl<|Ab<|Aa rfl<|Ak (.as (.bin rfl rfl rfl) (Cs (y:=((io+1:Nat):Int)) (by show((io:Nat):Int)+1=_;omega) (by omega)))<|Af rfl ?_
    exact Ae (fun a ka=>⟨⟨io+1,j,z5,I5,M5,si5⟩,⟨⟨by simp only[];omega,by show j=if io+1≤D.k then 2 else 11;split<;>omega,hPz,upF⟩,hb_4,hb_8,hF,S,d4,d8⟩,by simp only[];omega,ka.keep (Bf (by repeat (first|exact trivial|refine And.intro rfl ?_)))⟩)
  ·
   have h90:=h15
   simp only[] at h90
   have hi2:io=2:=(by omega)
   rw[hi2,if_neg (by omega)] at hjj
   subst hjj
   refine Co rfl<|Ab<|Ac<|Aa rfl<|Ak (.loadR (z4.cells) Dw rfl hb_4.row rfl)<|At Dw rfl rfl rfl hb_8 (fun w22 z22 hb_8 a22=>?_);have S:=S.upd a22 ge_8;have hb_4:=hb_4.upd a22 n_4__8;have hF:=hF.updD a22 d8
   have hb_8:Has w22 b_8 (z4.cells) _:=hb_8.now (by kernel_rfl)
   refine Ah rfl<|Ae<|Ab<|Bo (rs:=[.cell 8 67,.tmp 9]) (vs:=[_,_]) rfl rfl ⟨⟨_,rfl,.inr ⟨z4.cells,Dw,hb_8.row,rfl⟩⟩,rfl,trivial⟩ ?_
   exact⟨S,z4,I4,M4,si4,rfl,hPz,hF,upF⟩
def vp0(x:RcP):VP:=⟨x,⟨0,rt0,[0,0],[⟨0,0,0⟩,⟨0,0,0⟩]⟩,[]⟩
def an0:AnT:=⟨0,⟨0,0,0,0⟩⟩
def AAu:WkP:=⟨0,⟨0,0,0,0⟩,0,0,0,Hr,none,0,0,Hr,none,0,0⟩
theorem AFs{u:World}{z:StP}{x:RcP}(h:StNew 2 512 u z x):(WdS z.wd (Fe 512) [an0,an0] [AAu,AAu]∧z.inn=2∧z.ln=0∧z.time=0)∧WdM z.wd (Fe 512) [vp0 x] (Er 2) [an0,an0] [AAu,AAu] (fun _=>True) u∧Sl u z.ia 1 (([0,0]:List Int).map fun x=>[i6 x])∧Sl u z.la 10 (([]:List EnQ).map EnQ.cells):=by
 obtain⟨⟨wd,time,ia,inn,ic,la,ln,lc,ca,cn,cc⟩,rfl⟩:∃z',z'=z:=⟨z,rfl⟩
 obtain⟨hW,rfl,rfl,rfl,rfl,b1,b2,rfl,rfl,rfl,_,_,_,h1,_⟩:=h
 obtain⟨na,nn,nc,fa,fn,fc,tb,aa,an,ac,wa,wn,wc⟩:=wd
 obtain⟨har,e1,e2,e3,e4,ht,b3,b4,rfl,rfl,rfl,rfl,rfl,rfl,h3,h4⟩:=hW
 simp only[] at e1 e2 e3 e4 har
 obtain⟨b5,b6,b7,rfl,h5,h6,h7,b8,b9,rfl,h8,h9⟩:=ht
 refine⟨⟨⟨e1,e1▸e2,e3,e3▸e4,rfl,Nat.le_refl _,rfl,Nat.le_refl _⟩,rfl,rfl,rfl⟩,⟨har,⟨?_,rfl,Nat.le_refl _,?_,rfl,?_,rfl,?_⟩,?_,?_,trivial⟩,?_,Sl.nil _ _ _⟩
 ·exact Dr h5
 ·exact Hj (rows:=List.replicate 2 [.int .i64 (-1)]) h6 (fun r hr=>by rw[List.eq_of_mem_replicate hr];rfl)
 ·exact Hj (rows:=List.replicate 8 [.int .i64 (-1)]) h7 (fun r hr=>by rw[List.eq_of_mem_replicate hr];rfl)
 ·intro p hp
  rw[List.mem_singleton.1 hp]
  exact⟨rfl,rfl,rfl,rfl,Nat.le_refl _,Nat.le_refl _,Hj (rows:=List.replicate 2 [i0]) h8 (fun r hr=>by rw[List.eq_of_mem_replicate hr];rfl),Hj (rows:=List.replicate 2 [i0,i0,i0]) h9 (fun r hr=>by rw[List.eq_of_mem_replicate hr];rfl)⟩
 ·exact Hj (rows:=List.replicate 2 [i0,i0,i0,i0,i0]) h3 (fun r hr=>by rw[List.eq_of_mem_replicate hr];rfl)
 ·exact Hj (rows:=List.replicate 2 wk0) h4 (fun r hr=>by rw[List.eq_of_mem_replicate hr];rfl)
 ·exact Hj (rows:=List.replicate 2 [i0]) h1 (fun r hr=>by rw[List.eq_of_mem_replicate hr];rfl)
theorem AGg(x:RcP):Idle 0 (Fe 512) (vp0 x) [an0,an0] [AAu,AAu]:=by
 have hr:RowA (Fe 512) rt0 []:=⟨ADR (by decide),AAD,rfl,rfl,rfl,⟨[],.nil⟩,Nat.zero_le _⟩
 refine⟨⟨by decide,by show Hn 0;unfold Hn;decide,rfl,rfl,fun s hs=>?_,AAD,rfl,hr.isC⟩,hr,rfl,rfl,rfl,fun y hy=>?_,fun y hy=>?_,fun i y hy=>?_⟩
 ·simp only[vp0,List.mem_cons,List.not_mem_nil,or_false,or_self] at hs
  rw[hs];unfold Hn;decide
 ·simp only[List.mem_cons,List.not_mem_nil,or_false,or_self] at hy
  rw[hy]
  exact⟨by unfold Hn an0;decide,by unfold OpT.ok I64 an0;decide,fun h=>absurd h (by decide)⟩
 ·simp only[List.mem_cons,List.not_mem_nil,or_false,or_self] at hy
  rw[hy];rfl
 ·match i,hy with
  |0,hy=>simp only[List.getElem?_cons_zero,Option.some.injEq] at hy;rw[←hy];exact⟨by decide,by decide,rfl,an0,rfl,rfl⟩
  |1,hy=>simp only[List.getElem?_cons_succ,List.getElem?_cons_zero,Option.some.injEq] at hy;rw[←hy];exact⟨by decide,by decide,rfl,an0,rfl,rfl⟩
  |i+2,hy=>simp at hy
def SysP(c:Nat)(V:List Int)(rs:List RsT)(fr:Nat)(z:StP)(I:World→Prop):Prop :=
 ∃A p l ws si lg,StI c A p l ws si lg z I∧p.V=V∧lg.map (·.res)=rs∧fr≤A.free.length
theorem AEM(n:Nat):(Fe n).free.length=n:=Kv n n
theorem AHO{z:StP}{x:RcP}{M:Nat→Prop}{w:World}(hF:Ft M (fun u=>StNew 2 512 u z x) w):SysP 0 [] [] 512 z (fun u=>StNew 2 512 u z x):=by
 obtain⟨⟨h1,h2,h3,h4⟩,_⟩:=AFs hF.now
 exact⟨Fe 512,vp0 x,[an0,an0],[AAu,AAu],[0,0],[],⟨AGg x,h1,h2,rfl,h3,Nat.zero_le _,h4,fun u hu=>(AFs hu).2⟩,rfl,rfl,Nat.le_of_eq (AEM 512).symm⟩
theorem AJJ(c:Nat)(V:List Int)(rs:List RsT)(fr:Nat)(z:StP)(I:World→Prop)(hS:SysP c V rs fr z I)(hc:c<1000)(hrl:rs.length≤100)(hV:V.length+2≤fr)(k:Nat)(hk:k<2)(o:OpT)(ho:o.ok)(hok:okP o)(hb:o.box=3)(hkd:o.kind=2∨o.kind=5)(M:Nat→Prop)(w:World)(hF:Ft M I w)(sa:Option Addr)(sc:Nat)(hsa:Sl w sa 5 [(.int .i64 (k:Int)::o.cells)]):
  FC Tryz.prog 19 [.agg z.cells.toArray,.slice sa 1 sc,.int .i64 1,.bool true] w (fun v w'=>Sub w w'∧∃z' I' M',v=.tuple #[.agg (z':StP).cells.toArray,.bool true]∧SysP (c+1) (Gw V o).1 (rs++[rsR (Gw V o).2]) (fr-(V.length+2)) z' I'∧Ft M' I' w'∧Up M w M'):=by
 obtain⟨A,p,l,ws,si,lg,hI,rfl,rfl,hfr⟩:=hS
 obtain⟨x,hx⟩:=Ce (l:=ws) (i:=k) (by rw[hI.1.wl];exact hk)
 have hD:OpOk ⟨c,A,p,l,ws,k,x,o⟩:=⟨hI.1,hc,hk,hx,ho,hok,hb,hkd,by show p.V.length+2≤A.free.length;omega⟩
 rw[Aj] at hrl
 refine FC.mono (AJ7 hD si lg hrl z I M w hI hF sa sc hsa) ?_
 rintro v w' ⟨s,z',I',M',si',rfl,hP,hF',hU⟩
 obtain⟨A',xr,R,ws',e,he,hI',hf⟩:=hP.fin
 exact⟨s,z',I',M',rfl,⟨A',_,_,ws',si',_,hI',rfl,by rw[List.map_append,List.map_cons,List.map_nil,he];rfl,by simp only[] at hf;omega⟩,hF',hU⟩
structure QuS where
 i:Nat
 z:StP
 I:World→Prop
 M:Nat→Prop
def Fw(v:Int):Int:=v.tmod 1000
theorem ACf(v:Int): -1000<Fw v∧Fw v<1000:=by
 unfold Fw
 have h1:=Int.tmod_lt_of_pos v (show(0:Int)<1000 by decide)
 have h2:=Int.lt_tmod_of_pos v (show(0:Int)<1000 by decide)
 omega
def Ry(a:Int):OpT:=⟨3,2,a,0⟩
def Uv:OpT:=⟨3,5,0,0⟩
theorem ADN{a:Int}(h : -1000<a∧a<1000):(Ry a).ok∧okP (Ry a) :=
 ⟨by unfold OpT.ok I64 Ry;simp only[];omega,(by decide:Cl 3 2),by show -1073741824≤a;omega,by show a≤1073741824;omega,by show -1073741824≤(0:Int);decide,by show(0:Int)≤1073741824;decide,.inl (by decide:Cd 3 2),.inr rfl⟩
theorem ADY:Uv.ok∧okP Uv:=⟨by unfold OpT.ok I64 Uv;decide,by decide⟩
theorem AGS{V:List Int}{a:Int}(h:V.length≤100):Gw V (Ry a)=(V++[a],⟨0,0,0⟩):=by
 have h1:¬(Ry a).kind=6:=(by decide:¬(2:Int)=6)
 have h2:(Ry a).kind=2:=rfl
 unfold Gw
 rw[if_neg h1,if_pos (.inl h2),if_neg (by omega),if_pos h2]
 rfl
theorem AGU{V:List Int}(h:V≠[]):Gw V Uv=(V.drop 1,⟨0,V.getD 0 0,0⟩):=by
 have h1:¬V.length=0:=fun e=>h (List.length_eq_zero_iff.1 e)
 unfold Gw
 rw[if_neg (by decide),if_neg (by decide),if_neg (by decide),if_neg h1,if_neg (by decide)]
def r0Q:RsT:=⟨0,0,0⟩
def rQ(a:Int):RsT:=⟨0,a,0⟩
theorem SysP.mono{c:Nat}{V:List Int}{rs:List RsT}{f f':Nat}{z:StP}{I:World→Prop}(h:SysP c V rs f z I)(hf:f'≤f):SysP c V rs f' z I :=
 let ⟨A,p,l,ws,si,lg,h1,h2,h3,h4⟩:=h
 ⟨A,p,l,ws,si,lg,h1,h2,h3,Ad hf h4⟩
theorem AHj{q:List Int}{i f:Nat}{a:Int}{z:StP}{I:World→Prop}(hq:q[i]?=some a)(hl:q.length≤5)(h:SysP (i+1) (Gw (q.take i) (Ry a)).1 (List.replicate i r0Q++[rsR (Gw (q.take i) (Ry a)).2]) f z I)(hf:512-7*(i+1)≤f):SysP (i+1) (q.take (i+1)) (List.replicate (i+1) r0Q) (512-7*(i+1)) z I:=by
 rw[AGS (by rw[List.length_take];omega),Oo hq] at h
 rw[List.replicate_succ']
 exact h.mono hf
theorem AHk{q:List Int}{n j f:Nat}{a:Int}{z:StP}{I:World→Prop}(hq:q[j]?=some a)(h:SysP (n+j+1) (Gw (q.drop j) Uv).1 ((List.replicate n r0Q++(q.take j).map rQ)++[rsR (Gw (q.drop j) Uv).2]) f z I)(hf:512-7*(n+(j+1))≤f):SysP (n+(j+1)) (q.drop (j+1)) (List.replicate n r0Q++(q.take (j+1)).map rQ) (512-7*(n+(j+1))) z I:=by
 have hj:=Cc hq
 have hd:q.drop j=a::q.drop (j+1):=by rw[List.drop_eq_getElem_cons hj,Ex hq hj]
 rw[AGU (by rw[hd];simp)] at h
 rw[←Oo hq,List.map_append,←List.append_assoc]
 rw[hd] at h
 exact h.mono hf
theorem AJu(x:RsT):eqL x.cells x.cells=true:=by simp[eqL,eq1,RsT.cells]
theorem AJm{lg:List EnQ}{q:List Int}{n i:Nat}{e:EnQ}{a:Int}(h:lg.map (·.res)=List.replicate n r0Q++q.map rQ)(he:lg[n+i]?=some e)(hq:q[i]?=some a):e.res=rQ a:=by
 have h1:(lg.map (·.res))[n+i]?=some e.res:=by rw[List.getElem?_map,he];rfl
 rw[h,List.getElem?_append_right (by rw[List.length_replicate];omega),List.length_replicate,Nat.add_sub_cancel_left,List.getElem?_map,hq] at h1
 exact(Option.some.inj h1).symm
set_option maxRecDepth 10000 in
set_option maxHeartbeats 2000000 in
theorem AAn(w:World)(l:List Int)(pa:Option Addr)(pc:Nat)(hlc:l.length≤pc)(hcm:pc≤maxLen)(hs:Sl w pa 1 (l.map fun x=>[i6 x]))(hli:∀x∈l,I64 x):
  FC Tryz.prog 7 [.slice pa l.length pc] w (Val (.bool true) w):=by
 have hll:l.length≤9223372036854775807:=Ad hlc (Ad hcm (by decide))
 obtain⟨n,hn⟩:∃n,n=min l.length 5:=⟨_,rfl⟩
 obtain⟨q,hq⟩:∃q,q=(l.take n).map Fw:=⟨_,rfl⟩
 have hql:q.length=n:=by rw[hq,Aj,List.length_take];omega
 have hn5:n≤5:=by omega
 have hat:∀(i:Nat),i<n→∃v,l[i]?=some v∧q[i]?=some (Fw v):=fun i hi=>by
  obtain⟨v,hv⟩:=Ce (l:=l) (i:=i) (by omega)
  exact⟨v,hv,by rw[hq,List.getElem?_map,List.getElem?_take_of_lt hi,hv];rfl⟩
 refine As Tryz.func7 rfl Tryz.ntmps7 rfl ?_
 have S:=Ax w
 refine Ac<|Aa rfl<|Ah rfl<|Ae<|Ab<|Ac<|Aa rfl<|Af rfl<|Af rfl<|Cm Ni rfl<|Ak (.as (v':=.int .i64 (n:Int)) (.min2 rfl rfl) (by exact congrArg (Value.int .i64) (by omega)))<|Ak (.as (v':=.slice pa n pc) (.sliceHi Ni rfl rfl (by omega)) (by simp))<|Ah rfl<|Ae<|Ab<|Ac ?_;refine Aa rfl<|Az rfl AKl (ADt 2 512 (by decide) (by decide) w) ?_;rintro _ w1 ⟨s2,z0,x0,M0,rfl,up0,hF⟩
 have hSy:=AHO hF
 have S:=S.trans s2
 obtain⟨I0,hI0⟩:∃I,I=(fun u=>StNew 2 512 u z0 x0):=⟨_,rfl⟩
 rw[←hI0] at hF hSy
 refine Af rfl<|Bz rfl rfl<|Bz rfl rfl<|Ay Ka rfl rfl (fun b_3 w_3 e_3 z_3 hb_3 s_3=>?_);have ge_3:=S.le e_3;have d_hF_b_3:=hF.neNew e_3;have S:=S.trans s_3;have hF:=hF.sub s_3;refine At Dw rfl rfl rfl hb_3 (fun w3 z3 hb_3 a3=>?_);have S:=S.upd a3 ge_3;have hF:=hF.updD a3 d_hF_b_3
 have hb_3:Has w3 b_3 (z0.cells) _:=hb_3.now (by kernel_rfl)
 refine Ah rfl<|Ae<|Ab<|Ac<|Ac<|Aa rfl<|Af rfl<|Ak (.not rfl)<|Af rfl<|Az rfl AMj (AIU w3) ?_;rintro _ w4 ⟨rfl,s5⟩;have S:=S.trans s5;have hF:=hF.sub s5;have hb_3:=hb_3.sub s5;refine Ak (.not rfl)<|Bq rfl rfl<|Ae<|Ab<|Bw rfl<|Ao<|Ab<|Ac<|Ac<|Aa rfl<|Af rfl<|Cm Ni rfl<|Af rfl<|Ae<|Ab<|Bh ?_;refine Cw (α:=QuS) (fun x=>[(0,.slice pa n pc),(2,.bool false),(3,.pointer (some ⟨b_3,0,none⟩)),(28,.slice pa n pc),(29,.int .i64 (n:Int)),(30,.int .i64 (x.i:Int))]) (fun x w6=>(x.i≤n∧SysP x.i (q.take x.i) (List.replicate x.i r0Q) (512-7*x.i) x.z x.I)∧Has w6 b_3 x.z.cells 67∧Ft x.M x.I w6∧Sub w w6∧(∀k,x.M k→k≠b_3)) (fun x=>n-x.i) ⟨0,z0,I0,M0⟩ (Bf (by repeat (first|exact trivial|refine And.intro rfl ?_))) (⟨⟨Nat.zero_le _,hSy⟩,hb_3,hF,S,d_hF_b_3⟩) (fun x w6 hJ=>?_)
 obtain⟨i,z,I,M⟩:=x;obtain⟨⟨hi,hSy⟩,hb_3,hF,S,d3⟩:=hJ;simp only[] at hi hSy hb_3 hF d3
 refine Ac<|Aa rfl<|Bc rfl rfl rfl<|Ae<|Ab<|Ac<|An rfl (fun h7=>?_) (fun h7=>?_)
 ·
  have h31:=h7
  simp only[] at h31
  obtain⟨v,hv,hqv⟩:=hat i (by omega)
  have hvb:=ACf v
  refine Ao<|Ab<|Ac<|Bh<|Ac<|Aa rfl<|Ak (.indexS Ni rfl rfl (by show 0≤((i:Nat):Int)∧((i:Nat):Int)<((n:Nat):Int);omega) (hs.is (i:=0) (by simp only[Aj,Al,Am];omega)))<|Ak (.load1 sh2 rfl ((hs.sub S).one (enc:=i6) (i:=i) hv))<|Ah rfl<|Ae<|Ab<|Ac<|Aa rfl<|Ak (.loadR (z.cells) Dw rfl hb_3.row rfl)<|Af rfl<|Ak (.as (v':=.int .i64 (Fw v)) (.rem rfl rfl (by decide)) (by rfl)) ?_;refine Ak (.buildS (vs:=[(0,.int .i64 3),(1,.int .i64 2),(2,.int .i64 (Fw v))]) (cs:=((Ry (Fw v)).cells).toArray) AKW AKa rfl (by kernel_rfl))<|Ak (.buildS (vs:=[(0,.int .i64 0),(1,.agg (Ry (Fw v)).cells.toArray)]) (cs:=(.int .i64 0::(Ry (Fw v)).cells).toArray) AE6 AKZ rfl (by kernel_rfl))<|Bi AHT _ AE6 rfl rfl rfl rfl rfl rfl rfl (fun b_40 w_40 e_40 z_40 hb_40 s_40=>?_);have S:=S.trans s_40;have hb_3:=hb_3.sub s_40;have hF:=hF.sub s_40;refine Az rfl AKk (AJJ i (q.take i) (List.replicate i r0Q) (512-7*i) z I hSy (by omega) (by rw[List.length_replicate];omega) (by rw[List.length_take];omega) 0 (by decide) (Ry (Fw v)) (ADN hvb).1 (ADN hvb).2 rfl (.inl rfl) M w_40 hF (some ⟨b_40,0,none⟩) 1 (Dr (cs:=.int .i64 0::(Ry (Fw v)).cells) hb_40)) ?_;rintro _ w8 ⟨s9,z2,I2,M2,rfl,hSy2,hF2,up2⟩;have d_hF2_b_3:=Di up2 d3 hb_3.lt;have S:=S.trans s9;have hb_3:=hb_3.sub s9;have hF:=hF.sub s9;refine Af rfl<|Bz rfl rfl<|Bz rfl rfl<|Ay Ka rfl rfl (fun b_7 w_7 e_7 z_7 hb_7 s_7=>?_);have ge_7:=S.le e_7;have n_3__7:=hb_3.ne e_7;have d_hF2_b_7:=hF2.neNew e_7;have S:=S.trans s_7;have hb_3:=hb_3.sub s_7;have hF2:=hF2.sub s_7;refine At Dw rfl rfl rfl hb_7 (fun w10 z10 hb_7 a10=>?_);have S:=S.upd a10 ge_7;have hb_3:=hb_3.upd a10 n_3__7;have hF2:=hF2.updD a10 d_hF2_b_7
  have hb_7:Has w10 b_7 (z2.cells) _:=hb_7.now (by kernel_rfl)
  refine Ah rfl<|Ae<|Ab<|Ac<|Ac<|Aa rfl<|Af rfl<|Ak (.not rfl)<|Ae<|Ab<|Bw rfl<|Ao<|Ab<|Aa rfl<|Ak (.loadR (z2.cells) Dw rfl hb_7.row rfl)<|At Dw rfl rfl rfl hb_3 (fun w11 z11 hb_3 a11=>?_);have S:=S.upd a11 ge_3;have hF2:=hF2.updD a11 d_hF2_b_3
  have hb_3:Has w11 b_3 (z2.cells) _:=hb_3.now (by kernel_rfl)
  refine Ae<|Ab<|Aa rfl<|Ak (.as (.bin rfl rfl rfl) (Cs (y:=((i+1:Nat):Int)) (by show((i:Nat):Int)+1=_;omega) (by omega)))<|Af rfl ?_
  exact Ae (fun a ka=>⟨⟨i+1,z2,I2,M2⟩,⟨⟨by simp only[];omega,AHj hqv (by omega) hSy2 (by rw[List.length_take];omega)⟩,hb_3,hF2,S,d_hF2_b_3⟩,by simp only[];omega,ka.keep (Bf (by repeat (first|exact trivial|refine And.intro rfl ?_)))⟩)
 ·
  have h31:=h7
  simp only[] at h31
  obtain rfl:n=i:=(by omega)
  rw[List.take_of_length_le (by omega)] at hSy
  refine Co rfl<|Ab<|Ac<|Ac<|Aa rfl<|Af rfl<|Cm Ni rfl<|Af rfl<|Ae<|Ab<|Bh<|Cw (α:=QuS) (fun x=>[(0,.slice pa n pc),(2,.bool false),(3,.pointer (some ⟨b_3,0,none⟩)),(48,.slice pa n pc),(49,.int .i64 (n:Int)),(50,.int .i64 (x.i:Int))]) (fun x w12=>(x.i≤n∧SysP (n+x.i) (q.drop x.i) (List.replicate n r0Q++(q.take x.i).map rQ) (512-7*(n+x.i)) x.z x.I)∧Has w12 b_3 x.z.cells 67∧Ft x.M x.I w12∧Sub w w12∧(∀k,x.M k→k≠b_3)) (fun x=>n-x.i) ⟨0,z,I,M⟩ (Bf (by repeat (first|exact trivial|refine And.intro rfl ?_))) (⟨⟨Nat.zero_le _,by simpa using hSy⟩,hb_3,hF,S,d3⟩) (fun x w12 hJ=>?_)
  obtain⟨j,z,I,M⟩:=x;obtain⟨⟨hj,hSy⟩,hb_3,hF,S,d3⟩:=hJ;simp only[] at hj hSy hb_3 hF d3
  refine Ac<|Aa rfl<|Bc rfl rfl rfl<|Ae<|Ab<|Ac<|An rfl (fun h13=>?_) (fun h13=>?_)
  ·
   have h51:=h13
   simp only[] at h51
   obtain⟨v,hv,hqv⟩:=hat j (by omega)
   refine Ao<|Ab<|Ac<|Bh<|Ac<|Aa rfl<|Ak (.loadR (z.cells) Dw rfl hb_3.row rfl)<|Ak (.buildS (vs:=[(0,.int .i64 3),(1,.int .i64 5)]) (cs:=(Uv.cells).toArray) AKW AKa rfl (by kernel_rfl))<|Ak (.buildS (vs:=[(0,.int .i64 1),(1,.agg Uv.cells.toArray)]) (cs:=(.int .i64 1::Uv.cells).toArray) AE6 AKZ rfl (by kernel_rfl))<|Bi AHT _ AE6 rfl rfl rfl rfl rfl rfl rfl (fun b_56 w_56 e_56 z_56 hb_56 s_56=>?_);have S:=S.trans s_56;have hb_3:=hb_3.sub s_56;have hF:=hF.sub s_56;refine Az rfl AKk (AJJ (n+j) (q.drop j) _ (512-7*(n+j)) z I hSy (by omega) (by rw[Ag,List.length_replicate,Aj,List.length_take];omega) (by rw[List.length_drop];omega) 1 (by decide) Uv ADY.1 ADY.2 rfl (.inr rfl) M w_56 hF (some ⟨b_56,0,none⟩) 1 (Dr (cs:=.int .i64 1::Uv.cells) hb_56)) ?_;rintro _ w14 ⟨s15,z2,I2,M2,rfl,hSy2,hF2,up2⟩;have d_hF2_b_3:=Di up2 d3 hb_3.lt;have S:=S.trans s15;have hb_3:=hb_3.sub s15;have hF:=hF.sub s15;refine Af rfl<|Bz rfl rfl<|Bz rfl rfl<|Ay Ka rfl rfl (fun b_9 w_9 e_9 z_9 hb_9 s_9=>?_);have ge_9:=S.le e_9;have n_3__9:=hb_3.ne e_9;have d_hF2_b_9:=hF2.neNew e_9;have S:=S.trans s_9;have hb_3:=hb_3.sub s_9;have hF2:=hF2.sub s_9;refine At Dw rfl rfl rfl hb_9 (fun w16 z16 hb_9 a16=>?_);have S:=S.upd a16 ge_9;have hb_3:=hb_3.upd a16 n_3__9;have hF2:=hF2.updD a16 d_hF2_b_9
   have hb_9:Has w16 b_9 (z2.cells) _:=hb_9.now (by kernel_rfl)
   refine Ah rfl<|Ae<|Ab<|Ac<|Ac<|Aa rfl<|Af rfl<|Ak (.not rfl)<|Ae<|Ab<|Bw rfl<|Ao<|Ab<|Aa rfl<|Ak (.loadR (z2.cells) Dw rfl hb_9.row rfl)<|At Dw rfl rfl rfl hb_3 (fun w17 z17 hb_3 a17=>?_);have S:=S.upd a17 ge_3;have hF2:=hF2.updD a17 d_hF2_b_3
   have hb_3:Has w17 b_3 (z2.cells) _:=hb_3.now (by kernel_rfl)
   refine Ae<|Ab<|Aa rfl<|Ak (.as (.bin rfl rfl rfl) (Cs (y:=((j+1:Nat):Int)) (by show((j:Nat):Int)+1=_;omega) (by omega)))<|Af rfl ?_
   exact Ae (fun a ka=>⟨⟨j+1,z2,I2,M2⟩,⟨⟨by simp only[];omega,AHk hqv hSy2 (by rw[List.length_drop];omega)⟩,hb_3,hF2,S,d_hF2_b_3⟩,by simp only[];omega,ka.keep (Bf (by repeat (first|exact trivial|refine And.intro rfl ?_)))⟩)
  ·
   have h51:=h13
   simp only[] at h51
   obtain rfl:n=j:=(by omega)
   rw[List.take_of_length_le (by omega)] at hSy
   obtain⟨A9,p9,l9,ws9,si9,lg,hI9,_,hrs,_⟩:=hSy
   have hln:=hI9.2.2.2.2.1
   have hlgl:lg.length=n+n:=(by have:=congrArg List.length hrs;rw[Aj,Ag,List.length_replicate,Aj] at this;omega)
   have hlg:=hF.imp fun u hu=>(hI9.2.2.2.2.2.2.2 u hu).2.2
   refine Co rfl<|Ab<|Ac<|Ac<|Aa rfl<|Av Vk rfl<|Ba AE8 rfl hb_3 rfl<|Cm Zx rfl<|Af rfl<|Cm Ni rfl<|Ak (.as (.bin rfl rfl rfl) (Cs (y:=((n+n:Nat):Int)) (by omega) (by omega)))<|Ak (.as (v':=.bool false) (.bin rfl rfl rfl) (Bt (fun h=>h (by rw[hln,hlgl]))))<|Ae<|Ab<|Bw rfl<|Ao (Ab ?_);refine Ac<|Ac<|Aa rfl<|Af rfl<|Cm Ni rfl<|Af rfl<|Ae<|Ab<|Bh<|Cw (α:=Nat) (fun i=>[(0,.slice pa n pc),(2,.bool false),(3,.pointer (some ⟨b_3,0,none⟩)),(71,.slice pa n pc),(72,.int .i64 (n:Int)),(73,.int .i64 (i:Int))]) (fun i w18=>i≤n∧Has w18 b_3 z.cells 67∧Ft M (fun u=>Sl u z.la 10 (lg.map EnQ.cells)) w18∧Sub w w18∧(∀k,M k→k≠b_3)) (fun i=>n-i) 0 (Bf (by repeat (first|exact trivial|refine And.intro rfl ?_))) (⟨Nat.zero_le _,hb_3,hlg,S,d3⟩) (fun i w18 hJ=>?_)
   obtain⟨hi,hb_3,hlg,S,d3⟩:=hJ
   refine Ac<|Aa rfl<|Bc rfl rfl rfl<|Ae<|Ab<|Ac<|An rfl (fun h19=>?_) (fun h19=>?_)
   ·
    have h74:=h19
    obtain⟨v,hv,hqv⟩:=hat i (by omega)
    obtain⟨en,hen⟩:=Ce (l:=lg) (i:=n+i) (by omega)
    have her:=AJm hrs hen hqv
    refine Ao<|Ab<|Ac<|Bh<|Ac<|Aa rfl<|Af rfl<|Ak (.indexS Ni rfl rfl (by omega) (hs.is (i:=0) (by simp only[Aj,Al,Am];omega)))<|Ak (.load1 sh2 rfl ((hs.sub S).one (enc:=i6) (i:=i) hv))<|Ah rfl<|Ah rfl<|Ae<|Ab<|Ac<|Aa rfl<|Av Vk rfl ?_;refine Ba AE8 rfl hb_3 rfl<|Af rfl<|Cm Ni rfl<|Af rfl<|Ak (.as (.bin rfl rfl rfl) (Cs (y:=((n+i:Nat):Int)) (by omega) (by omega)))<|Ak (.indexS Zx rfl rfl (by omega) (hlg.now.is (i:=0) (by simp only[Aj,Al,Am];omega)))<|Ak (.fieldA AJr rfl)<|Ak (.loadR (_) Hq rfl (AAX (pre:=en.cells.take 5) (mid:=en.res.cells) (post:=en.cells.drop 8) (hlg.now.rowAt (enc:=EnQ.cells) (i:=n+i) hen) rfl) rfl)<|Af rfl<|Ak (.as (v':=.int .i64 (Fw v)) (.rem rfl rfl (by decide)) (by rfl))<|Ak (.buildS (vs:=[(1,.int .i64 (Fw v))]) (cs:=((rQ (Fw v)).cells).toArray) Nh AHV rfl (by kernel_rfl))<|Ak (.as (v':=.bool false) (.neS (xs:=en.res.cells) (ys:=(rQ (Fw v)).cells) AMr AMu Hq rfl rfl rfl rfl rfl) (congrArg Value.bool (by rw[her,AJu];rfl)))<|Ae<|Ab<|Bw rfl<|Ao (Ab ?_);refine Aa rfl<|Ak (.as (.bin rfl rfl rfl) (Cs (y:=((i+1:Nat):Int)) (by show((i:Nat):Int)+1=_;omega) (by omega)))<|Af rfl ?_
    exact Ae (fun a ka=>⟨i+1,⟨by omega,hb_3,hlg,S,d3⟩,by omega,ka.keep (Bf (by repeat (first|exact trivial|refine And.intro rfl ?_)))⟩)
   ·
    refine Co rfl<|Ab<|Ac<|Aa rfl<|Ah rfl<|Ae<|Ab<|Bb 2 rfl rfl rfl ?_
    exact⟨rfl,S⟩
end Go.Proofs.YtbjmllnddanniaaGreat
