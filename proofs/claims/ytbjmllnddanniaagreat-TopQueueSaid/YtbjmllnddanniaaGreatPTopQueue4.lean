/-
  What the law TopQueue leans on, part 4.
-/
import Derived.Test.YtbjmllnddanniaaGreatPTopQueue3
set_option linter.unusedVariables false
set_option linter.unusedSimpArgs false
namespace Go.Proofs.YtbjmllnddanniaaGreat
open Go Go.XL
def AJN(n m:Nat)(u:World)(y:WdP)(x:RcP):Prop:=ArR u y.na y.fa (Fe m)∧y.nn=(Fe m).nodes.length∧y.nn≤y.nc∧y.fn=(Fe m).free.length∧y.fn≤y.fc∧AJP n u y.tb x ∧
 ∃b1 b2,y.aa=some ⟨b1,0,none⟩∧y.an=n∧y.ac=n∧y.wa=some ⟨b2,0,none⟩∧y.wn=n∧y.wc=n∧Has u b1 (List.replicate n [i0,i0,i0,i0,i0]).flatten 297∧Has u b2 (List.replicate n wk0).flatten 90
set_option maxHeartbeats 400000 in
theorem AJz(n m:Nat)(hn:1≤n∧n≤8)(hm:1≤m∧m≤512)(w:World):
  FC Tryz.prog 116 [.int .i64 (n:Int),.int .i64 (m:Int)] w (fun v w'=>Sub w w'∧∃y x M,v=.tuple #[.agg y.cells.toArray,.int .i64 0]∧UpN w M∧Ft M (fun u=>AJN n m u y x) w'):=by
 refine As Tryz.func116 rfl Tryz.ntmps116 rfl ?_
 have S:=Ax w
 refine Ac<|Aa rfl<|Ay Tz rfl rfl (fun T aa ac ai a ab=>?_);have P:=S.le ac;have S:=S.trans ab;refine Ah rfl<|Ae<|Ab<|Ac<|Aa rfl<|Af rfl<|Az rfl ALm (AJ3 n hn aa) ?_;rintro _ w1 ⟨s2,t,x,M,rfl,up,h1⟩;have r:=Di up (fun _ (h:False)=>h.elim) a.lt
 have up:=up.low S.size
 have S:=S.trans s2;have a:=a.sub s2;refine Af rfl<|Bz rfl rfl<|Bz rfl rfl<|Ay Kb rfl rfl (fun ae ak Z ah d W=>?_);have Y:=S.le Z;have B:=a.ne Z;have G:=h1.neNew Z;have S:=S.trans W;have a:=a.sub W;have h1:=h1.sub W;refine At Ef rfl rfl rfl d (fun w3 z3 d a3=>?_);have S:=S.upd a3 Y;have a:=a.upd a3 B;have h1:=h1.updD a3 G
 have d:Has w3 ae (t.cells) _:=d.now (by kernel_rfl)
 refine Ah rfl<|Ae<|Ab<|Ac<|Ac<|Aa rfl<|Af rfl<|Bc rfl rfl rfl<|Ae<|Ab<|An rfl (fun h4=>?_) (fun h4=>?_)
 ·
  exact absurd rfl h4
 ·
  refine Ao<|Ab<|Ac<|Aa rfl<|Af rfl<|Az rfl AMm (AKO m hm w3) ?_;rintro _ w5 ⟨na,fa,nc,fc,rfl,hnc,hfc,hi,s6⟩
  have up2:=ADx s6
  have h2:=AGH hi s6
  have q:=Di up2 (fun _ (h:False)=>h.elim) a.lt
  have up2:=up2.low S.size
  have S:=S.trans s6;have a:=a.sub s6;have h1:=h1.sub s6;have d:=d.sub s6;refine Af rfl<|Bz rfl rfl<|Bz rfl rfl<|Ay Fy rfl rfl (fun ad aj R ag p Q=>?_);have X:=S.le R;have A:=a.ne R;have O:=d.ne R;have F:=h1.neNew R;have E:=h2.neNew R;have S:=S.trans Q;have a:=a.sub Q;have h1:=h1.sub Q;have d:=d.sub Q;have h2:=h2.sub Q;refine At Cb rfl rfl rfl p (fun w7 z7 p a7=>?_);have S:=S.upd a7 X;have a:=a.upd a7 A;have h1:=h1.updD a7 F;have d:=d.upd a7 O;have h2:=h2.updD a7 E
  have p:Has w7 ad ([.slice na (Fe m).nodes.length nc,.slice fa (Fe m).free.length fc]) _:=p.now (by kernel_rfl)
  refine Ah rfl<|Ae<|Ab<|Ac<|Ac<|Aa rfl<|Af rfl<|Bc rfl rfl rfl<|Ae<|Ab<|An rfl (fun h8=>?_) (fun h8=>?_)
  ·
   exact absurd rfl h8
  ·
   refine Ao<|Ab<|Ac<|Bs (fun k=>k=T) [7] w7.heap.size 9 rfl rfl mxo (fun w9 s10=>?_)
   have hNN:∀k,((k=T)∨w7.heap.size≤k)→w.heap.size≤k:=fun k e=>e.elim (fun e=>e▸P) (fun e=>Ad S.size e)
   have hN0:∀k,w7.heap.size≤k→w.heap.size≤k:=fun k e=>Ad S.size e
   have I:=d.lt;have H:=p.lt;have szD:=Nat.le_refl w7.heap.size;have S:=S.trans s10;have a:=a.sub s10;have h1:=h1.sub s10;have d:=d.sub s10;have h2:=h2.sub s10;have p:=p.sub s10;have szD:=Ad szD s10.size;refine Bg 0 rfl (fun w' s'=>.loadR ([.slice na (Fe m).nodes.length nc,.slice fa (Fe m).free.length fc]) Cb rfl (p.step s' (nE A.symm H)).row rfl)<|Bg 1 rfl (fun w' s'=>.loadR (t.cells) Ef rfl (d.step s' (nE B.symm I)).row rfl)<|Bp 2 rfl rfl<|Bp 4 rfl rfl<|Ej [3,5] (by kernel_rfl) rfl (Ca rfl ?_ (Ca rfl ?_ (Do)))
   ·
    refine Dh Iv Tk rfl rfl rfl rfl (by omega) rfl rfl (fun g N z V c j=>?_)
    have K:w7.heap.size≤g:=by rw[z];exact szD
    have D:=S.le z;have o:=a.ne z;have S:=S.trans j;have a:=a.sub j;have h1:=h1.sub j;have h2:=h2.sub j;have szD:=Ad szD j.size
    have c:Has N g (List.replicate n [i0,i0,i0,i0,i0]).flatten 297:=(by have:=c;rw[Int.toNat_natCast] at this;exact this)
    refine Be j.agr<|Aq 5 rfl<|Dh Nb AJS rfl rfl rfl rfl (by omega) rfl rfl (fun f L s U b i=>?_)
    have J:w7.heap.size≤f:=by rw[s];exact szD
    have C:=S.le s;have l:=a.ne s;have S:=S.trans i;have a:=a.sub i;have h1:=h1.sub i;have h2:=h2.sub i;have szD:=Ad szD i.size;have c:=c.sub i
    have b:Has L f (List.replicate n wk0).flatten 90:=(by have:=b;rw[Int.toNat_natCast] at this;exact this)
    refine Be i.agr<|Bg 6 rfl (fun _ _=>.buildS (vs:=[(0,.agg #[.slice na (Fe m).nodes.length nc,.slice fa (Fe m).free.length fc]),(1,.agg t.cells.toArray),(2,.slice (some ⟨g,0,none⟩) n n),(3,.slice (some ⟨f,0,none⟩) n n)]) (cs:=((⟨na,(Fe m).nodes.length,nc,fa,(Fe m).free.length,fc,t,some ⟨g,0,none⟩,n,n,some ⟨f,0,none⟩,n,n⟩:WdP).cells).toArray) Tz AJV rfl (by kernel_rfl))<|Aq 7 rfl<|At Hw rfl rfl rfl a (fun w11 z11 a a11=>?_);have S:=S.upd a11 P;have h1:=h1.updD a11 r;have h2:=h2.updD a11 q;have szD:=Ad szD a11.size;have c:=c.upd a11 o.symm;have b:=b.upd a11 l.symm
    have a:Has w11 T ((⟨na,(Fe m).nodes.length,nc,fa,(Fe m).free.length,fc,t,some ⟨g,0,none⟩,n,n,some ⟨f,0,none⟩,n,n⟩:WdP).cells) _:=a.now (by kernel_rfl)
    refine Cq rfl a11 (rfl)<|Cu 8 rfl rfl<|Cp<|Ab<|Bo (rs:=[.cell 4 63,.tmp 5]) (vs:=[_,_]) rfl rfl ⟨⟨_,rfl,.inr ⟨(⟨na,(Fe m).nodes.length,nc,fa,(Fe m).free.length,fc,t,some ⟨g,0,none⟩,n,n,some ⟨f,0,none⟩,n,n⟩:WdP).cells,Hw,a.row,rfl⟩⟩,rfl,trivial⟩ ?_
    exact⟨S,_,x,_,rfl,(By D).or ((By C).or (up.or up2)),(c.ft.and (b.ft.and (h1.and h2))).imp fun u h=>⟨h.2.2.2,rfl,hnc,rfl,hfc,h.2.2.1,g,f,rfl,rfl,rfl,rfl,rfl,rfl,h.1,h.2.1⟩⟩
   ·
    refine Dh Nb AJS rfl rfl rfl rfl (by omega) rfl rfl (fun f L s U b i=>?_)
    have J:w7.heap.size≤f:=by rw[s];exact szD
    have C:=S.le s;have l:=a.ne s;have S:=S.trans i;have a:=a.sub i;have h1:=h1.sub i;have h2:=h2.sub i;have szD:=Ad szD i.size
    have b:Has L f (List.replicate n wk0).flatten 90:=(by have:=b;rw[Int.toNat_natCast] at this;exact this)
    refine Be i.agr<|Aq 3 rfl<|Dh Iv Tk rfl rfl rfl rfl (by omega) rfl rfl (fun g N z V c j=>?_)
    have K:w7.heap.size≤g:=by rw[z];exact szD
    have D:=S.le z;have o:=a.ne z;have S:=S.trans j;have a:=a.sub j;have h1:=h1.sub j;have h2:=h2.sub j;have b:=b.sub j
    have c:Has N g (List.replicate n [i0,i0,i0,i0,i0]).flatten 297:=(by have:=c;rw[Int.toNat_natCast] at this;exact this)
    refine Be j.agr<|Bg 6 rfl (fun _ _=>.buildS (vs:=[(0,.agg #[.slice na (Fe m).nodes.length nc,.slice fa (Fe m).free.length fc]),(1,.agg t.cells.toArray),(2,.slice (some ⟨g,0,none⟩) n n),(3,.slice (some ⟨f,0,none⟩) n n)]) (cs:=((⟨na,(Fe m).nodes.length,nc,fa,(Fe m).free.length,fc,t,some ⟨g,0,none⟩,n,n,some ⟨f,0,none⟩,n,n⟩:WdP).cells).toArray) Tz AJV rfl (by kernel_rfl))<|Aq 7 rfl<|At Hw rfl rfl rfl a (fun w12 z12 a a12=>?_);have S:=S.upd a12 P;have h1:=h1.updD a12 r;have h2:=h2.updD a12 q;have b:=b.upd a12 l.symm;have c:=c.upd a12 o.symm
    have a:Has w12 T ((⟨na,(Fe m).nodes.length,nc,fa,(Fe m).free.length,fc,t,some ⟨g,0,none⟩,n,n,some ⟨f,0,none⟩,n,n⟩:WdP).cells) _:=a.now (by kernel_rfl)
    refine Cq rfl a12 (rfl)<|Cu 8 rfl rfl<|Cp<|Ab<|Bo (rs:=[.cell 4 63,.tmp 5]) (vs:=[_,_]) rfl rfl ⟨⟨_,rfl,.inr ⟨(⟨na,(Fe m).nodes.length,nc,fa,(Fe m).free.length,fc,t,some ⟨g,0,none⟩,n,n,some ⟨f,0,none⟩,n,n⟩:WdP).cells,Hw,a.row,rfl⟩⟩,rfl,trivial⟩ ?_
    exact⟨S,_,x,_,rfl,(By D).or ((By C).or (up.or up2)),(c.ft.and (b.ft.and (h1.and h2))).imp fun u h=>⟨h.2.2.2,rfl,hnc,rfl,hfc,h.2.2.1,g,f,rfl,rfl,rfl,rfl,rfl,rfl,h.1,h.2.1⟩⟩
def StNew(n m:Nat)(u:World)(z:StP)(x:RcP):Prop:=AJN n m u z.wd x∧z.time=0∧z.la=none∧z.ln=0∧z.lc=0 ∧
 ∃b1 b2,z.ia=some ⟨b1,0,none⟩∧z.inn=n∧z.ic=n∧z.ca=some ⟨b2,0,none⟩∧z.cn=8∧z.cc=8∧Has u b1 (List.replicate n [i0]).flatten 3∧Has u b2 (List.replicate 8 ([.int .u64 0,i0,i0,.bool true]:List Value)).flatten 97
set_option maxHeartbeats 400000 in
theorem AJ4(n m:Nat)(hn:1≤n∧n≤8)(hm:1≤m∧m≤512)(w:World):
  FC Tryz.prog 56 [.int .i64 (n:Int),.int .i64 (m:Int)] w (fun v w'=>Sub w w'∧∃z x M,v=.tuple #[.agg z.cells.toArray,.int .i64 0]∧UpN w M∧Ft M (fun u=>StNew n m u z x) w'):=by
 refine As Tryz.func56 rfl Tryz.ntmps56 rfl ?_
 have S:=Ax w
 refine Ac<|Aa rfl<|Ay Ka rfl rfl (fun G O Q U a P=>?_);have E:=S.le Q;have S:=S.trans P;refine Ah rfl<|Ae<|Ab<|Ac<|Aa rfl<|Af rfl<|Af rfl<|Az rfl ALz (AJz n m hn hm O) ?_;rintro _ w1 ⟨s2,y,x,M,rfl,up,h1⟩;have l:=Di up (fun _ (h:False)=>h.elim) a.lt
 have up:=up.low S.size
 have S:=S.trans s2;have a:=a.sub s2;refine Af rfl<|Bz rfl rfl<|Bz rfl rfl<|Ay Tz rfl rfl (fun R V N T p K=>?_);have L:=S.le N;have A:=a.ne N;have C:=h1.neNew N;have S:=S.trans K;have a:=a.sub K;have h1:=h1.sub K;refine At Hw rfl rfl rfl p (fun w3 z3 p a3=>?_);have S:=S.upd a3 L;have a:=a.upd a3 A;have h1:=h1.updD a3 C
 have p:Has w3 R (y.cells) _:=p.now (by kernel_rfl)
 refine Ah rfl<|Ae<|Ab<|Ac<|Ac<|Aa rfl<|Af rfl<|Bc rfl rfl rfl<|Ae<|Ab<|An rfl (fun h4=>?_) (fun h4=>?_)
 ·
  exact absurd rfl h4
 ·
  refine Ao<|Ab<|Ac<|Bs (fun k=>k=G) [7] w3.heap.size 9 rfl rfl mxo (fun w5 s6=>?_)
  have hNN:∀k,((k=G)∨w3.heap.size≤k)→w.heap.size≤k:=fun k e=>e.elim (fun e=>e▸E) (fun e=>Ad S.size e)
  have hN0:∀k,w3.heap.size≤k→w.heap.size≤k:=fun k e=>Ad S.size e
  have D:=p.lt;have szD:=Nat.le_refl w3.heap.size;have S:=S.trans s6;have a:=a.sub s6;have h1:=h1.sub s6;have p:=p.sub s6;have szD:=Ad szD s6.size;refine Bg 0 rfl (fun w' s'=>.loadR (y.cells) Hw rfl (p.step s' (nE A.symm D)).row rfl)<|Bp 1 rfl rfl<|Bg 3 rfl (fun _ _=>.buildS AHS AMP rfl rfl)<|Ej [2,4] (by kernel_rfl) rfl (Ca rfl ?_ (Ca rfl ?_ (Do)))
  ·
   refine Dh Dd ze3 rfl rfl rfl rfl (by omega) rfl rfl (fun c s j I b f=>?_)
   have r:w3.heap.size≤c:=by rw[j];exact szD
   have q:=S.le j;have g:=a.ne j;have S:=S.trans f;have a:=a.sub f;have h1:=h1.sub f;have szD:=Ad szD f.size
   have b:Has s c (List.replicate n [i0]).flatten 3:=(by have:=b;rw[Int.toNat_natCast] at this;exact this)
   refine Be f.agr<|Aq 4 rfl<|Bi Xl _ AHS rfl rfl rfl rfl rfl rfl rfl (fun t H B J d i=>?_)
   have F:w3.heap.size≤t:=by rw[B];exact szD
   have o:=a.ne B;have S:=S.trans i;have a:=a.sub i;have h1:=h1.sub i;have szD:=Ad szD i.size;have b:=b.sub i;refine Be i.agr<|Aq 5 rfl<|Az rfl AFd (ACP 8 (by omega) t H d) ?_;rintro _ w7 ⟨s8,b3,rfl,ge3,h3⟩
   have n3_4:b3≠G:=(by have:=a.lt;omega)
   have ge3:=Ad S.size ge3
   have S:=S.trans s8;have a:=a.sub s8;have h1:=h1.sub s8;have szD:=Ad szD s8.size;have b:=b.sub s8;have d:=d.sub s8;refine Be s8.agr<|Bg 6 rfl (fun _ _=>.buildS (vs:=[(0,.agg y.cells.toArray),(2,.slice (some ⟨c,0,none⟩) n n),(4,.slice (some ⟨b3,0,none⟩) 8 8)]) (cs:=((⟨y,0,some ⟨c,0,none⟩,n,n,none,0,0,some ⟨b3,0,none⟩,8,8⟩:StP).cells).toArray) Ka AHU rfl (by kernel_rfl))<|Aq 7 rfl<|At Dw rfl rfl rfl a (fun w9 z9 a a9=>?_);have S:=S.upd a9 E;have h1:=h1.updD a9 l;have szD:=Ad szD a9.size;have b:=b.upd a9 g.symm;have d:=d.upd a9 o.symm;have h3:=h3.upd a9 n3_4
   have a:Has w9 G ((⟨y,0,some ⟨c,0,none⟩,n,n,none,0,0,some ⟨b3,0,none⟩,8,8⟩:StP).cells) _:=a.now (by kernel_rfl)
   refine Cq rfl a9 (rfl)<|Cu 8 rfl rfl<|Cp<|Ab<|Bo (rs:=[.cell 4 67,.tmp 5]) (vs:=[_,_]) rfl rfl ⟨⟨_,rfl,.inr ⟨(⟨y,0,some ⟨c,0,none⟩,n,n,none,0,0,some ⟨b3,0,none⟩,8,8⟩:StP).cells,Dw,a.row,rfl⟩⟩,rfl,trivial⟩ ?_
   exact⟨S,_,x,_,rfl,(By q).or ((By ge3).or up),(b.ft.and (h3.ft.and h1)).imp fun u h=>⟨h.2.2,rfl,rfl,rfl,rfl,c,b3,rfl,rfl,rfl,rfl,rfl,rfl,h.1,h.2.1⟩⟩
  ·
   refine Bi Xl _ AHS rfl rfl rfl rfl rfl rfl rfl (fun t H B J d i=>?_)
   have F:w3.heap.size≤t:=by rw[B];exact szD
   have o:=a.ne B;have S:=S.trans i;have a:=a.sub i;have h1:=h1.sub i;have szD:=Ad szD i.size;refine Be i.agr<|Ej [2,5] (by kernel_rfl) rfl (Ca rfl ?_ (Ca rfl ?_ (Do)))
   ·
    refine Dh Dd ze3 rfl rfl rfl rfl (by omega) rfl rfl (fun c s j I b f=>?_)
    have r:w3.heap.size≤c:=by rw[j];exact szD
    have q:=S.le j;have g:=a.ne j;have S:=S.trans f;have a:=a.sub f;have h1:=h1.sub f;have szD:=Ad szD f.size;have d:=d.sub f
    have b:Has s c (List.replicate n [i0]).flatten 3:=(by have:=b;rw[Int.toNat_natCast] at this;exact this)
    refine Be f.agr<|Aq 5 rfl<|Az rfl AFd (ACP 8 (by omega) t s d) ?_;rintro _ w10 ⟨s11,b3,rfl,ge3,h3⟩
    have n3_4:b3≠G:=(by have:=a.lt;omega)
    have ge3:=Ad S.size ge3
    have S:=S.trans s11;have a:=a.sub s11;have h1:=h1.sub s11;have szD:=Ad szD s11.size;have d:=d.sub s11;have b:=b.sub s11;refine Be s11.agr<|Bg 6 rfl (fun _ _=>.buildS (vs:=[(0,.agg y.cells.toArray),(2,.slice (some ⟨c,0,none⟩) n n),(4,.slice (some ⟨b3,0,none⟩) 8 8)]) (cs:=((⟨y,0,some ⟨c,0,none⟩,n,n,none,0,0,some ⟨b3,0,none⟩,8,8⟩:StP).cells).toArray) Ka AHU rfl (by kernel_rfl))<|Aq 7 rfl<|At Dw rfl rfl rfl a (fun w12 z12 a a12=>?_);have S:=S.upd a12 E;have h1:=h1.updD a12 l;have szD:=Ad szD a12.size;have d:=d.upd a12 o.symm;have b:=b.upd a12 g.symm;have h3:=h3.upd a12 n3_4
    have a:Has w12 G ((⟨y,0,some ⟨c,0,none⟩,n,n,none,0,0,some ⟨b3,0,none⟩,8,8⟩:StP).cells) _:=a.now (by kernel_rfl)
    refine Cq rfl a12 (rfl)<|Cu 8 rfl rfl<|Cp<|Ab<|Bo (rs:=[.cell 4 67,.tmp 5]) (vs:=[_,_]) rfl rfl ⟨⟨_,rfl,.inr ⟨(⟨y,0,some ⟨c,0,none⟩,n,n,none,0,0,some ⟨b3,0,none⟩,8,8⟩:StP).cells,Dw,a.row,rfl⟩⟩,rfl,trivial⟩ ?_
    exact⟨S,_,x,_,rfl,(By q).or ((By ge3).or up),(b.ft.and (h3.ft.and h1)).imp fun u h=>⟨h.2.2,rfl,rfl,rfl,rfl,c,b3,rfl,rfl,rfl,rfl,rfl,rfl,h.1,h.2.1⟩⟩
   ·
    refine Az rfl AFd (ACP 8 (by omega) t H d) ?_;rintro _ w13 ⟨s14,b3,rfl,ge3,h3⟩
    have n3_4:b3≠G:=(by have:=a.lt;omega)
    have ge3:=Ad S.size ge3
    have S:=S.trans s14;have a:=a.sub s14;have h1:=h1.sub s14;have szD:=Ad szD s14.size;refine Be s14.agr<|Aq 2 rfl<|Dh Dd ze3 rfl rfl rfl rfl (by omega) rfl rfl (fun c s j I b f=>?_)
    have r:w3.heap.size≤c:=by rw[j];exact szD
    have q:=S.le j;have g:=a.ne j
    have n3__20:=h3.ne j
    have S:=S.trans f;have a:=a.sub f;have h1:=h1.sub f;have h3:=h3.sub f
    have b:Has s c (List.replicate n [i0]).flatten 3:=(by have:=b;rw[Int.toNat_natCast] at this;exact this)
    refine Be f.agr<|Bg 6 rfl (fun _ _=>.buildS (vs:=[(0,.agg y.cells.toArray),(2,.slice (some ⟨c,0,none⟩) n n),(4,.slice (some ⟨b3,0,none⟩) 8 8)]) (cs:=((⟨y,0,some ⟨c,0,none⟩,n,n,none,0,0,some ⟨b3,0,none⟩,8,8⟩:StP).cells).toArray) Ka AHU rfl (by kernel_rfl))<|Aq 7 rfl<|At Dw rfl rfl rfl a (fun w15 z15 a a15=>?_);have S:=S.upd a15 E;have h1:=h1.updD a15 l;have h3:=h3.upd a15 n3_4;have b:=b.upd a15 g.symm
    have a:Has w15 G ((⟨y,0,some ⟨c,0,none⟩,n,n,none,0,0,some ⟨b3,0,none⟩,8,8⟩:StP).cells) _:=a.now (by kernel_rfl)
    refine Cq rfl a15 (rfl)<|Cu 8 rfl rfl<|Cp<|Ab<|Bo (rs:=[.cell 4 67,.tmp 5]) (vs:=[_,_]) rfl rfl ⟨⟨_,rfl,.inr ⟨(⟨y,0,some ⟨c,0,none⟩,n,n,none,0,0,some ⟨b3,0,none⟩,8,8⟩:StP).cells,Dw,a.row,rfl⟩⟩,rfl,trivial⟩ ?_
    exact⟨S,_,x,_,rfl,(By q).or ((By ge3).or up),(b.ft.and (h3.ft.and h1)).imp fun u h=>⟨h.2.2,rfl,rfl,rfl,rfl,c,b3,rfl,rfl,rfl,rfl,rfl,rfl,h.1,h.2.1⟩⟩
theorem StNew.lens{n m:Nat}{u:World}{z:StP}{x:RcP}(h:StNew n m u z x):z.wd.wn=n∧z.cn=8∧z.wd.tb.rn=1∧x.rt=rt0:=by
 obtain⟨⟨_,_,_,_,_,⟨b3,b4,b5,ht,_,_,_,b6,b7,hx,_⟩,b1,b2,_,_,_,_,h1,_⟩,_,_,_,_,b8,b9,_,_,_,_,h2,_⟩:=h
 exact⟨h1,h2,by rw[ht],by rw[hx]⟩
theorem ADt(n m:Nat)(hn:1≤n∧n≤8)(hm:1≤m∧m≤512)(w:World):
  FC Tryz.prog 18 [.int .i64 (n:Int),.int .i64 (m:Int)] w (fun v w'=>Sub w w'∧∃z x M,v=.tuple #[.agg z.cells.toArray,.bool true]∧UpN w M∧Ft M (fun u=>StNew n m u z x) w'):=by
 refine As Tryz.func18 rfl Tryz.ntmps18 rfl ?_
 have S:=Ax w
 refine Ac<|Aa rfl<|Ay Ka rfl rfl (fun p q s A a r=>?_);have i:=S.le s;have S:=S.trans r;refine Ah rfl<|Ae<|Ab<|Ac<|Aa rfl<|Af rfl<|Af rfl<|Az rfl AMX (AJ4 n m hn hm q) ?_;rintro _ w1 ⟨s2,z,x,M,rfl,up,h1⟩;have g:=Di up (fun _ (h:False)=>h.elim) a.lt
 have up:=up.low S.size
 have hl:=h1.now.lens
 have S:=S.trans s2;have a:=a.sub s2;refine Af rfl<|Bz rfl rfl<|Bz rfl rfl<|Ay Ka rfl rfl (fun t B o y d j=>?_);have l:=S.le o;have c:=a.ne o;have f:=h1.neNew o;have S:=S.trans j;have a:=a.sub j;have h1:=h1.sub j;refine At Dw rfl rfl rfl d (fun w3 z3 d a3=>?_);have S:=S.upd a3 l;have a:=a.upd a3 c;have h1:=h1.updD a3 f
 have d:Has w3 t (z.cells) _:=d.now (by kernel_rfl)
 refine Ah rfl<|Ae<|Ab<|Ac<|Bs (fun k=>k=p) [25] w3.heap.size 27 rfl rfl mxo (fun w4 s5=>?_)
 have hNN:∀k,((k=p)∨w3.heap.size≤k)→w.heap.size≤k:=fun k e=>e.elim (fun e=>e▸i) (fun e=>Ad S.size e)
 have hN0:∀k,w3.heap.size≤k→w.heap.size≤k:=fun k e=>Ad S.size e
 have b:=d.lt;have S:=S.trans s5;have a:=a.sub s5;have h1:=h1.sub s5;have d:=d.sub s5;refine Bg 0 rfl (fun w' s'=>.loadR (z.cells) Dw rfl (d.step s' (nE c.symm b)).row rfl)<|Bp 1 rfl rfl<|Bg 2 rfl (fun _ _=>.as (v':=.bool true) (.bin rfl rfl rfl) (Cr (rfl)))<|Bp 3 rfl rfl<|Bl 4 rfl Gp rfl<|Bl 5 rfl Gz rfl<|Ck 6 rfl Nj rfl d (nE c.symm b) rfl<|Bg 7 rfl (fun _ _=>.len Nb rfl)<|Bp 8 rfl rfl<|Bg 9 rfl (fun _ _=>.as (v':=.bool true) (.bin rfl rfl rfl) (Cr (by rw[hl.1])))<|Bg 10 rfl (fun _ _=>.pick_t rfl rfl)<|Bp 11 rfl rfl<|Bl 12 rfl AJt rfl<|Ck 13 rfl AMN rfl d (nE c.symm b) rfl<|Bg 14 rfl (fun _ _=>.len Xl rfl)<|Bg 15 rfl (fun _ _=>.as (v':=.bool true) (.bin rfl rfl rfl) (Cr (by rw[hl.2.1];rfl))) ?_;refine Bg 16 rfl (fun _ _=>.pick_t rfl rfl)<|Bp 17 rfl rfl<|Bl 18 rfl Gp rfl<|Bl 19 rfl Md rfl<|Bl 20 rfl Gq rfl<|Ck 21 rfl Nd rfl d (nE c.symm b) rfl<|Bg 22 rfl (fun _ _=>.len Fm rfl)<|Bg 23 rfl (fun _ _=>.as (v':=.bool true) (.bin rfl rfl rfl) (Cr (by rw[hl.2.2.1];rfl)))<|Bg 24 rfl (fun _ _=>.pick_t rfl rfl)<|Aq 25 rfl<|At Dw rfl rfl rfl a (fun w6 z6 a a6=>?_);have S:=S.upd a6 i;have h1:=h1.updD a6 g
 have a:Has w6 p (z.cells) _:=a.now (by kernel_rfl)
 refine Cq rfl a6 (rfl)<|Cu 26 rfl rfl<|Cp<|Ab<|Bo (rs:=[.cell 4 67,.tmp 5]) (vs:=[_,_]) rfl rfl ⟨⟨_,rfl,.inr ⟨z.cells,Dw,a.row,rfl⟩⟩,rfl,trivial⟩ ?_
 exact⟨S,z,x,M,rfl,up,h1⟩
open Go Go.XL
theorem _root_.Go.XL.FC.yes{P:Program}{f:FuncId}{args:List Value}{w:World}{q:Prop}[Decidable q](h:FC P f args w (Val (.bool (decide q)) w))(hq:q):FC P f args w (Val (.bool true) w):=by rwa [decide_eq_true hq] at h
theorem AG4(y:WdP)(k:Int)(hk:(y.wn:Int)≤k)(h0:0≤k)(w:World):
  FC Tryz.prog 91 [.agg y.cells.toArray,.int .i64 k] w (Val (.tuple #[.agg AB6.cells.toArray,.bool false,.agg #[.int .i64 0,.int .i64 0,.int .i64 0],.int .i64 1]) w):=by
 refine As Tryz.func91 rfl Tryz.ntmps91 rfl ?_
 have S:=Ax w
 refine Ac<|Aa rfl<|Bu rfl rfl rfl (fun p j v s c l=>?_);have S:=S.trans l
 have c:Has j p (y.cells) _:=c
 refine Ay Tz rfl rfl (fun o u m r a h=>?_);have g:=S.le m;have S:=S.trans h;have c:=c.sub h;refine Ah rfl<|Ay Nh rfl rfl (fun n t i q b e=>?_);have f:=S.le i;have d:=a.ne i;have S:=S.trans e;have c:=c.sub e;have a:=a.sub e;refine Ah rfl<|Ae<|Ab<|Ac<|Ac<|Aa rfl<|Af rfl<|Bc rfl rfl rfl<|Af rfl<|Bn 16 rfl (fun h1=>?_) (fun h1=>?_)
 ·
  exact absurd h1 (by omega)
 ·
  refine Af rfl<|Av Gz rfl<|Ba Nj rfl c rfl<|Cm Nb rfl<|Bc rfl rfl rfl<|Bq rfl rfl<|Af rfl<|Bn 23 rfl (fun h2=>?_) (fun h2=>?_)
  ·
   refine Bd 5 rfl<|Br rfl rfl<|Ae<|Ab<|Bm rfl<|Ac<|Aa rfl<|Ak (.buildS Tz AJV rfl rfl)<|Ak (.buildS Nh AHV rfl rfl)<|At Hw rfl rfl rfl a (fun w3 z3 a a3=>?_);have S:=S.upd a3 g;have b:=b.upd a3 d.symm
   have a:Has w3 o (AB6.cells) _:=a.now (by kernel_rfl)
   refine Ah rfl<|At Hq rfl rfl rfl b (fun w4 z4 b a4=>?_);have S:=S.upd a4 f;have a:=a.upd a4 d
   have b:Has w4 n ([.int .i64 0,.int .i64 0,.int .i64 0]) _:=b.now (by kernel_rfl)
   refine Ah rfl<|Ae<|Ab<|Bo (rs:=[.cell 4 63,.tmp 5,.cell 6 38,.tmp 7]) (vs:=[_,_,_,_]) rfl rfl ⟨⟨_,rfl,.inr ⟨AB6.cells,Hw,a.row,rfl⟩⟩,rfl,⟨_,rfl,.inr ⟨[.int .i64 0,.int .i64 0,.int .i64 0],Hq,b.row,rfl⟩⟩,rfl,trivial⟩ ?_
   exact⟨rfl,S⟩
  ·
   exact absurd hk h2
theorem AHF(b:Nat)(x z e:Int)(he:¬e=0)(w:World):
  FC Tryz.prog 93 [.pointer (some ⟨b,0,none⟩),.int .i64 x,.int .i64 z,.int .i64 e] w (Val (.tuple #[.agg Rx.cells.toArray,.int .i64 z,.int .i64 e]) w):=by
 refine As Tryz.func93 rfl Tryz.ntmps93 rfl ?_
 have S:=Ax w
 refine Ac<|Aa rfl<|Ay Ka rfl rfl (fun g i f h a d=>?_);have c:=S.le f;have S:=S.trans d;refine Ah rfl<|Ah rfl<|Ae<|Ab<|Ac<|Ac<|Aa rfl<|Af rfl<|Bc rfl rfl rfl<|Ae<|Ab<|An rfl (fun h1=>?_) (fun h1=>?_)
 ·
  refine Ac<|Aa rfl<|Ak (.buildS Ka AHU rfl rfl)<|Af rfl<|Af rfl<|At Dw rfl rfl rfl a (fun w2 z2 a a2=>?_);have S:=S.upd a2 c
  have a:Has w2 g (Rx.cells) _:=a.now (by kernel_rfl)
  refine Ah rfl<|Ah rfl<|Ae<|Ab<|Bo (rs:=[.cell 8 67,.tmp 9,.tmp 10]) (vs:=[_,_,_]) rfl rfl ⟨⟨_,rfl,.inr ⟨Rx.cells,Dw,a.row,rfl⟩⟩,rfl,rfl,trivial⟩ ?_
  exact⟨rfl,S⟩
 ·
  exact absurd (Decidable.not_not.1 h1) he
theorem ABX(z:StP)(k:Int)(hk:(z.wd.wn:Int)≤k)(h0:0≤k)(w:World):
  FC Tryz.prog 41 [.agg z.cells.toArray,.int .i64 k] w (Val (.tuple #[.agg Rx.cells.toArray,.int .i64 1]) w):=by
 refine As Tryz.func41 rfl Tryz.ntmps41 rfl ?_
 have S:=Ax w
 refine Ac<|Aa rfl<|Bu rfl rfl rfl (fun H J L R a K=>?_);have E:=S.le L;have S:=S.trans K
 have a:Has J H (z.cells) _:=a
 refine Ay Ka rfl rfl (fun N V G Q c F=>?_);have D:=S.le G;have q:=a.ne G;have S:=S.trans F;have a:=a.sub F;refine Ah rfl<|Ae<|Ab<|Ac<|Aa rfl<|Ak (.loadR (z.cells) Dw rfl a.row rfl)<|Ak (.buildS (vs:=[(0,.agg z.cells.toArray)]) (cs:=(z.cells).toArray) ACz AC5 rfl (by kernel_rfl))<|Bu rfl rfl rfl (fun s t r I b l=>?_);have v:=S.le r;have g:=a.ne r;have f:=c.ne r;have S:=S.trans l;have a:=a.sub l;have c:=c.sub l
 have b:Has t s (z.cells) _:=b
 refine Ah rfl<|Ae<|Ab<|Ac<|Aa rfl<|Av Gp rfl<|Ak (.loadR (z.wd.cells) Hw rfl ((Ee (pre:=[]) (mid:=z.wd.cells) (post:=[.int .i64 z.time,.slice z.ia z.inn z.ic,.slice z.la z.ln z.lc,.slice z.ca z.cn z.cc]) a rfl)) rfl)<|Af rfl<|Az rfl AJa (AG4 z.wd k hk h0 t) ?_;rintro _ w1 ⟨rfl,s2⟩;have S:=S.trans s2;have a:=a.sub s2;have c:=c.sub s2;have b:=b.sub s2;refine Af rfl<|Bz rfl rfl<|Ak (.as (v':=.bool false) (.extract rfl rfl) (by rfl))<|Bz rfl rfl<|Ak (.as (v':=.int .i64 1) (.extract rfl rfl) (by rfl))<|Ay Tz rfl rfl (fun M U A P d y=>?_);have C:=S.le A;have p:=a.ne A;have n:=c.ne A;have i:=b.ne A;have S:=S.trans y;have a:=a.sub y;have c:=c.sub y;have b:=b.sub y;refine Ay Nh rfl rfl (fun W T x O j u=>?_);have B:=S.le x;have o:=a.ne x;have m:=c.ne x;have h:=b.ne x;have e:=d.ne x;have S:=S.trans u;have a:=a.sub u;have c:=c.sub u;have b:=b.sub u;have d:=d.sub u;refine At Hw rfl rfl rfl d (fun w3 z3 d a3=>?_);have S:=S.upd a3 C;have a:=a.upd a3 p;have c:=c.upd a3 n;have b:=b.upd a3 i;have j:=j.upd a3 e.symm
 have d:Has w3 M (AB6.cells) _:=d.now (by kernel_rfl)
 refine Ah rfl<|At Hq rfl rfl rfl j (fun w4 z4 j a4=>?_);have S:=S.upd a4 B;have a:=a.upd a4 o;have c:=c.upd a4 m;have b:=b.upd a4 h;have d:=d.upd a4 e;refine Ah rfl<|Ae<|Ab<|Ac<|Aa rfl<|Af rfl<|Ak (.loadR (AB6.cells) Hw rfl d.row rfl)<|Ak (.nilCheck rfl)<|Av Ij rfl<|Av Gp rfl<|At Hw rfl rfl rfl b (fun w5 z5 b a5=>?_);have S:=S.upd a5 v;have a:=a.upd a5 g;have c:=c.upd a5 f
 have b:Has w5 s (({z with wd:=AB6}:StP).cells) _:=b.eqc (by kernel_rfl)
 refine Ae<|Ab<|Ac<|Ac<|Aa rfl<|Af rfl<|Af rfl<|Bd 5 rfl<|Bq rfl rfl<|Ae<|Ab<|Bw rfl<|Ao<|Ab<|Ac<|Aa rfl ?_;refine Af rfl<|Af rfl<|Az rfl AFD (AHF s 0 0 1 (by decide) w5) ?_;rintro _ w6 ⟨rfl,s7⟩;have S:=S.trans s7;have a:=a.sub s7;have c:=c.sub s7;refine Af rfl<|Bz rfl rfl<|Bz rfl rfl<|Bz rfl rfl<|At Dw rfl rfl rfl a (fun w8 z8 a a8=>?_);have S:=S.upd a8 E;have c:=c.upd a8 q.symm
 have a:Has w8 H (Rx.cells) _:=a.now (by kernel_rfl)
 refine Ah rfl<|Ae<|Ab<|Ac<|Aa rfl<|Ak (.loadR (Rx.cells) Dw rfl a.row rfl)<|Af rfl<|At Dw rfl rfl rfl c (fun w9 z9 c a9=>?_);have S:=S.upd a9 D
 have c:Has w9 N (Rx.cells) _:=c.now (by kernel_rfl)
 refine Ah rfl<|Ae<|Ab<|Bo (rs:=[.cell 4 67,.tmp 5]) (vs:=[_,_]) rfl rfl ⟨⟨_,rfl,.inr ⟨Rx.cells,Dw,c.row,rfl⟩⟩,rfl,trivial⟩ ?_
 exact⟨rfl,S⟩
set_option maxHeartbeats 1000000 in
theorem AIU(w:World):FC Tryz.prog 13 [] w (Val (.bool true) w):=by
 have hok:AOk (Fe 50):=ADR (by decide)
 refine As Tryz.func13 rfl Tryz.ntmps13 rfl ?_
 have S:=Ax w
 refine Ac<|Aa rfl<|Ah rfl<|Ae<|Ab<|Ac<|Aa rfl<|Az rfl AKl (ADt 2 50 (by decide) (by decide) w) ?_;rintro _ w1 ⟨s2,z,x,M,rfl,up,h1⟩
 have hl:=h1.now.lens
 have h2:=h1.now
 obtain⟨⟨hAr,e1,e2,e3,e4,⟨b1,b2,b3,ht,hbx,_⟩,_⟩,_⟩:=h2
 have S:=S.trans s2
 obtain⟨W1,S1,hAr⟩:∃W,Sub W w1∧ArR W z.wd.na z.wd.fa (Fe 50):=⟨_,Ax _,hAr⟩
 refine Af rfl<|Bz rfl rfl<|Ak (.as (v':=.bool true) (.extract rfl rfl) (by rfl))<|Ay Ka rfl rfl (fun H J B I a y=>?_);have A:=S.le B
 have n1__1:=hbx.ne B
 have S:=S.trans y
 have geS1_1:=S1.le B
 have S1:=S1.trans y;have hbx:=hbx.sub y;refine At Dw rfl rfl rfl a (fun w3 z3 a a3=>?_);have S:=S.upd a3 A;have S1:=S1.upd a3 geS1_1;have hbx:=hbx.upd a3 n1__1
 have a:Has w3 H (z.cells) _:=a.now (by kernel_rfl)
 refine Ah rfl<|Ae<|Ab<|Ac<|Ac<|Aa rfl<|Af rfl<|Ak (.not rfl)<|Ae<|Ab<|Db rfl (fun h4=>?_) (fun h4=>?_)
 ·
  exact absurd h4 (by decide)
 ·
  refine Ao<|Ab<|Ac<|Bs (fun k=>False) [15] w3.heap.size 17 rfl rfl mxo (fun w5 s6=>?_)
  have hNN:∀k,((False)∨w3.heap.size≤k)→w.heap.size≤k:=fun k e=>e.elim (fun e=>e.elim) (fun e=>Ad S.size e)
  have hN0:∀k,w3.heap.size≤k→w.heap.size≤k:=fun k e=>Ad S.size e
  have s:=hbx.lt;have l:=a.lt;have szD:=Nat.le_refl w3.heap.size;have S:=S.trans s6;have S1:=S1.trans s6;have hbx:=hbx.sub s6;have a:=a.sub s6;have szD:=Ad szD s6.size;refine Bl 0 rfl Gp rfl<|Bl 1 rfl Sf rfl<|Bg 2 rfl (fun w' s'=>.as (v':=arV z.wd.na z.wd.fa z.wd.nc z.wd.fc (Fe 50)) (.loadR ([.slice z.wd.na z.wd.nn z.wd.nc,.slice z.wd.fa z.wd.fn z.wd.fc]) Cb rfl (Fg (xs:=[.slice z.wd.na z.wd.nn z.wd.nc,.slice z.wd.fa z.wd.fn z.wd.fc]) (ys:=[.slice z.wd.tb.ra z.wd.tb.rn z.wd.tb.rc,.slice z.wd.tb.pa z.wd.tb.pn z.wd.tb.pc,.slice z.wd.tb.sa z.wd.tb.sn z.wd.tb.sc,.slice z.wd.aa z.wd.an z.wd.ac,.slice z.wd.wa z.wd.wn z.wd.wc,.int .i64 z.time,.slice z.ia z.inn z.ic,.slice z.la z.ln z.lc,.slice z.ca z.cn z.cc]) (a.step s' (nE id l))) rfl) (by rw[e1,e3];rfl))<|Bl 3 rfl Gp rfl<|Bl 4 rfl Md rfl<|Bl 5 rfl Gq rfl<|Bg 6 rfl (fun w' s'=>.as (v':=.slice (some ⟨b1,0,none⟩) 1 1) (.load1 Nd rfl ((a.step s' (nE id l)).cell rfl)) (by rw[ht]))<|Bg 7 rfl (fun _ _=>.indexO Fm rfl rfl (by omega))<|Bl 8 rfl Qc rfl<|Bg 9 rfl (fun w' s'=>.as (v':=rt0.val) (.loadR (x.rt.cells) Nf rfl ((Ee (pre:=[.int .i64 x.no]) (mid:=x.rt.cells) (post:=[.slice x.aa x.an x.ac,.slice x.ra x.rn x.rc]) (hbx.step s' (nE id s)) rfl)) rfl) (by rw[hl.2.2.2];rfl))<|Ej [10,14] (by kernel_rfl) rfl (Ca rfl ?_ (Ca rfl ?_ (Do)))
  ·
   refine Az rfl AJd (AAf (Fe 50) _ _ _ _ (e1▸e2) (e3▸e4) rt0 AAD rfl m0 (IsC.zero hok) w5 (hAr.sub S1)) ?_;rintro _ w7 ⟨s8,p,M2,rfl,hms,upm,hF⟩;have S:=S.trans s8;have S1:=S1.trans s8;have hbx:=hbx.sub s8;have a:=a.sub s8;have szD:=Ad szD s8.size;refine Be s8.agr<|Bp 11 rfl rfl<|Fv 12 rfl rfl rfl<|Bg 13 rfl (fun _ _=>.as (v':=.int .i64 0) (.extract rfl rfl) (by rfl))<|Aq 14 rfl<|Ay AB5 rfl rfl (fun v D o F b m=>?_)
   have j:w3.heap.size≤v:=by rw[o];exact szD
   have u:=S.le o
   have n1__3:=hbx.ne o
   have i:=a.ne o;have f:=hF.neNew o;have S:=S.trans m
   have geS1_3:=S1.le o
   have S1:=S1.trans m;have hbx:=hbx.sub m;have a:=a.sub m;have szD:=Ad szD m.size;have hF:=hF.sub m;refine Be m.agr<|Aq 15 rfl<|At AB7 rfl rfl rfl b (fun w9 z9 b a9=>?_);have S:=S.upd a9 u;have S1:=S1.upd a9 geS1_3;have hbx:=hbx.upd a9 n1__3;have a:=a.upd a9 i;have szD:=Ad szD a9.size;have hF:=hF.updD a9 f
   have b:Has w9 v (moC p m0) _:=b.now (by kernel_rfl)
   refine Cv rfl (a9.mono fun k _ e=>e▸(.inr j))<|Cu 16 rfl rfl<|Cp<|Ab<|Ac<|Aa rfl<|Ak (.loadR (z.cells) Dw rfl a.row rfl)<|Az rfl AHa (ABX z 9 (by rw[hl.1];decide) (by decide) w9) ?_;rintro _ w10 ⟨rfl,s11⟩;have S:=S.trans s11;have S1:=S1.trans s11;have hbx:=hbx.sub s11;have a:=a.sub s11;have hF:=hF.sub s11;have b:=b.sub s11;refine Af rfl<|Bz rfl rfl<|Ak (.as (v':=.int .i64 1) (.extract rfl rfl) (by rfl))<|Ay Ka rfl rfl (fun C G n E c q=>?_);have t:=S.le n
   have n1__5:=hbx.ne n
   have r:=a.ne n;have g:=b.ne n;have d:=hF.neNew n;have S:=S.trans q
   have geS1_5:=S1.le n
   have S1:=S1.trans q;have hbx:=hbx.sub q;have a:=a.sub q;have hF:=hF.sub q;have b:=b.sub q;refine At Dw rfl rfl rfl c (fun w12 z12 c a12=>?_);have S:=S.upd a12 t;have S1:=S1.upd a12 geS1_5;have hbx:=hbx.upd a12 n1__5;have a:=a.upd a12 r;have hF:=hF.updD a12 d;have b:=b.upd a12 g
   have c:Has w12 C (Rx.cells) _:=c.now (by kernel_rfl)
   refine Ah rfl<|Ae<|Ab<|Ac<|Aa rfl<|Af rfl<|Ak (.as (v':=.bool true) (.bin rfl rfl rfl) (Cr (rfl)))<|Af rfl<|Af rfl<|Ak (.as (v':=.bool true) (.bin rfl rfl rfl) (Cr (rfl)))<|Br rfl rfl<|Af rfl<|Ak (.loadR (moC p m0) AB7 rfl b.row rfl)<|Ak (.as (v':=moV p0 m0) (.buildS AB5 AJX rfl rfl) (by rfl))<|Az rfl AKg (FC.yes (ADv p m0 hms p0 m0 AKn w12 hF.now ⟨Sl.nil _ _ _,Sl.nil _ _ _,Sl.nil _ _ _,Sl.nil _ _ _⟩) ⟨rfl,rfl,rfl,rfl⟩) ?_;rintro _ w13 ⟨rfl,s14⟩;have S:=S.trans s14;have S1:=S1.trans s14;have hbx:=hbx.sub s14;have a:=a.sub s14;have hF:=hF.sub s14;have b:=b.sub s14;have c:=c.sub s14;refine Br rfl rfl<|Ah rfl<|Ae<|Ab<|Bb 0 rfl rfl rfl ?_
   exact⟨rfl,S⟩
  ·
   refine Ay AB5 rfl rfl (fun v D o F b m=>?_)
   have j:w3.heap.size≤v:=by rw[o];exact szD
   have u:=S.le o
   have n1__3:=hbx.ne o
   have i:=a.ne o;have S:=S.trans m;have S1:=S1.trans m;have hbx:=hbx.sub m;have a:=a.sub m;refine Be m.agr<|Aq 10 rfl<|Az rfl AJd (AAf (Fe 50) _ _ _ _ (e1▸e2) (e3▸e4) rt0 AAD rfl m0 (IsC.zero hok) D (hAr.sub S1)) ?_;rintro _ w15 ⟨s16,p,M2,rfl,hms,upm,hF⟩;have f:=Di upm (fun _ (h:False)=>h.elim) b.lt;have S:=S.trans s16;have hbx:=hbx.sub s16;have a:=a.sub s16;have b:=b.sub s16;refine Be s16.agr<|Bp 11 rfl rfl<|Fv 12 rfl rfl rfl<|Bg 13 rfl (fun _ _=>.as (v':=.int .i64 0) (.extract rfl rfl) (by rfl))<|Aq 15 rfl<|At AB7 rfl rfl rfl b (fun w17 z17 b a17=>?_);have S:=S.upd a17 u;have hbx:=hbx.upd a17 n1__3;have a:=a.upd a17 i;have hF:=hF.updD a17 f
   have b:Has w17 v (moC p m0) _:=b.now (by kernel_rfl)
   refine Cv rfl (a17.mono fun k _ e=>e▸(.inr j))<|Cu 16 rfl rfl<|Cp<|Ab<|Ac<|Aa rfl<|Ak (.loadR (z.cells) Dw rfl a.row rfl)<|Az rfl AHa (ABX z 9 (by rw[hl.1];decide) (by decide) w17) ?_;rintro _ w18 ⟨rfl,s19⟩;have S:=S.trans s19;have hbx:=hbx.sub s19;have b:=b.sub s19;have hF:=hF.sub s19;refine Af rfl<|Bz rfl rfl<|Ak (.as (v':=.int .i64 1) (.extract rfl rfl) (by rfl))<|Ay Ka rfl rfl (fun C G n E c q=>?_);have t:=S.le n
   have n1__5:=hbx.ne n
   have g:=b.ne n;have d:=hF.neNew n;have S:=S.trans q;have b:=b.sub q;have hF:=hF.sub q;refine At Dw rfl rfl rfl c (fun w20 z20 c a20=>?_);have S:=S.upd a20 t;have b:=b.upd a20 g;have hF:=hF.updD a20 d
   have c:Has w20 C (Rx.cells) _:=c.now (by kernel_rfl)
   refine Ah rfl<|Ae<|Ab<|Ac<|Aa rfl<|Af rfl<|Ak (.as (v':=.bool true) (.bin rfl rfl rfl) (Cr (rfl)))<|Af rfl<|Af rfl<|Ak (.as (v':=.bool true) (.bin rfl rfl rfl) (Cr (rfl)))<|Br rfl rfl<|Af rfl<|Ak (.loadR (moC p m0) AB7 rfl b.row rfl)<|Ak (.as (v':=moV p0 m0) (.buildS AB5 AJX rfl rfl) (by rfl))<|Az rfl AKg (FC.yes (ADv p m0 hms p0 m0 AKn w20 hF.now ⟨Sl.nil _ _ _,Sl.nil _ _ _,Sl.nil _ _ _,Sl.nil _ _ _⟩) ⟨rfl,rfl,rfl,rfl⟩) ?_;rintro _ w21 ⟨rfl,s22⟩;have S:=S.trans s22;refine Br rfl rfl<|Ah rfl<|Ae<|Ab<|Bb 0 rfl rfl rfl ?_
   exact⟨rfl,S⟩
theorem Zm(A:Ar)(na fa:Option Addr)(nc fc:Nat)(hnc:A.nodes.length≤nc)(hfc:A.free.length≤fc)(R:Rt)(hR:R.ok)(h0:R.h=0)(m:Mo)(hC:IsC A R m)(w:World)(hA:ArR w na fa A):
  FC Tryz.prog 35 [arV na fa nc fc A,R.val] w (Val (.bool true) w):=by
 refine As Tryz.func35 rfl Tryz.ntmps35 rfl ?_
 have S:=Ax w
 refine Ac<|Aa rfl<|Bu rfl rfl rfl (fun o g v s a j=>?_);have S:=S.trans j
 have a:Has g o ([.slice na A.nodes.length nc,.slice fa A.free.length fc]) _:=a
 refine Bu rfl rfl rfl (fun n e u r c f=>?_);have S:=S.trans f;have a:=a.sub f
 have c:Has e n (R.cells) _:=c
 refine Ah rfl<|Ae<|Ab<|Ac<|Aa rfl<|Ak (.loadR ([.slice na A.nodes.length nc,.slice fa A.free.length fc]) Cb rfl a.row rfl)<|Ak (.loadR (R.cells) Nf rfl c.row rfl)<|Az rfl AJd (AAf A na fa nc fc hnc hfc R hR h0 m hC e (hA.sub S)) ?_;rintro _ w1 ⟨s2,p,M2,rfl,_,_,_⟩;have S:=S.trans s2;refine Af rfl<|Bz rfl rfl<|Ak (.as (v':=.int .i64 0) (.extract rfl rfl) (by rfl))<|Ay AB5 rfl rfl (fun l t k q b i=>?_);have d:=S.le k;have S:=S.trans i;refine At AB7 rfl rfl rfl b (fun w3 z3 b a3=>?_);have S:=S.upd a3 d
 have b:Has w3 l (moC p m) _:=b.now (by kernel_rfl)
 refine Ah rfl<|Ae<|Ab<|Ac<|Aa rfl<|Af rfl<|Ak (.as (v':=.bool true) (.bin rfl rfl rfl) (Cr (rfl)))<|Ah rfl<|Ae<|Ab<|Bb 4 rfl rfl rfl ?_
 exact⟨rfl,S⟩
theorem Ul(b:Nat)(A:Ar)(R:Rt)(C:Nat→Prop)(nb fb:Option Addr)(ncb fcb:Nat)(B:Ar)(hnB:B.nodes.length≤ncb)(hfB:B.free.length≤fcb)(MB:Nat→Prop)(r e:Int)(w:World)(hF:Ft C (WkO b A R C) w)(hB:Ft MB (fun u=>ArR u nb fb B) w)(hMb:∀k,MB k→k≠b):
  FC Tryz.prog 75 [.pointer (some ⟨b,0,none⟩),arV nb fb ncb fcb B,.pointer (some ⟨b,4,none⟩),.int .u64 r,.int .i64 e] w (fun v w'=>∃C',Ft C' (WkO b (if e=0 then B else A) (if e=0 then {R with r:=r} else R) C') w'∧Agr (· = b) w w'∧∀k,C' k→C k∨MB k):=by
 obtain⟨hCb,na,fa,nc,fc,M,hbf,hnc,hfc,hA,hMb',hMC⟩:=hF.now
 have dA:∀k,M k→k≠b:=fun k hk e=>hMb' (e▸hk)
 refine As Tryz.func75 rfl Tryz.ntmps75 rfl ?_
 have G:Agr (· = b) w w:=Agr.refl _ _
 refine Ac<|Aa rfl<|Bu rfl rfl rfl (fun g f j i c d=>?_);have G:=G.trans d.agr;have hbf:=hbf.sub d;have hB:=hB.sub d;have hF:=hF.sub d
 have c:Has f g ([.slice nb B.nodes.length ncb,.slice fb B.free.length fcb]) _:=c
 refine Ae<|Ab<|Ac<|Aa rfl<|Af rfl<|Bc rfl rfl rfl<|Ae<|Ab<|An rfl (fun h1=>?_) (fun h1=>?_)
 ·
  have he:e=0:=h1
  refine Aa rfl<|Af rfl<|Af rfl<|Ak (.loadR ([.slice nb B.nodes.length ncb,.slice fb B.free.length fcb]) Cb rfl c.row rfl)<|Af rfl<|Ak (.nilCheck rfl)<|Av Oj rfl<|At Cb rfl rfl rfl hbf (fun w2 z2 hbf a2=>?_);have G:=G.trans a2;have hB:=hB.updD a2 hMb
  have hbf:Has w2 b (wkC nb fb ncb fcb B R) _:=hbf.eqc (by kernel_rfl)
  refine Ak (.nilCheck rfl)<|At Dm rfl rfl rfl hbf (fun w3 z3 hbf a3=>?_);have G:=G.trans a3;have hB:=hB.updD a3 hMb
  have hbf:Has w3 b (wkC nb fb ncb fcb B {R with r:=r}) _:=hbf.eqc (by kernel_rfl)
  refine Ae ?_
  refine fun a ka=>⟨ka.defers,_,Dg (rs:=[]) (vs:=[]) ka rfl trivial,?_⟩
  rw[if_pos he,if_pos he]
  exact⟨_,WkO.ft hbf hnB hfB hB (fun h=>hMb _ h rfl),G,fun k hk=>hk.elim (fun e=>.inl (e▸hCb)) .inr⟩
 ·
  have he:¬e=0:=h1
  refine Ao ?_
  refine fun a ka=>⟨ka.defers,_,Dg (rs:=[]) (vs:=[]) ka rfl trivial,?_⟩
  rw[if_neg he,if_neg he]
  exact⟨C,hF,G,fun k hk=>.inl hk⟩

def rsR(r:ResT):RsT:=⟨r.e,r.a,r.b⟩
def ADH(A:Ar)(V:List Int)(o:OpT)(x:RsT)(B:Ar)(r' e:Int):Prop :=
 (e=0∧Ext A B∧AOk B∧A.free.length≤B.free.length+(V.length+2)∧(∃M,IsR B r' (Gw V o).1 M)∧x=rsR (Gw V o).2) ∨
 (e=2∧x=⟨2,0,0⟩∧A.free.length<V.length+2) ∨
 (¬e=0∧(Gw V o).1=V∧x=rsR (Gw V o).2)
theorem Ot{A B:Ar}{r r' e:Int}{V P:List Int}{o:OpT}(hm:isRow A r)(hV:IsR A r V P)(hk:o.kind=2∨o.kind=4)(h:AA2 A r (decide (o.kind=2)) o.a B r' e):ADH A V o (Lj e 0 0) B r' e:=by
 have hr:Gw V o=if 200≤V.length then(V,⟨5,0,0⟩) else(if o.kind=2 then V++[o.a] else o.a::V,⟨0,0,0⟩):=by
  unfold Gw;rw[if_neg (by omega),if_pos hk]
 rcases h.2.2 V P hm hV with⟨h1,rfl⟩|⟨h1,rfl,h2⟩|⟨h1,rfl,h2,h3,h4,h5⟩
 ·exact .inr (.inr ⟨by decide,by rw[hr,if_pos h1],by rw[hr,if_pos h1];rfl⟩)
 ·exact .inr (.inl ⟨rfl,rfl,h2⟩)
 ·refine .inl ⟨rfl,h2,h3,h4,?_,by rw[hr,if_neg (by omega)];rfl⟩
  rw[hr,if_neg (by omega)]
  unfold AFQ at h5
  rcases hk with k|k
  ·rw[if_pos (decide_eq_true k)] at h5;rw[if_pos k];exact h5
  ·have k2:¬o.kind=2:=by omega
   rw[decide_eq_false k2,if_neg (by decide)] at h5
   rw[if_neg k2];exact h5
def AJg(A:Ar)(r:Int)(back:Bool)(B:Ar)(r1 v e:Int):Prop:=∀V P,isRow A r→IsR A r V P→(V=[]∧e=3)∨(0<V.length∧e=2∧A.free.length<V.length)∨(0<V.length∧e=0∧v=AFB V back∧Ext A B∧AOk B∧A.free.length≤B.free.length+V.length∧∃M,IsR B r1 (AFC V back) M)
theorem Rb{A B:Ar}{r r' v e:Int}{V P:List Int}{o:OpT}(hm:isRow A r)(hV:IsR A r V P)(hk:o.kind=3∨o.kind=5)(h:AJg A r (decide (o.kind=3)) B r' v e):ADH A V o (Lj e v 0) B r' e:=by
 have hr:Gw V o=if V.length=0 then(V,⟨3,0,0⟩) else if o.kind=3 then(V.take (V.length-1),⟨0,V.getD (V.length-1) 0,0⟩) else(V.drop 1,⟨0,V.getD 0 0,0⟩):=by
  unfold Gw;rw[if_neg (by omega),if_neg (by omega),if_neg (by omega)]
 rcases h V P hm hV with⟨h1,rfl⟩|⟨h1,rfl,h2⟩|⟨h1,rfl,rfl,h2,h3,h4,h5⟩
 ·have h1':V.length=0:=by rw[h1];rfl
  exact .inr (.inr ⟨by decide,by rw[hr,if_pos h1'],by rw[hr,if_pos h1'];rfl⟩)
 ·exact .inr (.inl ⟨rfl,rfl,by omega⟩)
 ·unfold AFC at h5
  unfold AFB
  rcases hk with k|k
  ·rw[decide_eq_true k,if_pos rfl] at h5
   rw[decide_eq_true k,if_pos rfl]
   exact .inl ⟨rfl,h2,h3,by omega,by rw[hr,if_neg (by omega),if_pos k];exact h5,by rw[hr,if_neg (by omega),if_pos k];rfl⟩
  ·have k2:¬o.kind=3:=by omega
   rw[decide_eq_false k2,if_neg (by decide)] at h5
   rw[decide_eq_false k2,if_neg (by decide)]
   exact .inl ⟨rfl,h2,h3,by omega,by rw[hr,if_neg (by omega),if_neg k2];exact h5,by rw[hr,if_neg (by omega),if_neg k2];rfl⟩
structure MpV where
 b7:Nat
 B:Ar
 r:Int
 v:Int
 e:Int
 nb:Option Addr
 fb:Option Addr
 ncb:Nat
 fcb:Nat
 M:Nat→Prop
set_option maxHeartbeats 2000000 in
theorem AJ5(b:Nat)(A:Ar)(R:Rt)(C:Nat→Prop)(hR:R.ok)(V P:List Int)(hm:isRow A R.r)(hV:IsR A R.r V P)(o:OpT)(ho:o.ok)(hk:(o.kind=2∨o.kind=4)∨(o.kind=3∨o.kind=5))(w:World)(hF:Ft C (WkO b A R C) w):
  FC Tryz.prog 39 [.pointer (some ⟨b,0,none⟩),.agg o.cells.toArray] w (fun v w'=>∃x B r e C',v=x.val∧Ft C' (WkO b (if e=0 then B else A) (if e=0 then {R with r:=r} else R) C') w'∧Agr (· = b) w w'∧Up C w C'∧U64 r∧ADH A V o x B r e):=by
 obtain⟨hCb,na,fa,nc,fc,M,hbf,hnc,hfc,hA,hMb,hMC⟩:=hF.now
 have dA:∀k,M k→k≠b:=fun k hk e=>hMb (e▸hk)
 have hu:=hR.2.2.1
 obtain⟨_,_,oa,ob⟩:=ho
 refine As Tryz.func39 rfl Tryz.ntmps39 rfl ?_
 have G:Agr (· = b) w w:=Agr.refl _ _
 refine Ac<|Aa rfl<|Bu rfl rfl rfl (fun ar aq aw av f am=>?_);have G:=G.trans am.agr;have hbf:=hbf.sub am;have hA:=hA.sub am;have hF:=hF.sub am
 have f:Has aq ar (o.cells) _:=f
 refine Ay Nh rfl rfl (fun S aa an au c al=>?_);have ai:=hbf.ne an;have n:=hA.neNew an;have Q:=hF.neNew an
 have geG_4:=Gi G an
 have G:=G.trans al.agr;have hbf:=hbf.sub al;have hA:=hA.sub al;have hF:=hF.sub al;have f:=f.sub al;refine Ae<|Ab<|Ac<|Ac<|Aa rfl<|Av Hz rfl<|Ba sh3 rfl f rfl<|Ae<|Ab<|Bh<|Ac<|Ac<|Aa rfl<|Bc rfl rfl rfl<|Ah rfl<|Ae (Ab ?_);refine An rfl (fun h1=>?_) (fun h1=>?_)
 ·
  refine Ao<|Ab<|An rfl (fun h2=>?_) (fun h2=>absurd h1 h2);refine Hi (α:=MpS) (fun z=>[(0,.pointer (some ⟨b,0,none⟩)),(4,.pointer (some ⟨S,0,none⟩)),(5,.pointer (some ⟨z.b7,0,none⟩)),(6,.int .u64 z.r),(7,.int .i64 z.e)]) (fun z w3=>(S≠z.b7∧b≠z.b7∧z.B.nodes.length≤z.ncb∧z.B.free.length≤z.fcb∧U64 z.r∧AA2 A R.r (decide (o.kind=2)) o.a z.B z.r z.e∧(∀k,z.M k→C k∨w.heap.size≤k))∧(∀k,z.M k→k≠S)∧(∀k,z.M k→k≠b)∧Has w3 S (⟨0,0,0⟩:RsT).cells 38∧Has w3 z.b7 (wvA z.nb z.fb z.ncb z.fcb z.B) 26∧Ft z.M (fun u=>ArR u z.nb z.fb z.B) w3∧Ft C (WkO b A R C) w3∧Agr (· = b) w w3) ?_ (fun z w3 hJ=>?_)
  ·
   refine Bs (fun k=>False) [20] aa.heap.size 23 rfl rfl mxo (fun w4 s5=>?_);have ltD_b:=hbf.lt;have p:=f.lt;have szD:=Nat.le_refl aa.heap.size;have G:=G.trans s5.agr;have hbf:=hbf.sub s5;have hA:=hA.sub s5;have hF:=hF.sub s5;have f:=f.sub s5;have c:=c.sub s5;have szD:=Ad szD s5.size;refine Bp 0 rfl rfl<|Ci 1 rfl rfl<|Bl 2 rfl Oj rfl<|Bg 3 rfl (fun w' s'=>.loadR (wvA na fa nc fc A) Cb rfl (Fg (xs:=wvA na fa nc fc A) (ys:=[.int .u64 R.m,.int .u64 R.t,.int .u64 R.r,.int .u64 R.h]) (hbf.step s' (nE id ltD_b))) rfl)<|Bp 4 rfl rfl<|Ci 5 rfl rfl<|Bl 6 rfl Jv rfl<|Bl 7 rfl Lc rfl<|Ck 8 rfl Dm rfl hbf (nE id ltD_b) rfl<|Bl 9 rfl Hz rfl<|Ck 10 rfl sh3 rfl f (nE id p) rfl<|Tn 11 rfl rfl rfl rfl<|Bl 12 rfl Qe rfl<|Ck 13 rfl sh2 rfl f (nE id p) rfl<|Ej [14,19] (by kernel_rfl) rfl (Ca rfl ?_ (Ca rfl ?_ (Do)))
   ·
    refine Az rfl AHX (Uo A na fa nc fc hnc hfc R.r (decide (o.kind=2)) o.a hu oa M w4 hA) ?_;rintro _ w6 ⟨s7,nb,fb,ncb,fcb,B,r1,e1,M1,rfl,hu1,hnB,hfB,hB,hup,hpp⟩;have szG1:=G.size;have d_hB_b:=Di hup dA hbf.lt;have d:=Di hup n c.lt
    have dBb:∀k,M1 k→k≠b:=d_hB_b
    have G:=G.trans s7.agr;have hbf:=hbf.sub s7;have hA:=hA.sub s7;have hF:=hF.sub s7;have f:=f.sub s7;have c:=c.sub s7;have szD:=Ad szD s7.size;refine Be s7.agr<|Bp 15 rfl rfl<|Fv 16 rfl rfl rfl<|Bg 17 rfl (fun _ _=>.as (v':=.int .u64 r1) (.extract rfl rfl) (by rfl))<|Bg 18 rfl (fun _ _=>.as (v':=.int .i64 e1) (.extract rfl rfl) (by rfl))<|Aq 19 rfl<|Ay Fy rfl rfl (fun Z ak J ap i H=>?_)
    have N:aa.heap.size≤Z:=by rw[J];exact szD
    have T:=hbf.ne J;have K:=f.ne J;have s:=c.ne J;have j:=hA.neNew J;have D:=hF.neNew J;have F:=hB.neNew J
    have geG_5:=Gi G J
    have G:=G.trans H.agr;have hbf:=hbf.sub H;have hA:=hA.sub H;have hF:=hF.sub H;have f:=f.sub H;have c:=c.sub H;have szD:=Ad szD H.size;have hB:=hB.sub H;refine Be H.agr<|Aq 20 rfl<|At Cb rfl rfl rfl i (fun w8 z8 i a8=>?_)
    have G:=Dv G a8 geG_5
    have hbf:=hbf.upd a8 T;have hA:=hA.updD a8 j;have hF:=hF.updD a8 D;have f:=f.upd a8 K;have c:=c.upd a8 s;have szD:=Ad szD a8.size;have hB:=hB.updD a8 F
    have i:Has w8 Z (wvA nb fb ncb fcb B) _:=i.now (by kernel_rfl)
    refine Cv rfl (a8.mono fun k _ e=>e▸(.inr N))<|Cu 21 rfl rfl<|Cu 22 rfl rfl ?_
    exact Fb (by kernel_rfl) (fun a ka=>⟨⟨Z,B,r1,e1,nb,fb,ncb,fcb,M1⟩,⟨⟨(by first|exact s|exact ac.symm),(by first|exact T|exact ah.symm),hnB,hfB,hu1,hpp,fun k h=>(hup k h).elim (fun h=>.inl (hMC k h)) (fun h=>.inr (Ad szG1 h))⟩,d,dBb,c,i,hB,hF,G⟩,ka.keep (Bf (by repeat (first|exact trivial|refine And.intro rfl ?_)))⟩)
   ·
    refine Ay Fy rfl rfl (fun Z ak J ap i H=>?_)
    have N:aa.heap.size≤Z:=by rw[J];exact szD
    have T:=hbf.ne J;have K:=f.ne J;have s:=c.ne J;have j:=hA.neNew J;have D:=hF.neNew J
    have geG_5:=Gi G J
    have G:=G.trans H.agr;have hbf:=hbf.sub H;have hA:=hA.sub H;have hF:=hF.sub H;have f:=f.sub H;have c:=c.sub H;have szD:=Ad szD H.size;refine Be H.agr<|Aq 14 rfl<|Az rfl AHX (Uo A na fa nc fc hnc hfc R.r (decide (o.kind=2)) o.a hu oa M ak hA) ?_;rintro _ w9 ⟨s10,nb,fb,ncb,fcb,B,r1,e1,M1,rfl,hu1,hnB,hfB,hB,hup,hpp⟩;have szG1:=G.size;have d_hB_b:=Di hup dA hbf.lt;have d:=Di hup n c.lt;have F:=Di hup j i.lt
    have dBb:∀k,M1 k→k≠b:=d_hB_b
    have G:=G.trans s10.agr;have hbf:=hbf.sub s10;have hA:=hA.sub s10;have hF:=hF.sub s10;have f:=f.sub s10;have c:=c.sub s10;have szD:=Ad szD s10.size;have i:=i.sub s10;refine Be s10.agr<|Bp 15 rfl rfl<|Fv 16 rfl rfl rfl<|Bg 17 rfl (fun _ _=>.as (v':=.int .u64 r1) (.extract rfl rfl) (by rfl))<|Bg 18 rfl (fun _ _=>.as (v':=.int .i64 e1) (.extract rfl rfl) (by rfl))<|Aq 20 rfl<|At Cb rfl rfl rfl i (fun w11 z11 i a11=>?_)
    have G:=Dv G a11 geG_5
    have hbf:=hbf.upd a11 T;have hA:=hA.updD a11 j;have hF:=hF.updD a11 D;have f:=f.upd a11 K;have c:=c.upd a11 s;have szD:=Ad szD a11.size;have hB:=hB.updD a11 F
    have i:Has w11 Z (wvA nb fb ncb fcb B) _:=i.now (by kernel_rfl)
    refine Cv rfl (a11.mono fun k _ e=>e▸(.inr N))<|Cu 21 rfl rfl<|Cu 22 rfl rfl ?_
    exact Fb (by kernel_rfl) (fun a ka=>⟨⟨Z,B,r1,e1,nb,fb,ncb,fcb,M1⟩,⟨⟨(by first|exact s|exact ac.symm),(by first|exact T|exact ah.symm),hnB,hfB,hu1,hpp,fun k h=>(hup k h).elim (fun h=>.inl (hMC k h)) (fun h=>.inr (Ad szG1 h))⟩,d,dBb,c,i,hB,hF,G⟩,ka.keep (Bf (by repeat (first|exact trivial|refine And.intro rfl ?_)))⟩)
  obtain⟨Z,B,r1,e1,nb,fb,ncb,fcb,M1⟩:=z
  obtain⟨⟨nm4,nmb,hnB,hfB,hu1,hpp,hupM⟩,d,dBb,c,i,hB,hF,G⟩:=hJ
  simp only[] at nm4 nmb hnB hfB hu1 hpp hupM d dBb i hB
  refine Ac<|Bs (fun k=>k=b) [8,8] w3.heap.size 9 rfl rfl mxo (fun w12 s13=>?_);have X:=i.lt;have szD:=Nat.le_refl w3.heap.size;have G:=G.trans s13.agr;have c:=c.sub s13;have i:=i.sub s13;have hB:=hB.sub s13;have hF:=hF.sub s13;have szD:=Ad szD s13.size;refine Bp 0 rfl rfl<|Bg 1 rfl (fun w' s'=>.loadR (wvA nb fb ncb fcb B) Cb rfl (i.step s' (nE nmb.symm X)).row rfl)<|Bp 2 rfl rfl<|Ci 3 rfl rfl<|Bl 4 rfl Jv rfl<|Bl 5 rfl Lc rfl<|Bp 6 rfl rfl<|Bp 7 rfl rfl<|Aq 8 rfl<|Az rfl AHZ (Ul b A R C nb fb ncb fcb B hnB hfB M1 r1 e1 w12 hF hB dBb) ?_;rintro _ w14 ⟨C1,hF1,ag,hc1⟩;have G:=G.trans ag;have c:=c.upd ag ai.symm;have i:=i.upd ag nmb.symm;have szD:=Ad szD ag.size
  have dF4:∀k,C1 k→k≠S:=(fun k hk e=>(hc1 k hk).elim (fun h=>Q k h e) (fun h=>d k h e))
  have hF:=hF1
  have hup1:Up C w C1:=(fun k hk=>(hc1 k hk).elim .inl (hupM k))
  refine Cv rfl (ag.mono fun k _ e=>.inl e)<|Cp<|Ab<|Ac<|Aa rfl<|Af rfl<|Az rfl AHY (Um e1 0 0 w14) ?_;rintro _ w16 ⟨rfl,s17⟩;have G:=G.trans s17.agr;have c:=c.sub s17;have i:=i.sub s17;have hF:=hF.sub s17;refine At Hq rfl rfl rfl c (fun w18 z18 c a18=>?_)
  have G:=Dv G a18 geG_4
  have i:=i.upd a18 nm4.symm;have hF:=hF.updD a18 dF4
  have c:Has w18 S ((Lj e1 0 0).cells) _:=c.now (by kernel_rfl)
  refine Ae<|Ab<|Bo (rs:=[.cell 4 38]) (vs:=[_]) rfl rfl ⟨⟨_,rfl,.inr ⟨(Lj e1 0 0).cells,Hq,c.row,rfl⟩⟩,trivial⟩ ?_
  exact⟨_,B,r1,e1,C1,rfl,hF,G,hup1,hu1,by first|exact Ot hm hV (by omega) hpp|exact Rb hm hV (by omega) hpp⟩
 ·
  refine Aa rfl<|Bc rfl rfl rfl<|Ah rfl<|Ae<|Ab<|An rfl (fun h19=>?_) (fun h19=>?_)
  ·
   refine Hi (α:=MpS) (fun z=>[(0,.pointer (some ⟨b,0,none⟩)),(4,.pointer (some ⟨S,0,none⟩)),(5,.pointer (some ⟨z.b7,0,none⟩)),(6,.int .u64 z.r),(7,.int .i64 z.e)]) (fun z w20=>(S≠z.b7∧b≠z.b7∧z.B.nodes.length≤z.ncb∧z.B.free.length≤z.fcb∧U64 z.r∧AA2 A R.r (decide (o.kind=2)) o.a z.B z.r z.e∧(∀k,z.M k→C k∨w.heap.size≤k))∧(∀k,z.M k→k≠S)∧(∀k,z.M k→k≠b)∧Has w20 S (⟨0,0,0⟩:RsT).cells 38∧Has w20 z.b7 (wvA z.nb z.fb z.ncb z.fcb z.B) 26∧Ft z.M (fun u=>ArR u z.nb z.fb z.B) w20∧Ft C (WkO b A R C) w20∧Agr (· = b) w w20) ?_ (fun z w20 hJ=>?_)
   ·
    refine Bs (fun k=>False) [20] aa.heap.size 23 rfl rfl mxo (fun w21 s22=>?_);have ltD_b:=hbf.lt;have p:=f.lt;have szD:=Nat.le_refl aa.heap.size;have G:=G.trans s22.agr;have hbf:=hbf.sub s22;have hA:=hA.sub s22;have hF:=hF.sub s22;have f:=f.sub s22;have c:=c.sub s22;have szD:=Ad szD s22.size;refine Bp 0 rfl rfl<|Ci 1 rfl rfl<|Bl 2 rfl Oj rfl<|Bg 3 rfl (fun w' s'=>.loadR (wvA na fa nc fc A) Cb rfl (Fg (xs:=wvA na fa nc fc A) (ys:=[.int .u64 R.m,.int .u64 R.t,.int .u64 R.r,.int .u64 R.h]) (hbf.step s' (nE id ltD_b))) rfl)<|Bp 4 rfl rfl<|Ci 5 rfl rfl<|Bl 6 rfl Jv rfl<|Bl 7 rfl Lc rfl<|Ck 8 rfl Dm rfl hbf (nE id ltD_b) rfl<|Bl 9 rfl Hz rfl<|Ck 10 rfl sh3 rfl f (nE id p) rfl<|Tn 11 rfl rfl rfl rfl<|Bl 12 rfl Qe rfl<|Ck 13 rfl sh2 rfl f (nE id p) rfl<|Ej [14,19] (by kernel_rfl) rfl (Ca rfl ?_ (Ca rfl ?_ (Do)))
    ·
     refine Az rfl AHX (Uo A na fa nc fc hnc hfc R.r (decide (o.kind=2)) o.a hu oa M w21 hA) ?_;rintro _ w23 ⟨s24,nb,fb,ncb,fcb,B,r1,e1,M1,rfl,hu1,hnB,hfB,hB,hup,hpp⟩;have szG1:=G.size;have d_hB_b:=Di hup dA hbf.lt;have d:=Di hup n c.lt
     have dBb:∀k,M1 k→k≠b:=d_hB_b
     have G:=G.trans s24.agr;have hbf:=hbf.sub s24;have hA:=hA.sub s24;have hF:=hF.sub s24;have f:=f.sub s24;have c:=c.sub s24;have szD:=Ad szD s24.size;refine Be s24.agr<|Bp 15 rfl rfl<|Fv 16 rfl rfl rfl<|Bg 17 rfl (fun _ _=>.as (v':=.int .u64 r1) (.extract rfl rfl) (by rfl))<|Bg 18 rfl (fun _ _=>.as (v':=.int .i64 e1) (.extract rfl rfl) (by rfl))<|Aq 19 rfl<|Ay Fy rfl rfl (fun Z ak J ap i H=>?_)
     have N:aa.heap.size≤Z:=by rw[J];exact szD
     have T:=hbf.ne J;have K:=f.ne J;have s:=c.ne J;have j:=hA.neNew J;have D:=hF.neNew J;have F:=hB.neNew J
     have geG_5:=Gi G J
     have G:=G.trans H.agr;have hbf:=hbf.sub H;have hA:=hA.sub H;have hF:=hF.sub H;have f:=f.sub H;have c:=c.sub H;have szD:=Ad szD H.size;have hB:=hB.sub H;refine Be H.agr<|Aq 20 rfl<|At Cb rfl rfl rfl i (fun w25 z25 i a25=>?_)
     have G:=Dv G a25 geG_5
     have hbf:=hbf.upd a25 T;have hA:=hA.updD a25 j;have hF:=hF.updD a25 D;have f:=f.upd a25 K;have c:=c.upd a25 s;have szD:=Ad szD a25.size;have hB:=hB.updD a25 F
     have i:Has w25 Z (wvA nb fb ncb fcb B) _:=i.now (by kernel_rfl)
     refine Cv rfl (a25.mono fun k _ e=>e▸(.inr N))<|Cu 21 rfl rfl<|Cu 22 rfl rfl ?_
     exact Fb (by kernel_rfl) (fun a ka=>⟨⟨Z,B,r1,e1,nb,fb,ncb,fcb,M1⟩,⟨⟨(by first|exact s|exact ac.symm),(by first|exact T|exact ah.symm),hnB,hfB,hu1,hpp,fun k h=>(hup k h).elim (fun h=>.inl (hMC k h)) (fun h=>.inr (Ad szG1 h))⟩,d,dBb,c,i,hB,hF,G⟩,ka.keep (Bf (by repeat (first|exact trivial|refine And.intro rfl ?_)))⟩)
    ·
     refine Ay Fy rfl rfl (fun Z ak J ap i H=>?_)
     have N:aa.heap.size≤Z:=by rw[J];exact szD
     have T:=hbf.ne J;have K:=f.ne J;have s:=c.ne J;have j:=hA.neNew J;have D:=hF.neNew J
     have geG_5:=Gi G J
     have G:=G.trans H.agr;have hbf:=hbf.sub H;have hA:=hA.sub H;have hF:=hF.sub H;have f:=f.sub H;have c:=c.sub H;have szD:=Ad szD H.size;refine Be H.agr<|Aq 14 rfl<|Az rfl AHX (Uo A na fa nc fc hnc hfc R.r (decide (o.kind=2)) o.a hu oa M ak hA) ?_;rintro _ w26 ⟨s27,nb,fb,ncb,fcb,B,r1,e1,M1,rfl,hu1,hnB,hfB,hB,hup,hpp⟩;have szG1:=G.size;have d_hB_b:=Di hup dA hbf.lt;have d:=Di hup n c.lt;have F:=Di hup j i.lt
     have dBb:∀k,M1 k→k≠b:=d_hB_b
     have G:=G.trans s27.agr;have hbf:=hbf.sub s27;have hA:=hA.sub s27;have hF:=hF.sub s27;have f:=f.sub s27;have c:=c.sub s27;have szD:=Ad szD s27.size;have i:=i.sub s27;refine Be s27.agr<|Bp 15 rfl rfl<|Fv 16 rfl rfl rfl<|Bg 17 rfl (fun _ _=>.as (v':=.int .u64 r1) (.extract rfl rfl) (by rfl))<|Bg 18 rfl (fun _ _=>.as (v':=.int .i64 e1) (.extract rfl rfl) (by rfl))<|Aq 20 rfl<|At Cb rfl rfl rfl i (fun w28 z28 i a28=>?_)
     have G:=Dv G a28 geG_5
     have hbf:=hbf.upd a28 T;have hA:=hA.updD a28 j;have hF:=hF.updD a28 D;have f:=f.upd a28 K;have c:=c.upd a28 s;have szD:=Ad szD a28.size;have hB:=hB.updD a28 F
     have i:Has w28 Z (wvA nb fb ncb fcb B) _:=i.now (by kernel_rfl)
     refine Cv rfl (a28.mono fun k _ e=>e▸(.inr N))<|Cu 21 rfl rfl<|Cu 22 rfl rfl ?_
     exact Fb (by kernel_rfl) (fun a ka=>⟨⟨Z,B,r1,e1,nb,fb,ncb,fcb,M1⟩,⟨⟨(by first|exact s|exact ac.symm),(by first|exact T|exact ah.symm),hnB,hfB,hu1,hpp,fun k h=>(hup k h).elim (fun h=>.inl (hMC k h)) (fun h=>.inr (Ad szG1 h))⟩,d,dBb,c,i,hB,hF,G⟩,ka.keep (Bf (by repeat (first|exact trivial|refine And.intro rfl ?_)))⟩)
   obtain⟨Z,B,r1,e1,nb,fb,ncb,fcb,M1⟩:=z
   obtain⟨⟨nm4,nmb,hnB,hfB,hu1,hpp,hupM⟩,d,dBb,c,i,hB,hF,G⟩:=hJ
   simp only[] at nm4 nmb hnB hfB hu1 hpp hupM d dBb i hB
   refine Ac<|Bs (fun k=>k=b) [8,8] w20.heap.size 9 rfl rfl mxo (fun w29 s30=>?_);have X:=i.lt;have szD:=Nat.le_refl w20.heap.size;have G:=G.trans s30.agr;have c:=c.sub s30;have i:=i.sub s30;have hB:=hB.sub s30;have hF:=hF.sub s30;have szD:=Ad szD s30.size;refine Bp 0 rfl rfl<|Bg 1 rfl (fun w' s'=>.loadR (wvA nb fb ncb fcb B) Cb rfl (i.step s' (nE nmb.symm X)).row rfl)<|Bp 2 rfl rfl<|Ci 3 rfl rfl<|Bl 4 rfl Jv rfl<|Bl 5 rfl Lc rfl<|Bp 6 rfl rfl<|Bp 7 rfl rfl<|Aq 8 rfl<|Az rfl AHZ (Ul b A R C nb fb ncb fcb B hnB hfB M1 r1 e1 w29 hF hB dBb) ?_;rintro _ w31 ⟨C1,hF1,ag,hc1⟩;have G:=G.trans ag;have c:=c.upd ag ai.symm;have szD:=Ad szD ag.size
   have dF4:∀k,C1 k→k≠S:=(fun k hk e=>(hc1 k hk).elim (fun h=>Q k h e) (fun h=>d k h e))
   have hF:=hF1
   have hup1:Up C w C1:=(fun k hk=>(hc1 k hk).elim .inl (hupM k))
   refine Cv rfl (ag.mono fun k _ e=>.inl e)<|Cp<|Ab<|Ac<|Aa rfl<|Af rfl<|Az rfl AHY (Um e1 0 0 w31) ?_;rintro _ w33 ⟨rfl,s34⟩;have G:=G.trans s34.agr;have c:=c.sub s34;have hF:=hF.sub s34;refine At Hq rfl rfl rfl c (fun w35 z35 c a35=>?_)
   have G:=Dv G a35 geG_4
   have hF:=hF.updD a35 dF4
   have c:Has w35 S ((Lj e1 0 0).cells) _:=c.now (by kernel_rfl)
   refine Ae<|Ab<|Bo (rs:=[.cell 4 38]) (vs:=[_]) rfl rfl ⟨⟨_,rfl,.inr ⟨(Lj e1 0 0).cells,Hq,c.row,rfl⟩⟩,trivial⟩ ?_
   exact⟨_,B,r1,e1,C1,rfl,hF,G,hup1,hu1,by first|exact Ot hm hV (by omega) hpp|exact Rb hm hV (by omega) hpp⟩
  ·
   refine Ac<|Ac<|Aa rfl<|Bc rfl rfl rfl<|Ah rfl<|Ae<|Ab<|An rfl (fun h36=>?_) (fun h36=>?_)
   ·
    refine Ao<|Ab<|An rfl (fun h37=>?_) (fun h37=>absurd h36 h37);refine Hi (α:=MpV) (fun z=>[(0,.pointer (some ⟨b,0,none⟩)),(4,.pointer (some ⟨S,0,none⟩)),(8,.pointer (some ⟨z.b7,0,none⟩)),(9,.int .u64 z.r),(10,.int .i64 z.v),(11,.int .i64 z.e)]) (fun z w38=>(S≠z.b7∧b≠z.b7∧z.B.nodes.length≤z.ncb∧z.B.free.length≤z.fcb∧U64 z.r∧AJg A R.r (decide (o.kind=3)) z.B z.r z.v z.e∧(∀k,z.M k→C k∨w.heap.size≤k))∧(∀k,z.M k→k≠S)∧(∀k,z.M k→k≠b)∧Has w38 S (⟨0,0,0⟩:RsT).cells 38∧Has w38 z.b7 (wvA z.nb z.fb z.ncb z.fcb z.B) 26∧Ft z.M (fun u=>ArR u z.nb z.fb z.B) w38∧Ft C (WkO b A R C) w38∧Agr (· = b) w w38) ?_ (fun z w38 hJ=>?_)
    ·
     refine Bs (fun k=>False) [19] aa.heap.size 23 rfl rfl mxo (fun w39 s40=>?_);have ltD_b:=hbf.lt;have p:=f.lt;have szD:=Nat.le_refl aa.heap.size;have G:=G.trans s40.agr;have hbf:=hbf.sub s40;have hA:=hA.sub s40;have hF:=hF.sub s40;have f:=f.sub s40;have c:=c.sub s40;have szD:=Ad szD s40.size;refine Bp 0 rfl rfl<|Ci 1 rfl rfl<|Bl 2 rfl Oj rfl<|Bg 3 rfl (fun w' s'=>.loadR (wvA na fa nc fc A) Cb rfl (Fg (xs:=wvA na fa nc fc A) (ys:=[.int .u64 R.m,.int .u64 R.t,.int .u64 R.r,.int .u64 R.h]) (hbf.step s' (nE id ltD_b))) rfl)<|Bp 4 rfl rfl<|Ci 5 rfl rfl<|Bl 6 rfl Jv rfl<|Bl 7 rfl Lc rfl<|Ck 8 rfl Dm rfl hbf (nE id ltD_b) rfl<|Bl 9 rfl Hz rfl<|Ck 10 rfl sh3 rfl f (nE id p) rfl<|Tn 11 rfl rfl rfl rfl<|Ej [12,18] (by kernel_rfl) rfl (Ca rfl ?_ (Ca rfl ?_ (Do)))
     ·
      refine Az rfl AHW (AAO A na fa nc fc hnc hfc R.r (decide (o.kind=3)) hu M w39 hA) ?_;rintro _ w41 ⟨s42,nb,fb,ncb,fcb,B,r1,v1,e1,M1,rfl,hu1,hv1,hnB,hfB,hB,hup,_,_,hpp⟩;have szG1:=G.size;have d_hB_b:=Di hup dA hbf.lt;have d:=Di hup n c.lt
      have dBb:∀k,M1 k→k≠b:=d_hB_b
      have G:=G.trans s42.agr;have hbf:=hbf.sub s42;have hA:=hA.sub s42;have hF:=hF.sub s42;have f:=f.sub s42;have c:=c.sub s42;have szD:=Ad szD s42.size;refine Be s42.agr<|Bp 13 rfl rfl<|Fv 14 rfl rfl rfl<|Bg 15 rfl (fun _ _=>.as (v':=.int .u64 r1) (.extract rfl rfl) (by rfl))<|Bg 16 rfl (fun _ _=>.as (v':=.int .i64 v1) (.extract rfl rfl) (by rfl))<|Bg 17 rfl (fun _ _=>.as (v':=.int .i64 e1) (.extract rfl rfl) (by rfl))<|Aq 18 rfl<|Ay Fy rfl rfl (fun Y aj O ao g I=>?_)
      have L:aa.heap.size≤Y:=by rw[O];exact szD
      have U:=hbf.ne O;have ad:=f.ne O;have q:=c.ne O;have l:=hA.neNew O;have y:=hF.neNew O;have E:=hB.neNew O
      have geG_8:=Gi G O
      have G:=G.trans I.agr;have hbf:=hbf.sub I;have hA:=hA.sub I;have hF:=hF.sub I;have f:=f.sub I;have c:=c.sub I;have szD:=Ad szD I.size;have hB:=hB.sub I;refine Be I.agr<|Aq 19 rfl<|At Cb rfl rfl rfl g (fun w43 z43 g a43=>?_)
      have G:=Dv G a43 geG_8
      have hbf:=hbf.upd a43 U;have hA:=hA.updD a43 l;have hF:=hF.updD a43 y;have f:=f.upd a43 ad;have c:=c.upd a43 q;have szD:=Ad szD a43.size;have hB:=hB.updD a43 E
      have g:Has w43 Y (wvA nb fb ncb fcb B) _:=g.now (by kernel_rfl)
      refine Cv rfl (a43.mono fun k _ e=>e▸(.inr L))<|Cu 20 rfl rfl<|Cu 21 rfl rfl<|Cu 22 rfl rfl ?_
      exact Fb (by kernel_rfl) (fun a ka=>⟨⟨Y,B,r1,v1,e1,nb,fb,ncb,fcb,M1⟩,⟨⟨(by first|exact q|exact ab.symm),(by first|exact U|exact ae.symm),hnB,hfB,hu1,hpp,fun k h=>(hup k h).elim (fun h=>.inl (hMC k h)) (fun h=>.inr (Ad szG1 h))⟩,d,dBb,c,g,hB,hF,G⟩,ka.keep (Bf (by repeat (first|exact trivial|refine And.intro rfl ?_)))⟩)
     ·
      refine Ay Fy rfl rfl (fun Y aj O ao g I=>?_)
      have L:aa.heap.size≤Y:=by rw[O];exact szD
      have U:=hbf.ne O;have ad:=f.ne O;have q:=c.ne O;have l:=hA.neNew O;have y:=hF.neNew O
      have geG_8:=Gi G O
      have G:=G.trans I.agr;have hbf:=hbf.sub I;have hA:=hA.sub I;have hF:=hF.sub I;have f:=f.sub I;have c:=c.sub I;have szD:=Ad szD I.size;refine Be I.agr<|Aq 12 rfl<|Az rfl AHW (AAO A na fa nc fc hnc hfc R.r (decide (o.kind=3)) hu M aj hA) ?_;rintro _ w44 ⟨s45,nb,fb,ncb,fcb,B,r1,v1,e1,M1,rfl,hu1,hv1,hnB,hfB,hB,hup,_,_,hpp⟩;have szG1:=G.size;have d_hB_b:=Di hup dA hbf.lt;have d:=Di hup n c.lt;have E:=Di hup l g.lt
      have dBb:∀k,M1 k→k≠b:=d_hB_b
      have G:=G.trans s45.agr;have hbf:=hbf.sub s45;have hA:=hA.sub s45;have hF:=hF.sub s45;have f:=f.sub s45;have c:=c.sub s45;have szD:=Ad szD s45.size;have g:=g.sub s45;refine Be s45.agr<|Bp 13 rfl rfl<|Fv 14 rfl rfl rfl<|Bg 15 rfl (fun _ _=>.as (v':=.int .u64 r1) (.extract rfl rfl) (by rfl))<|Bg 16 rfl (fun _ _=>.as (v':=.int .i64 v1) (.extract rfl rfl) (by rfl))<|Bg 17 rfl (fun _ _=>.as (v':=.int .i64 e1) (.extract rfl rfl) (by rfl))<|Aq 19 rfl<|At Cb rfl rfl rfl g (fun w46 z46 g a46=>?_)
      have G:=Dv G a46 geG_8
      have hbf:=hbf.upd a46 U;have hA:=hA.updD a46 l;have hF:=hF.updD a46 y;have f:=f.upd a46 ad;have c:=c.upd a46 q;have szD:=Ad szD a46.size;have hB:=hB.updD a46 E
      have g:Has w46 Y (wvA nb fb ncb fcb B) _:=g.now (by kernel_rfl)
      refine Cv rfl (a46.mono fun k _ e=>e▸(.inr L))<|Cu 20 rfl rfl<|Cu 21 rfl rfl<|Cu 22 rfl rfl ?_
      exact Fb (by kernel_rfl) (fun a ka=>⟨⟨Y,B,r1,v1,e1,nb,fb,ncb,fcb,M1⟩,⟨⟨(by first|exact q|exact ab.symm),(by first|exact U|exact ae.symm),hnB,hfB,hu1,hpp,fun k h=>(hup k h).elim (fun h=>.inl (hMC k h)) (fun h=>.inr (Ad szG1 h))⟩,d,dBb,c,g,hB,hF,G⟩,ka.keep (Bf (by repeat (first|exact trivial|refine And.intro rfl ?_)))⟩)
    obtain⟨Y,B,r1,v1,e1,nb,fb,ncb,fcb,M1⟩:=z
    obtain⟨⟨nm4,nmb,hnB,hfB,hu1,hpp,hupM⟩,d,dBb,c,g,hB,hF,G⟩:=hJ
    simp only[] at nm4 nmb hnB hfB hu1 hpp hupM d dBb g hB
    refine Ac<|Bs (fun k=>k=b) [8,8] w38.heap.size 9 rfl rfl mxo (fun w47 s48=>?_);have W:=g.lt;have szD:=Nat.le_refl w38.heap.size;have G:=G.trans s48.agr;have c:=c.sub s48;have g:=g.sub s48;have hB:=hB.sub s48;have hF:=hF.sub s48;have szD:=Ad szD s48.size;refine Bp 0 rfl rfl<|Bg 1 rfl (fun w' s'=>.loadR (wvA nb fb ncb fcb B) Cb rfl (g.step s' (nE nmb.symm W)).row rfl)<|Bp 2 rfl rfl<|Ci 3 rfl rfl<|Bl 4 rfl Jv rfl<|Bl 5 rfl Lc rfl<|Bp 6 rfl rfl<|Bp 7 rfl rfl<|Aq 8 rfl<|Az rfl AHZ (Ul b A R C nb fb ncb fcb B hnB hfB M1 r1 e1 w47 hF hB dBb) ?_;rintro _ w49 ⟨C1,hF1,ag,hc1⟩;have G:=G.trans ag;have c:=c.upd ag ai.symm;have g:=g.upd ag nmb.symm;have szD:=Ad szD ag.size
    have dF4:∀k,C1 k→k≠S:=(fun k hk e=>(hc1 k hk).elim (fun h=>Q k h e) (fun h=>d k h e))
    have hF:=hF1
    have hup1:Up C w C1:=(fun k hk=>(hc1 k hk).elim .inl (hupM k))
    refine Cv rfl (ag.mono fun k _ e=>.inl e)<|Cp<|Ab<|Ac<|Aa rfl<|Af rfl<|Af rfl<|Az rfl AHY (Um e1 v1 0 w49) ?_;rintro _ w51 ⟨rfl,s52⟩;have G:=G.trans s52.agr;have c:=c.sub s52;have g:=g.sub s52;have hF:=hF.sub s52;refine At Hq rfl rfl rfl c (fun w53 z53 c a53=>?_)
    have G:=Dv G a53 geG_4
    have g:=g.upd a53 nm4.symm;have hF:=hF.updD a53 dF4
    have c:Has w53 S ((Lj e1 v1 0).cells) _:=c.now (by kernel_rfl)
    refine Ae<|Ab<|Bo (rs:=[.cell 4 38]) (vs:=[_]) rfl rfl ⟨⟨_,rfl,.inr ⟨(Lj e1 v1 0).cells,Hq,c.row,rfl⟩⟩,trivial⟩ ?_
    exact⟨_,B,r1,e1,C1,rfl,hF,G,hup1,hu1,by first|exact Ot hm hV (by omega) hpp|exact Rb hm hV (by omega) hpp⟩
   ·
    refine Aa rfl<|Bc rfl rfl rfl<|Ah rfl<|Ae<|Ab<|An rfl (fun h54=>?_) (fun h54=>?_)
    ·
     refine Hi (α:=MpV) (fun z=>[(0,.pointer (some ⟨b,0,none⟩)),(4,.pointer (some ⟨S,0,none⟩)),(8,.pointer (some ⟨z.b7,0,none⟩)),(9,.int .u64 z.r),(10,.int .i64 z.v),(11,.int .i64 z.e)]) (fun z w55=>(S≠z.b7∧b≠z.b7∧z.B.nodes.length≤z.ncb∧z.B.free.length≤z.fcb∧U64 z.r∧AJg A R.r (decide (o.kind=3)) z.B z.r z.v z.e∧(∀k,z.M k→C k∨w.heap.size≤k))∧(∀k,z.M k→k≠S)∧(∀k,z.M k→k≠b)∧Has w55 S (⟨0,0,0⟩:RsT).cells 38∧Has w55 z.b7 (wvA z.nb z.fb z.ncb z.fcb z.B) 26∧Ft z.M (fun u=>ArR u z.nb z.fb z.B) w55∧Ft C (WkO b A R C) w55∧Agr (· = b) w w55) ?_ (fun z w55 hJ=>?_)
     ·
      refine Bs (fun k=>False) [19] aa.heap.size 23 rfl rfl mxo (fun w56 s57=>?_);have ltD_b:=hbf.lt;have p:=f.lt;have szD:=Nat.le_refl aa.heap.size;have G:=G.trans s57.agr;have hbf:=hbf.sub s57;have hA:=hA.sub s57;have hF:=hF.sub s57;have f:=f.sub s57;have c:=c.sub s57;have szD:=Ad szD s57.size;refine Bp 0 rfl rfl<|Ci 1 rfl rfl<|Bl 2 rfl Oj rfl<|Bg 3 rfl (fun w' s'=>.loadR (wvA na fa nc fc A) Cb rfl (Fg (xs:=wvA na fa nc fc A) (ys:=[.int .u64 R.m,.int .u64 R.t,.int .u64 R.r,.int .u64 R.h]) (hbf.step s' (nE id ltD_b))) rfl)<|Bp 4 rfl rfl<|Ci 5 rfl rfl<|Bl 6 rfl Jv rfl<|Bl 7 rfl Lc rfl<|Ck 8 rfl Dm rfl hbf (nE id ltD_b) rfl<|Bl 9 rfl Hz rfl<|Ck 10 rfl sh3 rfl f (nE id p) rfl<|Tn 11 rfl rfl rfl rfl<|Ej [12,18] (by kernel_rfl) rfl (Ca rfl ?_ (Ca rfl ?_ (Do)))
      ·
       refine Az rfl AHW (AAO A na fa nc fc hnc hfc R.r (decide (o.kind=3)) hu M w56 hA) ?_;rintro _ w58 ⟨s59,nb,fb,ncb,fcb,B,r1,v1,e1,M1,rfl,hu1,hv1,hnB,hfB,hB,hup,_,_,hpp⟩;have szG1:=G.size;have d_hB_b:=Di hup dA hbf.lt;have d:=Di hup n c.lt
       have dBb:∀k,M1 k→k≠b:=d_hB_b
       have G:=G.trans s59.agr;have hbf:=hbf.sub s59;have hA:=hA.sub s59;have hF:=hF.sub s59;have c:=c.sub s59;have szD:=Ad szD s59.size;refine Be s59.agr<|Bp 13 rfl rfl<|Fv 14 rfl rfl rfl<|Bg 15 rfl (fun _ _=>.as (v':=.int .u64 r1) (.extract rfl rfl) (by rfl))<|Bg 16 rfl (fun _ _=>.as (v':=.int .i64 v1) (.extract rfl rfl) (by rfl))<|Bg 17 rfl (fun _ _=>.as (v':=.int .i64 e1) (.extract rfl rfl) (by rfl))<|Aq 18 rfl<|Ay Fy rfl rfl (fun Y aj O ao g I=>?_)
       have L:aa.heap.size≤Y:=by rw[O];exact szD
       have U:=hbf.ne O;have q:=c.ne O;have l:=hA.neNew O;have y:=hF.neNew O;have E:=hB.neNew O
       have geG_8:=Gi G O
       have G:=G.trans I.agr;have hbf:=hbf.sub I;have hA:=hA.sub I;have hF:=hF.sub I;have c:=c.sub I;have szD:=Ad szD I.size;have hB:=hB.sub I;refine Be I.agr<|Aq 19 rfl<|At Cb rfl rfl rfl g (fun w60 z60 g a60=>?_)
       have G:=Dv G a60 geG_8
       have hbf:=hbf.upd a60 U;have hA:=hA.updD a60 l;have hF:=hF.updD a60 y;have c:=c.upd a60 q;have szD:=Ad szD a60.size;have hB:=hB.updD a60 E
       have g:Has w60 Y (wvA nb fb ncb fcb B) _:=g.now (by kernel_rfl)
       refine Cv rfl (a60.mono fun k _ e=>e▸(.inr L))<|Cu 20 rfl rfl<|Cu 21 rfl rfl<|Cu 22 rfl rfl ?_
       exact Fb (by kernel_rfl) (fun a ka=>⟨⟨Y,B,r1,v1,e1,nb,fb,ncb,fcb,M1⟩,⟨⟨(by first|exact q|exact ab.symm),(by first|exact U|exact ae.symm),hnB,hfB,hu1,hpp,fun k h=>(hup k h).elim (fun h=>.inl (hMC k h)) (fun h=>.inr (Ad szG1 h))⟩,d,dBb,c,g,hB,hF,G⟩,ka.keep (Bf (by repeat (first|exact trivial|refine And.intro rfl ?_)))⟩)
      ·
       refine Ay Fy rfl rfl (fun Y aj O ao g I=>?_)
       have L:aa.heap.size≤Y:=by rw[O];exact szD
       have U:=hbf.ne O;have q:=c.ne O;have l:=hA.neNew O;have y:=hF.neNew O
       have geG_8:=Gi G O
       have G:=G.trans I.agr;have hbf:=hbf.sub I;have hA:=hA.sub I;have hF:=hF.sub I;have c:=c.sub I;refine Be I.agr<|Aq 12 rfl<|Az rfl AHW (AAO A na fa nc fc hnc hfc R.r (decide (o.kind=3)) hu M aj hA) ?_;rintro _ w61 ⟨s62,nb,fb,ncb,fcb,B,r1,v1,e1,M1,rfl,hu1,hv1,hnB,hfB,hB,hup,_,_,hpp⟩;have szG1:=G.size;have d_hB_b:=Di hup dA hbf.lt;have d:=Di hup n c.lt;have E:=Di hup l g.lt
       have dBb:∀k,M1 k→k≠b:=d_hB_b
       have G:=G.trans s62.agr;have hF:=hF.sub s62;have c:=c.sub s62;have g:=g.sub s62;refine Be s62.agr<|Bp 13 rfl rfl<|Fv 14 rfl rfl rfl<|Bg 15 rfl (fun _ _=>.as (v':=.int .u64 r1) (.extract rfl rfl) (by rfl))<|Bg 16 rfl (fun _ _=>.as (v':=.int .i64 v1) (.extract rfl rfl) (by rfl))<|Bg 17 rfl (fun _ _=>.as (v':=.int .i64 e1) (.extract rfl rfl) (by rfl))<|Aq 19 rfl<|At Cb rfl rfl rfl g (fun w63 z63 g a63=>?_)
       have G:=Dv G a63 geG_8
       have hF:=hF.updD a63 y;have c:=c.upd a63 q;have hB:=hB.updD a63 E
       have g:Has w63 Y (wvA nb fb ncb fcb B) _:=g.now (by kernel_rfl)
       refine Cv rfl (a63.mono fun k _ e=>e▸(.inr L))<|Cu 20 rfl rfl<|Cu 21 rfl rfl<|Cu 22 rfl rfl ?_
       exact Fb (by kernel_rfl) (fun a ka=>⟨⟨Y,B,r1,v1,e1,nb,fb,ncb,fcb,M1⟩,⟨⟨(by first|exact q|exact ab.symm),(by first|exact U|exact ae.symm),hnB,hfB,hu1,hpp,fun k h=>(hup k h).elim (fun h=>.inl (hMC k h)) (fun h=>.inr (Ad szG1 h))⟩,d,dBb,c,g,hB,hF,G⟩,ka.keep (Bf (by repeat (first|exact trivial|refine And.intro rfl ?_)))⟩)
     obtain⟨Y,B,r1,v1,e1,nb,fb,ncb,fcb,M1⟩:=z
     obtain⟨⟨nm4,nmb,hnB,hfB,hu1,hpp,hupM⟩,d,dBb,c,g,hB,hF,G⟩:=hJ
     simp only[] at nm4 nmb hnB hfB hu1 hpp hupM d dBb g hB
     refine Ac<|Bs (fun k=>k=b) [8,8] w55.heap.size 9 rfl rfl mxo (fun w64 s65=>?_);have W:=g.lt;have G:=G.trans s65.agr;have c:=c.sub s65;have g:=g.sub s65;have hB:=hB.sub s65;have hF:=hF.sub s65;refine Bp 0 rfl rfl<|Bg 1 rfl (fun w' s'=>.loadR (wvA nb fb ncb fcb B) Cb rfl (g.step s' (nE nmb.symm W)).row rfl)<|Bp 2 rfl rfl<|Ci 3 rfl rfl<|Bl 4 rfl Jv rfl<|Bl 5 rfl Lc rfl<|Bp 6 rfl rfl<|Bp 7 rfl rfl<|Aq 8 rfl<|Az rfl AHZ (Ul b A R C nb fb ncb fcb B hnB hfB M1 r1 e1 w64 hF hB dBb) ?_;rintro _ w66 ⟨C1,hF1,ag,hc1⟩;have G:=G.trans ag;have c:=c.upd ag ai.symm
     have dF4:∀k,C1 k→k≠S:=(fun k hk e=>(hc1 k hk).elim (fun h=>Q k h e) (fun h=>d k h e))
     have hF:=hF1
     have hup1:Up C w C1:=(fun k hk=>(hc1 k hk).elim .inl (hupM k))
     refine Cv rfl (ag.mono fun k _ e=>.inl e)<|Cp<|Ab<|Ac<|Aa rfl<|Af rfl<|Af rfl<|Az rfl AHY (Um e1 v1 0 w66) ?_;rintro _ w68 ⟨rfl,s69⟩;have G:=G.trans s69.agr;have c:=c.sub s69;have hF:=hF.sub s69;refine At Hq rfl rfl rfl c (fun w70 z70 c a70=>?_)
     have G:=Dv G a70 geG_4
     have hF:=hF.updD a70 dF4
     have c:Has w70 S ((Lj e1 v1 0).cells) _:=c.now (by kernel_rfl)
     refine Ae<|Ab<|Bo (rs:=[.cell 4 38]) (vs:=[_]) rfl rfl ⟨⟨_,rfl,.inr ⟨(Lj e1 v1 0).cells,Hq,c.row,rfl⟩⟩,trivial⟩ ?_
     exact⟨_,B,r1,e1,C1,rfl,hF,G,hup1,hu1,by first|exact Ot hm hV (by omega) hpp|exact Rb hm hV (by omega) hpp⟩
    ·
     refine Ac<|Aa rfl<|Bc rfl rfl rfl<|Ah rfl<|Ae<|Ab<|An rfl (fun h71=>?_) (fun h71=>?_)
     ·
      exact absurd hk (by omega)
     ·
      exact absurd hk (by omega)
theorem HF.ext{A B:Ar}{r:Int}{P:List Int}{L:List It}(h:HF A r P L)(e:Ext A B):HF B r P L:=by
 induction h with
 |nil=>exact .nil
 |node g1 g2 g3 g4 _ _ ih1 ih2=>exact .node (e.get g1) g2 g3 g4 ih1 ih2
theorem IsP.ext{A B:Ar}{r:Int}{P:List Int}{L:List It}(h:IsP A r P L)(e:Ext A B):IsP B r P L:=by
 refine⟨h.hf.ext e,h.nd,h.len,?_⟩
 have h1:=h.one
 cases h.hf with
 |nil=>unfold Qr;rw[Jp]
 |node g1 _ _ _ _ _ =>
  unfold Qr at h1 ⊢
  rw[g1] at h1
  rw[e.get g1]
  exact h1
theorem IsC.ext{A B:Ar}{R:Rt}{m:Mo}(h:IsC A R m)(e:Ext A B)(hB:AOk B):IsC B R m :=
 ⟨hB,e.isT h.map,h.mapl,let ⟨T,h1,h2⟩:=h.tab;⟨T,h1.ext e,h2⟩,h.tabs,let ⟨P,h1⟩:=h.row;⟨P,h1.ext e⟩,h.rowl,let ⟨P,L,h1,h2⟩:=h.heap;⟨P,L,h1.ext e,h2⟩,h.heaps,h.keys⟩
structure DoG (A:Ar) (R:Rt) (m:Mo) (o:OpT) (x:RsT) (B:Ar) (R2:Rt):Prop where
 ok:AOk B
 ext:Ext A B
 rok:R2.ok
 out:(x=⟨2,0,0⟩∧B=A∧R2=R∧A.free.length<m.row.length+2)∨(IsC B R2 (doM m o).1∧x=rsR (doM m o).2∧A.free.length≤B.free.length+(m.row.length+2))
theorem AB4{A B:Ar}{R:Rt}{m:Mo}{o:OpT}{x:RsT}{r1 e1:Int}(hR:R.ok)(h0:R.h=0)(hC:IsC A R m)(hb:o.box=3)(hu:U64 r1)(h:ADH A m.row o x B r1 e1):DoG A R m o x (if e1=0 then B else A) (if e1=0 then {R with r:=r1} else R):=by
 have hd:doM m o=({m with row:=(Gw m.row o).1},(Gw m.row o).2):=by unfold doM;rw[if_neg (by omega),if_neg (by omega),if_pos hb]
 rcases h with⟨he,h1,h2,h3,⟨P,h4⟩,h5⟩|⟨he,h1,h2⟩|⟨he,h1,h2⟩
 ·rw[if_pos he,if_pos he]
  have hX:=hC.ext h1 h2
  exact⟨h2,h1,⟨hR.1,hR.2.1,hu,hR.2.2.2⟩,.inr ⟨by rw[hd];exact⟨h2,hX.map,hX.mapl,hX.tab,hX.tabs,⟨P,h4⟩,AGT hC.rowl,hX.heap,hX.heaps,hX.keys⟩,by rw[hd];exact h5,h3⟩⟩
 ·rw[if_neg (by omega),if_neg (by omega)]
  exact⟨hC.ok,.refl A,hR,.inl ⟨h1,rfl,rfl,h2⟩⟩
 ·rw[if_neg he,if_neg he]
  refine⟨hC.ok,.refl A,hR,.inr ⟨?_,by rw[hd];exact h2,by omega⟩⟩
  rw[hd]
  show IsC A R {m with row:=(Gw m.row o).1}
  rw[h1];exact hC
set_option maxHeartbeats 4000000 in
theorem AMF(A:Ar)(na fa:Option Addr)(nc fc:Nat)(hnc:A.nodes.length≤nc)(hfc:A.free.length≤fc)(R:Rt)(hR:R.ok)(h0:R.h=0)(m:Mo)(hC:IsC A R m)(o:OpT)(ho:o.ok)(hok:okP o)(hb:o.box=3)(hk:(o.kind=2∨o.kind=4)∨(o.kind=3∨o.kind=5))(M:Nat→Prop)(w:World)(hA:Ft M (fun u=>ArR u na fa A) w):
  FC Tryz.prog 12 [arV na fa nc fc A,R.val,.agg o.cells.toArray] w (fun v w'=>Sub w w'∧∃x B R2 nb fb ncb fcb M',v=.tuple #[arV nb fb ncb fcb B,R2.val,x.val,.int .i64 0]∧B.nodes.length≤ncb∧B.free.length≤fcb∧Ft M' (fun u=>ArR u nb fb B) w'∧Up M w M'∧(R2.h=0∧R2.m=R.m∧R2.t=R.t)∧DoG A R m o x B R2):=by
 obtain⟨P,hV⟩:=hC.row
 have hrow:=hC.isRow
 refine As Tryz.func12 rfl Tryz.ntmps12 rfl ?_
 have S:=Ax w
 refine Ac<|Aa rfl<|Bu rfl rfl rfl (fun a9 a5 bj bf f ax=>?_);have S:=S.trans ax;have hA:=hA.sub ax
 have f:Has a5 a9 ([.slice na A.nodes.length nc,.slice fa A.free.length fc]) _:=f
 refine Bu rfl rfl rfl (fun a8 a4 bi be i au=>?_);have S:=S.trans au;have hA:=hA.sub au;have f:=f.sub au
 have i:Has a4 a8 (R.cells) _:=i
 refine Bu rfl rfl rfl (fun az a3 a6 bd d ao=>?_);have Z:=hA.neNew a6;have S:=S.trans ao;have hA:=hA.sub ao;have f:=f.sub ao;have i:=i.sub ao
 have d:Has a3 az (o.cells) _:=d
 refine Ay Fy rfl rfl (fun an bh ay bc a ae=>?_);have aj:=S.le ay;have Y:=hA.neNew ay;have S:=S.trans ae;have hA:=hA.sub ae;have f:=f.sub ae;have i:=i.sub ae;have d:=d.sub ae;refine Ay AE7 rfl rfl (fun am bg av bb b ad=>?_);have ai:=S.le av;have T:=a.ne av;have X:=hA.neNew av;have S:=S.trans ad;have hA:=hA.sub ad;have f:=f.sub ad;have i:=i.sub ad;have d:=d.sub ad;have a:=a.sub ad;refine Ay Nh rfl rfl (fun al a2 ap ba c ac=>?_);have ah:=S.le ap;have Q:=a.ne ap;have O:=b.ne ap;have W:=hA.neNew ap;have S:=S.trans ac;have hA:=hA.sub ac;have f:=f.sub ac;have i:=i.sub ac;have d:=d.sub ac;have a:=a.sub ac;have b:=b.sub ac;refine Ah rfl<|Ae<|Ab<|Ac<|Ac<|Aa rfl<|Ak (.loadR ([.slice na A.nodes.length nc,.slice fa A.free.length fc]) Cb rfl f.row rfl)<|Ak (.loadR (R.cells) Nf rfl i.row rfl)<|Az rfl AKh (Zm A na fa nc fc hnc hfc R hR h0 m hC a2 hA.now) ?_;rintro _ w1 ⟨rfl,s2⟩;have S:=S.trans s2;have hA:=hA.sub s2;have f:=f.sub s2;have i:=i.sub s2;have d:=d.sub s2;have a:=a.sub s2;have b:=b.sub s2;have c:=c.sub s2;refine Ak (.not rfl)<|Af rfl<|Ak (.loadR (o.cells) Uc rfl d.row rfl)<|Az rfl AJc (FC.yes (Td o w1) hok) ?_;rintro _ w3 ⟨rfl,s4⟩;have S:=S.trans s4;have hA:=hA.sub s4;have f:=f.sub s4;have i:=i.sub s4;have d:=d.sub s4;have a:=a.sub s4;have b:=b.sub s4;have c:=c.sub s4;refine Ak (.not rfl)<|Bq rfl rfl<|Ae<|Ab<|Bw rfl<|Ao<|Ab<|Ac<|Aa rfl<|Ak (.loadR ([.slice na A.nodes.length nc,.slice fa A.free.length fc]) Cb rfl f.row rfl)<|Ak (.loadR (R.cells) Nf rfl i.row rfl)<|Ak (.buildS (vs:=[(0,.agg #[.slice na A.nodes.length nc,.slice fa A.free.length fc]),(1,.agg R.cells.toArray)]) (cs:=(wkC na fa nc fc A R).toArray) AK1 ALB rfl (by kernel_rfl))<|Bu rfl rfl rfl (fun N aq F a0 C D=>?_);have ab:=S.le F;have aa:=d.ne F;have n:=a.ne F;have l:=b.ne F;have j:=c.ne F;have L:=hA.neNew F;have S:=S.trans D;have hA:=hA.sub D;have d:=d.sub D;have a:=a.sub D;have b:=b.sub D;have c:=c.sub D
 have C:Has aq N (wkC na fa nc fc A R) _:=C
 have hF:=WkO.ft C hnc hfc hA (fun h=>L _ h rfl)
 have dF5:∀k,(k=N∨M k)→k≠az:=(fun k hk e=>hk.elim (fun h=>aa (e.symm.trans h)) (fun h=>Z k h e))
 have dF6:∀k,(k=N∨M k)→k≠an:=(fun k hk e=>hk.elim (fun h=>n (e.symm.trans h)) (fun h=>Y k h e))
 have dF7:∀k,(k=N∨M k)→k≠am:=(fun k hk e=>hk.elim (fun h=>l (e.symm.trans h)) (fun h=>X k h e))
 have dF8:∀k,(k=N∨M k)→k≠al:=(fun k hk e=>hk.elim (fun h=>j (e.symm.trans h)) (fun h=>W k h e))
 refine Ah rfl<|Ae<|Ab<|Ac<|Aa rfl<|Ay Nh rfl rfl (fun aw ar G a1 g E=>?_);have ak:=S.le G;have z:=a.ne G;have y:=b.ne G;have s:=c.ne G;have U:=C.ne G;have H:=hF.neNew G;have S:=S.trans E;have d:=d.sub E;have a:=a.sub E;have b:=b.sub E;have c:=c.sub E;have hF:=hF.sub E;refine Ae<|Ab<|Ac<|Ac<|Aa rfl<|Av Me rfl<|Ba sh3 rfl d rfl<|Ae<|Ab<|Bh<|Ac<|Aa rfl<|Bc rfl rfl rfl<|Ak (.as (v':=.bool false) (.assign rfl) (Bt (by omega)))<|Ae (Ab ?_);refine Bw rfl<|Ac<|Aa rfl<|Bc rfl rfl rfl<|Ak (.as (v':=.bool false) (.assign rfl) (Bt (by omega)))<|Ae<|Ab<|Bw rfl<|Ac<|Aa rfl<|Bc rfl rfl rfl<|Ak (.as (v':=.bool true) (.assign rfl) (Cr (hb)))<|Ae<|Ab<|Bm rfl<|Aa rfl ?_;refine Af rfl<|Ak (.loadR (o.cells) Uc rfl d.row rfl)<|Az rfl AMg (AJ5 N A R _ hR m.row P hrow hV o ho hk ar hF) ?_;rintro _ w5 ⟨x,B,r1,e1,C1,rfl,hF1,ag,up1,hu1,hpp⟩;have szS1:=S.size;have K:=Di up1 dF6 a.lt;have J:=Di up1 dF7 b.lt;have I:=Di up1 dF8 c.lt;have q:=Di up1 H g.lt;have S:=S.upd ag ab;have a:=a.upd ag n;have b:=b.upd ag l;have c:=c.upd ag j;have g:=g.upd ag U.symm;refine At Hq rfl rfl rfl g (fun w7 z7 g a7=>?_);have S:=S.upd a7 ak;have a:=a.upd a7 z;have b:=b.upd a7 y;have c:=c.upd a7 s;have hF1:=hF1.updD a7 q
 have g:Has w7 aw (x.cells) _:=g.now (by kernel_rfl)
 obtain⟨A2,hA2⟩:∃A2,A2=(if e1=0 then B else A):=⟨_,rfl⟩
 obtain⟨R2,hR2⟩:∃R2,R2=(if e1=0 then {R with r:=r1} else R):=⟨_,rfl⟩
 rw[←hA2,←hR2] at hF1
 obtain⟨hCb1,na1,fa1,nc1,fc1,M1,hbf,hn1,hf1,hA1,hMb1,hMC1⟩:=hF1.now
 have dA6:∀k,M1 k→k≠an:=(fun k hk=>K k (hMC1 k hk))
 have dA7:∀k,M1 k→k≠am:=(fun k hk=>J k (hMC1 k hk))
 have dA8:∀k,M1 k→k≠al:=(fun k hk=>I k (hMC1 k hk))
 have upM:Up M w M1:=(fun k hk=>(up1 k (hMC1 k hk)).elim (fun h=>h.elim (fun h=>.inr (h▸ab)) .inl) (fun h=>.inr (Ad szS1 h)))
 refine Ae<|Ab<|Ac<|Bs (fun k=>k=an∨k=am∨k=al) [9,10,11] w7.heap.size 13 rfl rfl mxo (fun w8 s9=>?_)
 have hNN:∀k,((k=an∨k=am∨k=al)∨w7.heap.size≤k)→w.heap.size≤k:=fun k e=>e.elim (fun e=>e.elim (fun e=>e▸aj) (fun e=>e.elim (fun e=>e▸ai) (fun e=>e▸ah))) (fun e=>Ad S.size e)
 have hN0:∀k,w7.heap.size≤k→w.heap.size≤k:=fun k e=>Ad S.size e
 have V:=g.lt;have p:=hbf.lt;have S:=S.trans s9;have a:=a.sub s9;have b:=b.sub s9;have c:=c.sub s9;have g:=g.sub s9;have hbf:=hbf.sub s9;have hA1:=hA1.sub s9;refine Bp 0 rfl rfl<|Ci 1 rfl rfl<|Bl 2 rfl Oj rfl<|Bg 3 rfl (fun w' s'=>.loadR (wvA na1 fa1 nc1 fc1 A2) Cb rfl (Fg (xs:=wvA na1 fa1 nc1 fc1 A2) (ys:=R2.cells) (hbf.step s' (fun e=>e.elim (fun e=>e.elim (fun e=>n.symm e) (fun e=>e.elim (fun e=>l.symm e) (fun e=>j.symm e))) (Nat.not_le.2 p)))) rfl)<|Bp 4 rfl rfl<|Ci 5 rfl rfl<|Bl 6 rfl Jv rfl<|Bg 7 rfl (fun w' s'=>.loadR (R2.cells) Nf rfl (Ee (pre:=wvA na1 fa1 nc1 fc1 A2) (mid:=R2.cells) (post:=[]) (hbf.step s' (fun e=>e.elim (fun e=>e.elim (fun e=>n.symm e) (fun e=>e.elim (fun e=>l.symm e) (fun e=>j.symm e))) (Nat.not_le.2 p))) rfl) rfl)<|Bg 8 rfl (fun w' s'=>.loadR (x.cells) Hq rfl (g.step s' (fun e=>e.elim (fun e=>e.elim (fun e=>z.symm e) (fun e=>e.elim (fun e=>y.symm e) (fun e=>s.symm e))) (Nat.not_le.2 V))).row rfl)<|Aq 9 rfl<|At Cb rfl rfl rfl a (fun w10 z10 a a10=>?_);have S:=S.upd a10 aj;have b:=b.upd a10 T.symm;have c:=c.upd a10 Q.symm;have hA1:=hA1.updD a10 dA6
 have a:Has w10 an (wvA na1 fa1 nc1 fc1 A2) _:=a.now (by kernel_rfl)
 refine Cq rfl a10 (.inl rfl)<|Aq 10 rfl<|At Nf rfl rfl rfl b (fun w11 z11 b a11=>?_);have S:=S.upd a11 ai;have a:=a.upd a11 T;have c:=c.upd a11 O.symm;have hA1:=hA1.updD a11 dA7
 have b:Has w11 am (R2.cells) _:=b.now (by kernel_rfl)
 refine Cq rfl a11 (.inr (.inl rfl))<|Aq 11 rfl<|At Hq rfl rfl rfl c (fun w12 z12 c a12=>?_);have S:=S.upd a12 ah;have a:=a.upd a12 Q;have b:=b.upd a12 O;have hA1:=hA1.updD a12 dA8
 have c:Has w12 al (x.cells) _:=c.now (by kernel_rfl)
 refine Cq rfl a12 (.inr (.inr (rfl)))<|Cu 12 rfl rfl<|Cp<|Ab<|Bo (rs:=[.cell 6 26,.cell 7 33,.cell 8 38,.tmp 9]) (vs:=[_,_,_,_]) rfl rfl ⟨⟨_,rfl,.inr ⟨wvA na1 fa1 nc1 fc1 A2,Cb,a.row,rfl⟩⟩,⟨_,rfl,.inr ⟨R2.cells,Nf,b.row,rfl⟩⟩,⟨_,rfl,.inr ⟨x.cells,Hq,c.row,rfl⟩⟩,rfl,trivial⟩ ?_
 have hD:=AB4 hR h0 hC hb hu1 hpp
 rw[←hA2,←hR2] at hD
 exact⟨S,x,A2,R2,na1,fa1,nc1,fc1,M1,rfl,hn1,hf1,hA1,upM,by(rw[hR2];split<;>exact⟨h0,rfl,rfl⟩),hD⟩
theorem _root_.Go.XL.FC.asV{P:Program}{f:FuncId}{args:List Value}{w:World}{v v':Value}(h:FC P f args w (Val v w))(hq:v=v'):FC P f args w (Val v' w):=by rwa [hq] at h
theorem AEp(g:FuncId)(hg:calleeOK Tryz.prog g=true)(cs:List Value)(q:Int→Bool)(l:List Int)(a:Option Addr)(c m:Nat)(hm:m=l.length)(w:World)(hn:∀x∈l,∀w',Sub w w'→FC Tryz.prog g ([.int .i64 x]++cs) w' (Val (.bool (q x)) w'))(hl:Sl w a 1 (l.map fun x=>[i6 x]))(hb:l.length≤1000000):
  FC Tryz.prog 286 [.slice a m c,.func (.func g) #[] cs.toArray] w (fun u w'=>Sub w w'∧∃n,u=.int .i64 n∧(n<0∧l.any q=false∨0≤n∧l.any q=true)):=by
 subst hm
 refine As Tryz.func286 rfl Tryz.ntmps286 rfl ?_
 have S:=Ax w
 refine Ac<|Aa rfl<|Ah rfl<|Ae<|Ab<|Ac<|Ac<|Aa rfl<|Af rfl<|Cm Dd rfl<|Af rfl<|Ae<|Ab<|Bh<|Cw (α:=Nat) (fun i=>[(0,.slice a l.length c),(1,.func (.func g) #[] cs.toArray),(7,.int .i64 (l.length:Int)),(8,.int .i64 (i:Int))]) (fun i w1=>(i≤l.length∧∀x∈l.take i,q x=false)∧Sub w w1) (fun i=>l.length-i) 0 (Bf (by repeat (first|exact trivial|refine And.intro rfl ?_))) (⟨⟨Nat.zero_le _,by simp⟩,S⟩) (fun i w1 hJ=>?_)
 obtain⟨⟨hi,hp⟩,S⟩:=hJ
 refine Ac<|Aa rfl<|Bc rfl rfl rfl<|Ae<|Ab<|Ac<|An rfl (fun h2=>?_) (fun h2=>?_)
 ·
  obtain⟨x,hx⟩:=Ce (l:=l) (i:=i) (by omega)
  have hxm:=Au hx
  refine Ao<|Ab<|Ac<|Bh<|Ac<|Aa rfl<|Af rfl<|Ah rfl<|Ae<|Ab<|Ac<|Aa rfl<|Af rfl<|Af rfl<|Af rfl<|Ak (.indexS Dd rfl rfl (by omega) (hl.is (i:=0) (by simp only[Aj,Al,Am];omega))) ?_;refine Ak (.load1 sh3 rfl ((hl.sub S).one (enc:=i6) (i:=i) hx))<|Dl rfl rfl (us:=[]) (cs:=cs) hg (hn x hxm w1 S) rfl rfl ?_;rintro _ w3 ⟨rfl,s4⟩;have S:=S.trans s4;refine Ae<|Ab<|Db rfl (fun h5=>?_) (fun h5=>?_)
  ·
   have h16:q x=true:=h5
   refine Ac<|Aa rfl<|Af rfl<|Ah rfl<|Ae<|Ab<|Bb 4 rfl rfl rfl ?_
   exact⟨S,_,rfl,.inr ⟨by omega,List.any_eq_true.2 ⟨x,hxm,h16⟩⟩⟩
  ·
   have h16:q x=false:=h5
   refine Ao<|Ab<|Aa rfl<|Ak (.as (.bin rfl rfl rfl) (Cs (y:=((i+1:Nat):Int)) (by omega) (by omega)))<|Af rfl ?_
   exact Ae (fun a ka=>⟨i+1,⟨⟨by omega,fun z hz=>by rw[List.take_add_one,hx] at hz;rcases List.mem_append.1 hz with hz|hz;exact hp z hz;have e:z=x:=(by simpa using hz);rw[e];exact h16⟩,S⟩,by omega,ka.keep (Bf (by repeat (first|exact trivial|refine And.intro rfl ?_)))⟩)
 ·
  obtain rfl:i=l.length:=(by omega)
  rw[List.take_length] at hp
  refine Co rfl<|Ab<|Ac<|Aa rfl<|Ah rfl<|Ae<|Ab<|Bb 4 rfl rfl rfl ?_
  exact⟨S,_,rfl,.inl ⟨by decide,List.any_eq_false.2 fun z hz=>by rw[hp z hz];simp⟩⟩
theorem Rr(g:FuncId)(hg:calleeOK Tryz.prog g=true)(cs:List Value)(q:Int→Bool)(l:List Int)(a:Option Addr)(c m:Nat)(hm:m=l.length)(w:World)(hn:∀x∈l,∀w',Sub w w'→FC Tryz.prog g ([.int .i64 x]++cs) w' (Val (.bool (q x)) w'))(hl:Sl w a 1 (l.map fun x=>[i6 x]))(hb:l.length≤1000000):
  FC Tryz.prog 280 [.slice a m c,.func (.func g) #[] cs.toArray] w (Val (.bool (l.any q)) w):=by
 subst hm
 refine As Tryz.func280 rfl Tryz.ntmps280 rfl ?_
 have S:=Ax w
 refine Ac<|Aa rfl<|Ah rfl<|Ae<|Ab<|Ac<|Aa rfl<|Af rfl<|Af rfl<|Az rfl AFT (AEp g hg cs q l a c _ rfl w (fun x hx w' s=>hn x hx w' (S.trans s)) (hl.sub S) hb) ?_;rintro _ w1 ⟨s2,n,rfl,hn7⟩;have S:=S.trans s2;refine Bc rfl rfl rfl<|Ah rfl<|Ae<|Ab<|Bb 4 rfl rfl rfl ?_
 rcases hn7 with⟨h1,h2⟩|⟨h1,h2⟩
 rw[h2]
 exact⟨Bt (by omega),S⟩
 rw[h2]
 exact⟨Cr (by omega),S⟩
theorem AHA(l:List Int)(a:Option Addr)(c m:Nat)(hm:m=l.length)(v:Int)(w:World)(hl:Sl w a 1 (l.map fun x=>[i6 x]))(hb:l.length≤1000000):
  FC Tryz.prog 287 [.slice a m c,.int .i64 v] w (fun u w'=>Sub w w'∧∃n,u=.int .i64 n∧(n<0∧¬v∈l∨0≤n∧v∈l)):=by
 subst hm
 refine As Tryz.func287 rfl Tryz.ntmps287 rfl ?_
 have S:=Ax w
 refine Ac<|Aa rfl<|Ah rfl<|Ae<|Ab<|Ac<|Ac<|Aa rfl<|Af rfl<|Cm Dd rfl<|Af rfl<|Ae<|Ab<|Bh<|Cw (α:=Nat) (fun i=>[(0,.slice a l.length c),(1,.int .i64 v),(7,.int .i64 (l.length:Int)),(8,.int .i64 (i:Int))]) (fun i w1=>(i≤l.length∧∀x∈l.take i,¬v=x)∧Sub w w1) (fun i=>l.length-i) 0 (Bf (by repeat (first|exact trivial|refine And.intro rfl ?_))) (⟨⟨Nat.zero_le _,by simp⟩,S⟩) (fun i w1 hJ=>?_)
 obtain⟨⟨hi,hp⟩,S⟩:=hJ
 refine Ac<|Aa rfl<|Bc rfl rfl rfl<|Ae<|Ab<|Ac<|An rfl (fun h2=>?_) (fun h2=>?_)
 ·
  obtain⟨x,hx⟩:=Ce (l:=l) (i:=i) (by omega)
  have hxm:=Au hx
  refine Ao<|Ab<|Ac<|Bh<|Ac<|Aa rfl<|Af rfl<|Ah rfl<|Ae<|Ab<|Ac<|Aa rfl<|Af rfl<|Af rfl<|Af rfl<|Ak (.indexS Dd rfl rfl (by omega) (hl.is (i:=0) (by simp only[Aj,Al,Am];omega))) ?_;refine Ak (.load1 sh3 rfl ((hl.sub S).one (enc:=i6) (i:=i) hx))<|Bc rfl rfl rfl<|Ae<|Ab<|An rfl (fun h3=>?_) (fun h3=>?_)
  ·
   have h16:v=x:=h3
   refine Ac<|Aa rfl<|Af rfl<|Ah rfl<|Ae<|Ab<|Bb 4 rfl rfl rfl ?_
   exact⟨S,_,rfl,.inr ⟨by omega,by rw[h16];exact hxm⟩⟩
  ·
   have h16:¬v=x:=h3
   refine Ao<|Ab<|Aa rfl<|Ak (.as (.bin rfl rfl rfl) (Cs (y:=((i+1:Nat):Int)) (by omega) (by omega)))<|Af rfl ?_
   exact Ae (fun a ka=>⟨i+1,⟨⟨by omega,fun z hz=>by rw[List.take_add_one,hx] at hz;rcases List.mem_append.1 hz with hz|hz;exact hp z hz;have e:z=x:=(by simpa using hz);rw[e];exact h16⟩,S⟩,by omega,ka.keep (Bf (by repeat (first|exact trivial|refine And.intro rfl ?_)))⟩)
 ·
  obtain rfl:i=l.length:=(by omega)
  rw[List.take_length] at hp
  refine Co rfl<|Ab<|Ac<|Aa rfl<|Ah rfl<|Ae<|Ab<|Bb 4 rfl rfl rfl ?_
  exact⟨S,_,rfl,.inl ⟨by decide,fun e=>hp v e rfl⟩⟩
theorem Tx(l:List Int)(a:Option Addr)(c m:Nat)(hm:m=l.length)(v:Int)(w:World)(hl:Sl w a 1 (l.map fun x=>[i6 x]))(hb:l.length≤1000000):
  FC Tryz.prog 274 [.slice a m c,.int .i64 v] w (Val (.bool (decide (v∈l))) w):=by
 subst hm
 refine As Tryz.func274 rfl Tryz.ntmps274 rfl ?_
 have S:=Ax w
 refine Ac<|Aa rfl<|Ah rfl<|Ae<|Ab<|Ac<|Aa rfl<|Af rfl<|Af rfl<|Az rfl ALE (AHA l a c _ rfl v w (hl.sub S) hb) ?_;rintro _ w1 ⟨s2,n,rfl,hn7⟩;have S:=S.trans s2;refine Bc rfl rfl rfl<|Ah rfl<|Ae<|Ab<|Bb 4 rfl rfl rfl ?_
 rcases hn7 with⟨h1,h2⟩|⟨h1,h2⟩
 rw[decide_eq_false h2]
 exact⟨Bt (by omega),S⟩
 rw[decide_eq_true h2]
 exact⟨Cr (by omega),S⟩
structure Ver where
 no:Int
 rt:Rt
 ap:List Int
 rs:List RsT
def RcR(u:World)(x:RcP)(v:Ver):Prop :=
 x.no=v.no∧x.rt=v.rt∧x.an=v.ap.length∧x.rn=v.rs.length∧v.ap.length≤x.ac∧v.rs.length≤x.rc∧Sl u x.aa 1 (v.ap.map fun x=>[i6 x])∧Sl u x.ra 3 (v.rs.map RsT.cells)
theorem RcR.sub{u u':World}{x:RcP}{v:Ver}(h:RcR u x v)(s:Sub u u'):RcR u' x v :=
 ⟨h.1,h.2.1,h.2.2.1,h.2.2.2.1,h.2.2.2.2.1,h.2.2.2.2.2.1,h.2.2.2.2.2.2.1.sub s,h.2.2.2.2.2.2.2.sub s⟩
def Hn(n:Int):Prop:=0≤n∧n≤1099511627776
instance (n:Int):Decidable (Hn n):=inferInstanceAs (Decidable (_∧_))
structure AnT where
 seq:Int
 op:OpT
def AnT.cells(x:AnT):List Value:=.int .i64 x.seq::x.op.cells
def AnT.ok(x:AnT):Prop:=Hn x.seq∧x.op.ok∧(0<x.seq→okP x.op)
structure VerOk (n:Nat) (A:Ar) (v:Ver) (m:Mo):Prop where
 nn:1≤n∧n≤8
 no:Hn v.no
 an:v.ap.length=n
 rn:v.rs.length=n
 ap:∀s∈v.ap,Hn s
 rok:v.rt.ok
 rh:v.rt.h=0
 isc:IsC A v.rt m
theorem Te(n:Int)(w:World):FC Tryz.prog 279 [.int .i64 n] w (Val (.bool (decide (Hn n))) w):=by
 refine As Tryz.func279 rfl Tryz.ntmps279 rfl ?_
 have S:=Ax w
 refine Ac<|Aa rfl<|Ah rfl<|Ae<|Ab<|Ac<|Aa rfl<|Af rfl<|Bc rfl rfl rfl<|Af rfl<|Bn 5 rfl (fun h1=>?_) (fun h1=>?_)
 ·
  refine Af rfl<|Bc rfl rfl rfl<|Br rfl rfl<|Ah rfl<|Ae<|Ab<|Bb 2 rfl rfl rfl ?_
  exact⟨congrArg Value.bool (by(first|exact(decide_eq_true (by(try simp only[Hn] at *);omega)).symm|exact(decide_eq_false (by(try simp only[Hn] at *);omega)).symm|exact decide_eq_decide.2 (by(try simp only[Hn] at *);omega))),S⟩
 ·
  refine Bd 2 rfl<|Bq rfl rfl<|Ah rfl<|Ae<|Ab<|Bb 2 rfl rfl rfl ?_
  exact⟨congrArg Value.bool (by(first|exact(decide_eq_true (by(try simp only[Hn] at *);omega)).symm|exact(decide_eq_false (by(try simp only[Hn] at *);omega)).symm|exact decide_eq_decide.2 (by(try simp only[Hn] at *);omega))),S⟩
theorem AEz(n:Int)(w:World):FC Tryz.prog 281 [.int .i64 n] w (Val (.bool (!decide (Hn n))) w):=by
 refine As Tryz.func281 rfl Tryz.ntmps281 rfl ?_
 have S:=Ax w
 refine Ac<|Aa rfl<|Ah rfl<|Ae<|Ab<|Ac<|Aa rfl<|Af rfl<|Az rfl AFU (Te n w) ?_;rintro _ w1 ⟨rfl,s2⟩;have S:=S.trans s2;refine Ak (.not rfl)<|Ah rfl<|Ae<|Ab<|Bb 2 rfl rfl rfl ?_
 exact⟨rfl,S⟩
theorem ABe(n:Nat)(A:Ar)(na fa:Option Addr)(nc fc:Nat)(hnc:A.nodes.length≤nc)(hfc:A.free.length≤fc)(x:RcP)(v:Ver)(m:Mo)(w:World)(hA:ArR w na fa A)(hx:RcR w x v)(hv:VerOk n A v m):
  FC Tryz.prog 258 [arV na fa nc fc A,x.val] w (Val (.bool true) w):=by
 obtain⟨no,rt,aa,an,ac,ra,rn,rc⟩:=x
 obtain⟨rfl,rfl,rfl,rfl,hac,hrc,hap,hrs⟩:=hx
 simp only[] at hac hrc hap hrs
 have h1:=hv.an
 have h2:=hv.rn
 have h3:=hv.nn
 refine As Tryz.func258 rfl Tryz.ntmps258 rfl ?_
 have S:=Ax w
 refine Ac<|Aa rfl<|Bu rfl rfl rfl (fun i e o k b f=>?_);have S:=S.trans f
 have b:Has e i ([.slice na A.nodes.length nc,.slice fa A.free.length fc]) _:=b
 refine Bu rfl rfl rfl (fun g c l j a d=>?_);have S:=S.trans d;have b:=b.sub d
 have a:Has c g ([.int .i64 v.no,.int .u64 v.rt.m,.int .u64 v.rt.t,.int .u64 v.rt.r,.int .u64 v.rt.h,.slice aa v.ap.length ac,.slice ra v.rs.length rc]) _:=a
 refine Ah rfl<|Ae<|Ab<|Ac<|Aa rfl<|Av Jq rfl<|Ba El rfl a rfl<|Cm Dd rfl<|Ah rfl<|Ae<|Ab<|Ac<|Aa rfl<|Av Hy rfl<|Ba sh3 rfl a rfl<|Az rfl AFU (FC.yes (Te v.no c) hv.no) ?_;rintro _ w1 ⟨rfl,s2⟩;have S:=S.trans s2;have b:=b.sub s2;have a:=a.sub s2;refine Af rfl<|Af rfl<|Ak (.as (v':=.bool true) (.bin rfl rfl rfl) (Cr (by omega)))<|Br rfl rfl<|Af rfl<|Af rfl<|Ak (.as (v':=.bool true) (.bin rfl rfl rfl) (Cr (by omega)))<|Br rfl rfl<|Af rfl<|Av Sd rfl<|Ba ADy rfl a rfl<|Cm Xk rfl<|Af rfl<|Ak (.as (v':=.bool true) (.bin rfl rfl rfl) (Cr (by omega)))<|Br rfl rfl<|Af rfl ?_;refine Av Jq rfl<|Ba El rfl a rfl<|Az rfl AIo (FC.asV (Rr 281 ALJ [] (fun x => !decide (Hn x)) v.ap aa ac _ rfl w1 (fun x _ w' _=>AEz x w') (hap.sub S) (by omega)) (congrArg Value.bool (List.any_eq_false.2 fun x hx=>by rw[decide_eq_true (hv.ap x hx)];decide))) ?_;rintro _ w3 ⟨rfl,s4⟩;have S:=S.trans s4;have b:=b.sub s4;have a:=a.sub s4;refine Ak (.not rfl)<|Br rfl rfl<|Af rfl<|Ak (.loadR ([.slice na A.nodes.length nc,.slice fa A.free.length fc]) Cb rfl b.row rfl)<|Av Qc rfl<|Ak (.loadR (v.rt.cells) Nf rfl (Ee (pre:=[.int .i64 v.no]) (mid:=v.rt.cells) (post:=[.slice aa v.ap.length ac,.slice ra v.rs.length rc]) a rfl) rfl)<|Az rfl AKh (Zm A na fa nc fc hnc hfc v.rt hv.rok hv.rh m hv.isc w3 (hA.sub S)) ?_;rintro _ w5 ⟨rfl,s6⟩;have S:=S.trans s6;refine Br rfl rfl<|Ah rfl<|Ae<|Ab<|Bb 4 rfl rfl rfl ?_
 exact⟨rfl,S⟩
theorem ACs(g:FuncId)(hg:calleeOK Tryz.prog g=true)(cs:List Value)(q:AnT→Bool)(l:List AnT)(a:Option Addr)(c m:Nat)(hm:m=l.length)(w:World)(hn:∀x∈l,∀w',Sub w w'→FC Tryz.prog g ([.agg x.cells.toArray]++cs) w' (Val (.bool (q x)) w'))(hl:Sl w a 5 (l.map AnT.cells))(hb:l.length≤1000000):
  FC Tryz.prog 289 [.slice a m c,.func (.func g) #[] cs.toArray] w (fun u w'=>Sub w w'∧∃n,u=.int .i64 n∧(n<0∧l.any q=false∨0≤n∧l.any q=true)):=by
 subst hm
 refine As Tryz.func289 rfl Tryz.ntmps289 rfl ?_
 have S:=Ax w
 refine Ac<|Aa rfl<|Ah rfl<|Ae<|Ab<|Ac<|Ac<|Aa rfl<|Af rfl<|Cm Iv rfl<|Af rfl<|Ae<|Ab<|Bh<|Cw (α:=Nat) (fun i=>[(0,.slice a l.length c),(1,.func (.func g) #[] cs.toArray),(7,.int .i64 (l.length:Int)),(8,.int .i64 (i:Int))]) (fun i w1=>(i≤l.length∧∀x∈l.take i,q x=false)∧Sub w w1) (fun i=>l.length-i) 0 (Bf (by repeat (first|exact trivial|refine And.intro rfl ?_))) (⟨⟨Nat.zero_le _,by simp⟩,S⟩) (fun i w1 hJ=>?_)
 obtain⟨⟨hi,hp⟩,S⟩:=hJ
 refine Ac<|Aa rfl<|Bc rfl rfl rfl<|Ae<|Ab<|Ac<|An rfl (fun h2=>?_) (fun h2=>?_)
 ·
  obtain⟨x,hx⟩:=Ce (l:=l) (i:=i) (by omega)
  have hxm:=Au hx
  refine Ao<|Ab<|Ac<|Bh<|Ac<|Aa rfl<|Af rfl<|Ah rfl<|Ae<|Ab<|Ac<|Aa rfl<|Af rfl<|Af rfl<|Af rfl<|Ak (.indexS Iv rfl rfl (by omega) (hl.is (i:=0) (by simp only[Aj,Al,Am];omega))) ?_;refine Ak (.loadR (x.cells) AFK rfl ((hl.sub S).rowAt (enc:=AnT.cells) (i:=i) hx) rfl)<|Dl rfl rfl (us:=[]) (cs:=cs) hg (hn x hxm w1 S) rfl rfl ?_;rintro _ w3 ⟨rfl,s4⟩;have S:=S.trans s4;refine Ae<|Ab<|Db rfl (fun h5=>?_) (fun h5=>?_)
  ·
   have h16:q x=true:=h5
   refine Ac<|Aa rfl<|Af rfl<|Ah rfl<|Ae<|Ab<|Bb 4 rfl rfl rfl ?_
   exact⟨S,_,rfl,.inr ⟨by omega,List.any_eq_true.2 ⟨x,hxm,h16⟩⟩⟩
  ·
   have h16:q x=false:=h5
   refine Ao<|Ab<|Aa rfl<|Ak (.as (.bin rfl rfl rfl) (Cs (y:=((i+1:Nat):Int)) (by omega) (by omega)))<|Af rfl ?_
   exact Ae (fun a ka=>⟨i+1,⟨⟨by omega,fun z hz=>by rw[List.take_add_one,hx] at hz;rcases List.mem_append.1 hz with hz|hz;exact hp z hz;have e:z=x:=(by simpa using hz);rw[e];exact h16⟩,S⟩,by omega,ka.keep (Bf (by repeat (first|exact trivial|refine And.intro rfl ?_)))⟩)
 ·
  obtain rfl:i=l.length:=(by omega)
  rw[List.take_length] at hp
  refine Co rfl<|Ab<|Ac<|Aa rfl<|Ah rfl<|Ae<|Ab<|Bb 4 rfl rfl rfl ?_
  exact⟨S,_,rfl,.inl ⟨by decide,List.any_eq_false.2 fun z hz=>by rw[hp z hz];simp⟩⟩
theorem Xu(g:FuncId)(hg:calleeOK Tryz.prog g=true)(cs:List Value)(q:AnT→Bool)(l:List AnT)(a:Option Addr)(c m:Nat)(hm:m=l.length)(w:World)(hn:∀x∈l,∀w',Sub w w'→FC Tryz.prog g ([.agg x.cells.toArray]++cs) w' (Val (.bool (q x)) w'))(hl:Sl w a 5 (l.map AnT.cells))(hb:l.length≤1000000):
  FC Tryz.prog 282 [.slice a m c,.func (.func g) #[] cs.toArray] w (Val (.bool (l.any q)) w):=by
 subst hm
 refine As Tryz.func282 rfl Tryz.ntmps282 rfl ?_
 have S:=Ax w
 refine Ac<|Aa rfl<|Ah rfl<|Ae<|Ab<|Ac<|Aa rfl<|Af rfl<|Af rfl<|Az rfl ALD (ACs g hg cs q l a c _ rfl w (fun x hx w' s=>hn x hx w' (S.trans s)) (hl.sub S) hb) ?_;rintro _ w1 ⟨s2,n,rfl,hn7⟩;have S:=S.trans s2;refine Bc rfl rfl rfl<|Ah rfl<|Ae<|Ab<|Bb 4 rfl rfl rfl ?_
 rcases hn7 with⟨h1,h2⟩|⟨h1,h2⟩
 rw[h2]
 exact⟨Bt (by omega),S⟩
 rw[h2]
 exact⟨Cr (by omega),S⟩
theorem AIT(x:AnT)(hx:x.ok)(w:World):FC Tryz.prog 283 [.agg x.cells.toArray] w (Val (.bool false) w):=by
 refine As Tryz.func283 rfl Tryz.ntmps283 rfl ?_
 have S:=Ax w
 refine Ac<|Aa rfl<|Bu rfl rfl rfl (fun f d h g c e=>?_);have S:=S.trans e
 have c:Has d f ([.int .i64 x.seq,.int .i64 x.op.box,.int .i64 x.op.kind,.int .i64 x.op.a,.int .i64 x.op.b]) _:=c
 refine Ah rfl<|Ae<|Ab<|Ac<|Aa rfl<|Av Uk rfl<|Ba sh3 rfl c rfl<|Az rfl AFU (FC.yes (Te x.seq d) hx.1) ?_;rintro _ w1 ⟨rfl,s2⟩;have S:=S.trans s2;have c:=c.sub s2;refine Ak (.not rfl)<|Af rfl<|Av Uk rfl<|Ba sh3 rfl c rfl<|Bc rfl rfl rfl<|Af rfl<|Bn 11 rfl (fun h3=>?_) (fun h3=>?_)
 ·
  have h11:0<x.seq:=h3
  refine Av ADa rfl<|Ak (.loadR (x.op.cells) Uc rfl (Ee (pre:=[.int .i64 x.seq]) (mid:=x.op.cells) (post:=[]) c rfl) rfl)<|Az rfl AJc (FC.yes (Td x.op w1) (hx.2.2 h11)) ?_;rintro _ w4 ⟨rfl,s5⟩;have S:=S.trans s5;refine Ak (.not rfl)<|Br rfl rfl<|Bq rfl rfl<|Ah rfl<|Ae<|Ab<|Bb 2 rfl rfl rfl ?_
  exact⟨rfl,S⟩
 ·
  refine Bd 4 rfl<|Bq rfl rfl<|Bq rfl rfl<|Ah rfl<|Ae<|Ab<|Bb 2 rfl rfl rfl ?_
  exact⟨rfl,S⟩
theorem AKN(l:List AnT)(a:Option Addr)(c m:Nat)(hm:m=l.length)(hl:l.length≤8)(hok:∀x∈l,x.ok)(w:World)(hP:Sl w a 5 (l.map AnT.cells)):FC Tryz.prog 259 [.slice a m c] w (Val (.bool true) w):=by
 subst hm
 refine As Tryz.func259 rfl Tryz.ntmps259 rfl ?_
 have S:=Ax w
 refine Ac<|Aa rfl<|Ah rfl<|Ae<|Ab<|Ac<|Aa rfl<|Af rfl<|Cm Iv rfl<|Ak (.as (v':=.bool true) (.bin rfl rfl rfl) (Cr (by omega)))<|Af rfl<|Af rfl<|Az rfl ALI (FC.asV (Xu 283 ALH [] (fun _=>false) l a c _ rfl w (fun x hx w' _=>AIT x (hok x hx) w') (hP.sub S) (by omega)) (congrArg Value.bool (List.any_eq_false.2 fun x hx=>by decide))) ?_;rintro _ w1 ⟨rfl,s2⟩;have S:=S.trans s2;refine Ak (.not rfl)<|Br rfl rfl<|Ah rfl<|Ae<|Ab<|Bb 2 rfl rfl rfl ?_
 exact⟨rfl,S⟩
def Iw(q:Nat→Bool)(n:Nat):List Int:=((List.range n).filter q).map fun(k:Nat)=>(k:Int)
theorem Ra{q:Nat→Bool}{n:Nat}(h:q n=true):Iw q (n+1)=Iw q n++[(n:Int)]:=by
 unfold Iw
 rw[List.range_succ,List.filter_append,List.map_append]
 simp[h]
theorem Oc{q:Nat→Bool}{n:Nat}(h:q n=false):Iw q (n+1)=Iw q n:=by
 unfold Iw
 rw[List.range_succ,List.filter_append,List.map_append]
 simp[h]
theorem AGh{q:Nat→Bool}{n:Nat}{x:Int}:x∈Iw q n↔∃k:Nat,k<n∧q k=true∧x=k:=by
 unfold Iw
 simp only[List.mem_map,List.mem_filter,List.mem_range]
 constructor
 ·rintro⟨k,⟨h1,h2⟩,h3⟩;exact⟨k,h1,h2,h3.symm⟩
 ·rintro⟨k,h1,h2,h3⟩;exact⟨k,⟨h1,h2⟩,h3.symm⟩
theorem Vm(q:Nat→Bool)(n:Nat):(Iw q n).length≤n:=by
 unfold Iw
 rw[Aj]
 exact Ad (List.length_filter_le _ _) (by rw[List.length_range];exact Nat.le_refl _)
theorem ACX(q:Nat→Bool)(n:Nat):(Iw q n).Nodup:=by
 unfold Iw
 refine List.Pairwise.map _ (fun a b (h:a≠b) e=>h (by omega)) (List.Pairwise.filter _ List.nodup_range)
def Lk(l:List AnT)(ap:List Int)(i:Nat):Bool:=match l[i]?,ap[i]? with|some x,some y=>decide (y<x.seq)|_,_=>false
def Tm(l:List AnT)(ap:List Int):List Int:=Iw (Lk l ap) (min l.length ap.length)
theorem Vp{l:List AnT}{ap:List Int}{i:Nat}{x:AnT}{y:Int}(h:l[i]?=some x)(k:ap[i]?=some y):Lk l ap i=decide (y<x.seq):=by unfold Lk;rw[h,k]
theorem AEm(x:RcP)(v:Ver)(l:List AnT)(a:Option Addr)(c m:Nat)(hm:m=l.length)(w:World)(hx:RcR w x v)(hl:Sl w a 5 (l.map AnT.cells))(hb:l.length≤1000)(hb2:v.ap.length≤1000):
  FC Tryz.prog 261 [x.val,.slice a m c] w (fun u w'=>∃a' c',u=.slice a' ((Tm l v.ap).map fun x=>[i6 x]).length c'∧Ows w.heap.size w' 3 1 (.slice a' ((Tm l v.ap).map fun x=>[i6 x]).length c') ((Tm l v.ap).map fun x=>[i6 x])∧Sub w w'):=by
 subst hm
 obtain⟨no,rt,aa,an,ac,ra,rn,rc⟩:=x
 obtain⟨rfl,rfl,rfl,rfl,hac,hrc,hap,hrs⟩:=hx
 simp only[] at hac hrc hap hrs
 refine As Tryz.func261 rfl Tryz.ntmps261 rfl ?_
 have S:=Ax w
 refine Ac<|Aa rfl<|Bu rfl rfl rfl (fun p D K J b F=>?_);have S:=S.trans F
 have b:Has D p ([.int .i64 v.no,.int .u64 v.rt.m,.int .u64 v.rt.t,.int .u64 v.rt.r,.int .u64 v.rt.h,.slice aa v.ap.length ac,.slice ra v.rs.length rc]) _:=b
 refine Ah rfl<|Ae<|Ab<|Ac<|Aa rfl<|Ah rfl<|Ae<|Ab<|Ac<|Ac<|Aa rfl<|Af rfl<|Cm Iv rfl<|Av Jq rfl<|Ba El rfl b rfl<|Cm Dd rfl ?_;refine Ak (.as (v':=.int .i64 (min l.length v.ap.length:Nat)) (.min2 rfl rfl) (by exact congrArg (Value.int .i64) (by omega)))<|Af rfl<|Ae<|Ab<|Bh<|Cw (α:=Nat × Option Addr × Nat × Nat) (fun x=>[(1,.slice a l.length c),(2,.pointer (some ⟨p,0,none⟩)),(5,.slice x.2.1 x.2.2.1 x.2.2.2),(12,.int .i64 (min l.length v.ap.length:Nat)),(13,.int .i64 (x.1:Int))]) (fun x w1=>x.1≤min l.length v.ap.length∧Ows w.heap.size w1 3 1 (.slice x.2.1 x.2.2.1 x.2.2.2) ((Iw (Lk l v.ap) x.1).map fun x=>[i6 x])∧Has w1 p [.int .i64 v.no,.int .u64 v.rt.m,.int .u64 v.rt.t,.int .u64 v.rt.r,.int .u64 v.rt.h,.slice aa v.ap.length ac,.slice ra v.rs.length rc] 77∧Sub w w1∧∀k,ob (.slice x.2.1 x.2.2.1 x.2.2.2)=some k→k≠p) (fun x=>min l.length v.ap.length-x.1) (0,none,0,0) (Bf (by repeat (first|exact trivial|refine And.intro rfl ?_))) (⟨Nat.zero_le _,Ows.nil _ _ _ _,b,S,fun k hk=>by cases hk⟩) (fun x w1 hJ=>?_)
 obtain⟨i,ao,mo,co⟩:=x;obtain⟨hi,o,b,S,dob⟩:=hJ;simp only[] at hi o dob;obtain rfl:=o.sl.2;have szB:=S.size;have hdl:=Vm (Lk l v.ap) i
 refine Ac<|Aa rfl<|Bc rfl rfl rfl<|Ae<|Ab<|Ac<|An rfl (fun h2=>?_) (fun h2=>?_)
 ·
  obtain⟨x,hx⟩:=Ce (l:=l) (i:=i) (by omega)
  obtain⟨y,hy⟩:=Ce (l:=v.ap) (i:=i) (by omega)
  have hq:=Vp hx hy
  refine Ao<|Ab<|Ac<|Bh<|Ac<|Aa rfl<|Af rfl<|Ah rfl<|Ae<|Ab<|Ac<|Ev rfl mxo (by kernel_rfl)<|Cf rfl<|Cf rfl<|Aw (.indexS Iv rfl rfl (by omega) (hl.is (i:=0) (by simp only[Aj,Al,Am];omega)))<|Aw (.fieldA Uk rfl) ?_;refine Aw (.load1 sh3 rfl ((hl.sub S).rowAt (enc:=AnT.cells) (i:=i) hx 0 _ rfl))<|Aw (.field0 Jq rfl)<|Aw (.load1 El rfl (b.cell rfl))<|Cf rfl<|Aw (.indexS Dd rfl rfl (by omega) (hap.is (i:=0) (by simp only[Aj,Al,Am];omega)))<|Aw (.load1 sh3 rfl ((hap.sub S).one (enc:=i6) (i:=i) hy))<|Aw (.bin rfl rfl rfl)<|Dq (fun w3 s4=>Ab ?_);have S:=S.trans s4;have o:=o.sub s4;have szB:=Ad szB s4.size;have b:=b.sub s4;refine An rfl (fun h5=>?_) (fun h5=>?_)
  ·
   have hnext:=Ra (by rw[hq];exact decide_eq_true h5:Lk l v.ap i=true)
   refine Aa rfl<|Af rfl<|Af rfl<|Bi Dd _ ze3 rfl rfl rfl rfl rfl rfl rfl (fun I C H A j g=>?_);have S:=S.trans g;have o:=o.sub g;have szB:=Ad szB g.size;have b:=b.sub g;have z:=S.size
   have ltb_2_30:=b.lt
   have ltb_29_30:=j.lt
   refine De (base:=w.heap.size) (rows:=(Iw (Lk l v.ap) i).map fun x=>[i6 x]) (news:=[_]) Dd ze3 rfl rfl rfl rfl (.inl o) (Dr j) rfl (by intro r hr;rw[List.mem_singleton] at hr;subst hr;rfl) rfl (by(try simp only[Aj,Am,Ag,Al]);omega) (by(try simp only[Aj,Am,Ag,Al]);omega) (by omega) rfl rfl (fun E B hc_30 n f ob_30=>?_)
   have o30:=n (.inl (by simp))
   rw[show _++[_]=((Iw (Lk l v.ap) i++[(i:Int)]).map fun x=>[i6 x]) from by rw[List.map_append];rfl] at o30
   have d:=Ng ob_30 dob b.lt
   have S:=S.agrN f (fun k e=>Ad (by omega) e.2)
   have szB:=Ad szB f.size;have b:=b.step f (fun e=>dob _ e.1 rfl)
   obtain⟨s,q,rfl,G⟩:=o30.form
   refine Ah rfl<|Ae<|Ab<|Aa rfl<|Ak (.as (.bin rfl rfl rfl) (Cs (y:=((i+1:Nat):Int)) (by omega) (by omega)))<|Af rfl ?_
   exact Ae (fun a ka=>⟨(i+1,s,_,q),⟨by omega,by show Ows _ _ _ _ _ ((Iw (Lk l v.ap) (i+1)).map fun x=>[i6 x]);rw[hnext];exact o30,b,S,d⟩,by omega,ka.keep (Bf (by repeat (first|exact trivial|refine And.intro rfl ?_)))⟩)
  ·
   have hnext:=Oc (by rw[hq];exact decide_eq_false h5:Lk l v.ap i=false)
   refine Ao<|Ab<|Aa rfl<|Ak (.as (.bin rfl rfl rfl) (Cs (y:=((i+1:Nat):Int)) (by omega) (by omega)))<|Af rfl ?_
   exact Ae (fun a ka=>⟨(i+1,ao,_,co),⟨by omega,by show Ows _ _ _ _ _ ((Iw (Lk l v.ap) (i+1)).map fun x=>[i6 x]);rw[hnext];exact o,b,S,dob⟩,by omega,ka.keep (Bf (by repeat (first|exact trivial|refine And.intro rfl ?_)))⟩)
 ·
  obtain rfl:i=min l.length v.ap.length:=(by omega)
  refine Co rfl<|Ab<|Ac<|Aa rfl<|Af rfl<|Ah rfl<|Ae<|Ab<|Bb 4 rfl rfl rfl ?_
  exact⟨ao,co,rfl,o,S⟩
structure Cut (A:Ar) (l:List Int) (B:Ar):Prop where
 ok:AOk B
 len:B.nodes.length=A.nodes.length
 free:B.free.length=A.free.length+l.length
 keep:∀(i:Nat),¬(i:Int)∈l→B.nodes[i]?=A.nodes[i]?
theorem ABR:∀(l:List Int) {A:Ar},AOk A→l.Nodup→(∀p∈l,0≤p∧∃x,A.nodes[p.toNat]?=some x∧¬x.kind=0)→∃B,Jh A l=some B∧Cut A l B
 | [],A,hA,_,_=>⟨A,rfl,hA,rfl,rfl,fun _ _=>rfl⟩
 |p::l,A,hA,hn,h=>by
  obtain⟨h0,x,hx,hk⟩:=h p (by simp)
  have hlt:=Cc hx
  have hst:=Tw (A:=A) (p:=p) ⟨h0,by omega⟩ hx
  rw[if_neg hk] at hst
  have hn2:=List.nodup_cons.1 hn
  have hne:∀q∈l,¬q=p:=fun q hq e=>hn2.1 (e▸hq)
  obtain⟨B,hB,c⟩:=ABR l (Tu hA hst) hn2.2 (fun q hq=>by
   obtain⟨q0,y,hy,hyk⟩:=h q (List.mem_cons_of_mem _ hq)
   refine⟨q0,y,?_,hyk⟩
   have:p.toNat≠q.toNat:=by have:=hne q hq;omega
   simp only[List.getElem?_set_ne this]
   exact hy)
  refine⟨B,by simp only[Jh];rw[hst];exact hB,c.ok,by rw[c.len];simp,by rw[c.free];simp;omega,fun i hi=>?_⟩
  rw[c.keep i (fun e=>hi (List.mem_cons_of_mem _ e))]
  have:p.toNat≠i:=fun e=>hi (by rw[←e,Int.toNat_of_nonneg h0];simp)
  simp only[List.getElem?_set_ne this]
theorem IsR.same{A B:Ar}{r:Int}{V P:List Int}(h:IsR A r V P):(∀p∈P,B.nodes[p.toNat]?=A.nodes[p.toNat]?)→IsR B r V P:=by
 induction h with
 |nil=>intro _;exact .nil
 |node h1 _ _ h4 ih1 ih2 =>
  intro hs
  exact .node ((Zc (hs _ (by simp))).trans h1) (ih1 fun p hp=>hs p (by simp[hp])) (ih2 fun p hp=>hs p (by simp[hp])) h4
theorem IsR.cut{A B:Ar}{r:Int}{V P l:List Int}(h:IsR A r V P)(c:Cut A l B)(hl:∀p∈P,¬p∈l):IsR B r V P :=
 h.same fun p hp=>c.keep _ (by rw[Int.toNat_of_nonneg (h.rng p hp).1];exact hl p hp)
theorem IsR.reach{A:Ar}{r:Int}{V P l:List Int}(hA:AOk A)(h:IsR A r V P)(hr:r∈l):∀p∈P,p∈Dc A l:=fun p hp =>
 (Wg hA.most l p).2 (h.rea _ (fun x hx=>.root hr hx) p hp)
theorem ACa{A:Ar}{l:List Int}(hA:AOk A){p:Int}(hp:p∈Dc A l):0≤p∧∃x,A.nodes[p.toNat]?=some x∧¬x.kind=0:=by
 have h:=(Wg hA.most l p).1 hp
 obtain⟨x,hx⟩:=h.node
 refine⟨?_,x,hx⟩
 have h2:=Lv (A:=A) (k:=513) l [] (Pl.nil A)
 exact(h2.1.rng p hp).1
def Ua(B A:Ar)(l:List Int)(k:Nat):Bool:=match A.nodes[k]?,B.nodes[k]? with|some x,some y=>decide (¬x.kind=0∧y.kind=0∧¬(k:Int)∈l)|_,_=>false
def Us(B A:Ar)(l:List Int):List Int:=Iw (Ua B A l) A.nodes.length
theorem AHg{B A:Ar}{l:List Int}{k:Nat}{x y:Node}(h:A.nodes[k]?=some x)(h2:B.nodes[k]?=some y):Ua B A l k=decide (¬x.kind=0∧y.kind=0∧¬(k:Int)∈l):=by unfold Ua;rw[h,h2]
theorem Re{B A:Ar}{l:List Int}{p:Int}(h:p∈Us B A l):0≤p∧(∃x,A.nodes[p.toNat]?=some x∧¬x.kind=0)∧(∃y,B.nodes[p.toNat]?=some y∧y.kind=0)∧¬p∈l:=by
 obtain⟨k,hk,hq,rfl⟩:=AGh.1 h
 obtain⟨x,hx⟩:=Ce (l:=A.nodes) (i:=k) hk
 unfold Ua at hq
 rw[hx] at hq
 cases hy:B.nodes[k]? with
 |none=>rw[hy] at hq;cases hq
 |some y =>
  rw[hy] at hq
  have hq:=of_decide_eq_true hq
  exact⟨by omega,⟨x,by simpa using hx,hq.1⟩,⟨y,by simpa using hy,hq.2.1⟩,hq.2.2⟩
structure RowA (A:Ar) (R:Rt) (V:List Int):Prop where
 ok:AOk A
 rok:R.ok
 m0:R.m=0
 t0:R.t=0
 h0:R.h=0
 row:∃P,IsR A R.r V P
 len:V.length≤200
def rtL(R:Rt):List Int:=[R.m,R.t,R.r,R.h]
def Pg(V:List Int):Mo:=⟨[],[],V,[]⟩
theorem RowA.isC{A:Ar}{R:Rt}{V:List Int}(h:RowA A R V):IsC A R (Pg V):=by
 have hz:=IsC.zero h.ok
 have:=h.m0;have:=h.t0;have:=h.h0
 obtain⟨rm,rt,rr,rh⟩:=R
 simp only[] at *
 subst_vars
 exact⟨h.ok,hz.map,hz.mapl,hz.tab,hz.tabs,h.row,h.len,hz.heap,hz.heaps,hz.keys⟩
theorem RowA.ext{A B:Ar}{R:Rt}{V:List Int}(h:RowA A R V)(e:Ext A B)(hB:AOk B):RowA B R V :=
 ⟨hB,h.rok,h.m0,h.t0,h.h0,let ⟨P,h1⟩:=h.row;⟨P,h1.ext e⟩,h.len⟩
theorem RowA.cut{A B:Ar}{R:Rt}{V l:List Int}(h:RowA A R V)(c:Cut A l B)(hl:∀p∈Dc A (rtL R),¬p∈l):RowA B R V :=
 ⟨c.ok,h.rok,h.m0,h.t0,h.h0,let ⟨P,h1⟩:=h.row;⟨P,h1.cut c fun p hp=>hl p (h1.reach h.ok (by simp[rtL]) p hp)⟩,h.len⟩
theorem RowA.cut_old{A0 A B:Ar}{R:Rt}{V l:List Int}(h0:RowA A0 R V)(e:Ext A0 A)(h:AOk A)(c:Cut A l B)(hl:∀p∈l,∃y,A0.nodes[p.toNat]?=some y∧y.kind=0):RowA B R V:=by
 obtain⟨P,h1⟩:=h0.row
 refine⟨c.ok,h0.rok,h0.m0,h0.t0,h0.h0,⟨P,(h1.ext e).cut c fun p hp hpl=>?_⟩,h0.len⟩
 obtain⟨y,hy,hk⟩:=hl p hpl
 have hu:=h1.used h0.ok p hp
 have hr:=h1.rng p hp
 have:=(h0.ok.kind p.toNat y hy).1 hk
 rw[Int.toNat_of_nonneg hr.1] at this
 exact hu this
def Kd(l:List Rt):List Int:=l.flatMap rtL
theorem AEH(l:List Rt):(Kd l).length=4*l.length:=by
 induction l with
 |nil=>rfl
 |cons x l ih=>unfold Kd at *;rw[List.flatMap_cons,Ag,ih,Al];simp[rtL];omega
theorem ACZ{l:List Rt}{i:Nat}{x:Rt}(h:l[i]?=some x):Kd (l.take (i+1))=Kd (l.take i)++rtL x:=by
 unfold Kd
 rw[List.take_add_one,h,List.flatMap_append]
 simp
theorem AHo{l:List Rt}(h:∀x∈l,x.ok):∀r∈Kd l,U64 r:=by
 intro r hr
 obtain⟨x,hx,hr⟩:=List.mem_flatMap.1 hr
 obtain⟨h1,h2,h3,h4⟩:=h x hx
 simp only[rtL,List.mem_cons,List.not_mem_nil,or_false] at hr
 rcases hr with rfl|rfl|rfl|rfl
 ·exact h1
 ·exact h2
 ·exact h3
 ·exact h4
theorem AF9(l:List Rt)(a:Option Addr)(c m:Nat)(hm:m=l.length)(hb:l.length≤1000)(w:World)(hl:Sl w a 4 (l.map Rt.cells)):
  FC Tryz.prog 20 [.slice a m c] w (fun u w'=>∃a' c',u=.slice a' ((Kd l).map fun x=>[u6 x]).length c'∧Ows w.heap.size w' 31 1 (.slice a' ((Kd l).map fun x=>[u6 x]).length c') ((Kd l).map fun x=>[u6 x])∧Sub w w'):=by
 subst hm
 refine As Tryz.func20 rfl Tryz.ntmps20 rfl ?_
 have S:=Ax w
 refine Ac<|Aa rfl<|Ah rfl<|Ae<|Ab<|Ac<|Aa rfl<|Ah rfl<|Ae<|Ab<|Ac<|Ac<|Aa rfl<|Af rfl<|Cm AC2 rfl<|Af rfl ?_;refine Ae<|Ab<|Bh<|Cw (α:=Nat × Option Addr × Nat × Nat) (fun x=>[(3,.slice x.2.1 x.2.2.1 x.2.2.2),(6,.slice a l.length c),(7,.int .i64 (l.length:Int)),(8,.int .i64 (x.1:Int))]) (fun x w1=>x.1≤l.length∧Ows w.heap.size w1 31 1 (.slice x.2.1 x.2.2.1 x.2.2.2) ((Kd (l.take x.1)).map fun x=>[u6 x])∧Sub w w1) (fun x=>l.length-x.1) (0,none,0,0) (Bf (by repeat (first|exact trivial|refine And.intro rfl ?_))) (⟨Nat.zero_le _,Ows.nil _ _ _ _,S⟩) (fun x w1 hJ=>?_)
 obtain⟨i,ao,mo,co⟩:=x;obtain⟨hi,o,S⟩:=hJ;simp only[] at hi o;obtain rfl:=o.sl.2;have szB:=S.size;have hdl:=AEH (l.take i);rw[List.length_take] at hdl
 refine Ac<|Aa rfl<|Bc rfl rfl rfl<|Ae<|Ab<|Ac<|An rfl (fun h2=>?_) (fun h2=>?_)
 ·
  obtain⟨x,hx⟩:=Ce (l:=l) (i:=i) (by omega)
  have hnext:=ACZ hx
  refine Ao<|Ab<|Ac<|Bh<|Ac<|Aa rfl<|Ak (.indexS AC2 rfl rfl (by omega) (hl.is (i:=0) (by simp only[Aj,Al,Am];omega)))<|Ak (.loadR (x.cells) Nf rfl ((hl.sub S).rowAt (enc:=Rt.cells) (i:=i) hx) rfl)<|Ay AE7 rfl rfl (fun F I v H b n=>?_);have p:=S.le v;have f:=o.neNew v;have S:=S.trans n;have o:=o.sub n;have szB:=Ad szB n.size;refine At Nf rfl rfl rfl b (fun w3 z3 b a3=>?_);have S:=S.upd a3 p;have o:=o.updD a3 f;have szB:=Ad szB a3.size
  have b:Has w3 F (x.cells) _:=b.now (by kernel_rfl)
  refine Ae<|Ab<|Aa rfl<|Af rfl<|Av ACO rfl<|Ba Dm rfl b rfl<|Av AF4 rfl<|Ba Dm rfl b rfl<|Av Lc rfl<|Ba Dm rfl b rfl<|Av AF3 rfl<|Ba Dm rfl b rfl<|Iu (vs:=[_,_,_,_]) Kw _ Zw rfl ⟨rfl,rfl,rfl,rfl,trivial⟩ rfl rfl rfl rfl rfl rfl (fun G B E z g d=>?_);have S:=S.trans d;have o:=o.sub d;have szB:=Ad szB d.size;have b:=b.sub d;have t:=S.size
  have ltb_5_22:=b.lt
  have ltb_21_22:=g.lt
  refine De (base:=w.heap.size) (rows:=(Kd (l.take i)).map fun x=>[u6 x]) (news:=(rtL x).map fun x=>[u6 x]) Kw Zw rfl rfl rfl rfl (.inl o) (Ik (enc:=u6) (l:=rtL x) g) (by(try simp only[Aj]);first|done|rfl) (by intro r hr;obtain⟨x,_,rfl⟩:=List.mem_map.1 hr;rfl) (by rw[List.all_eq_true];intro r hr;obtain⟨x,_,rfl⟩:=List.mem_map.1 hr;rfl) (by(try simp only[Aj,Am,Ag,Al]);omega) (by(try simp only[Aj,Am,Ag,Al]);omega) (by omega) rfl rfl (fun C A hc_22 j h ob_22=>?_)
  have o22:=j (.inl (by simp[rtL]))
  have S:=S.agrN h (fun k e=>Ad (by omega) e.2)
  have szB:=Ad szB h.size
  obtain⟨s,q,rfl,D⟩:=o22.form
  refine Ah rfl<|Ae<|Ab<|Aa rfl<|Ak (.as (.bin rfl rfl rfl) (Cs (y:=((i+1:Nat):Int)) (by omega) (by omega)))<|Af rfl ?_
  exact Ae (fun a ka=>⟨(i+1,s,_,q),⟨by omega,by show Ows _ _ _ _ _ ((Kd (l.take (i+1))).map fun x=>[u6 x]);rw[hnext,List.map_append];exact o22,S⟩,by omega,ka.keep (Bf (by repeat (first|exact trivial|refine And.intro rfl ?_)))⟩)
 ·
  obtain rfl:i=l.length:=(by omega)
  rw[List.take_length] at o
  refine Co rfl<|Ab<|Ac<|Aa rfl<|Af rfl<|Ah rfl<|Ae<|Ab<|Bb 2 rfl rfl rfl ?_
  exact⟨ao,co,by rw[List.take_length];rfl,o,S⟩
theorem AFN{R:Rt}(h:R.ok):∀r∈rtL R,U64 r:=fun r hr=>AHo (l:=[R]) (fun x hx=>by rw[List.mem_singleton.1 hx];exact h) r (by simpa[Kd] using hr)
theorem AGJ(B A:Ar)(l:List Int):(Us B A l).length≤A.nodes.length:=Vm _ _
theorem AH6(B A:Ar)(nb fb:Option Addr)(ncb fcb:Nat)(na fa:Option Addr)(nc fc:Nat)(hok:AOk A)(hlen:B.nodes.length=A.nodes.length)(R:Rt)(hR:R.ok)(w:World)(hB:ArR w nb fb B)(hA:ArR w na fa A):
  FC Tryz.prog 262 [arV nb fb ncb fcb B,arV na fa nc fc A,R.val] w (fun u w'=>∃a' c',u=.slice a' ((Us B A (Dc A (rtL R))).map fun x=>[i6 x]).length c'∧Ows w.heap.size w' 3 1 (.slice a' ((Us B A (Dc A (rtL R))).map fun x=>[i6 x]).length c') ((Us B A (Dc A (rtL R))).map fun x=>[i6 x])∧Sub w w'):=by
 have hN:=hA.nodes
 have hNB:=hB.nodes
 have hone:=hok.one
 have hmost:=hok.most
 have hrl:(Dc A (rtL R)).length≤512:=by have:=(Lv (A:=A) (k:=513) (rtL R) [] (Pl.nil A)).1.len;exact Ad this hmost
 refine As Tryz.func262 rfl Tryz.ntmps262 rfl ?_
 have S:=Ax w
 refine Ac<|Aa rfl<|Bu rfl rfl rfl (fun al bb bj bo b be=>?_);have bi:=S.le bj;have S:=S.trans be
 have b:Has bb al ([.slice nb B.nodes.length ncb,.slice fb B.free.length fcb]) _:=b
 refine Bu rfl rfl rfl (fun ak ba a3 bn d a0=>?_);have bh:=S.le a3;have au:=b.ne a3;have S:=S.trans a0;have b:=b.sub a0
 have d:Has ba ak ([.slice na A.nodes.length nc,.slice fa A.free.length fc]) _:=d
 refine Bu rfl rfl rfl (fun bk P av bm g an=>?_);have bg:=S.le av;have aq:=b.ne av;have ap:=d.ne av;have S:=S.trans an;have b:=b.sub an;have d:=d.sub an
 have g:Has P bk (R.cells) _:=g
 refine Ah rfl<|Ae<|Ab<|Ac<|Bs (fun k=>False) [] P.heap.size 10 rfl rfl mxo (fun w1 s2=>?_)
 have hNN:∀k,((False)∨P.heap.size≤k)→w.heap.size≤k:=fun k e=>e.elim (fun e=>e.elim) (fun e=>Ad S.size e)
 have ent_S:=S.size
 have hN0:∀k,P.heap.size≤k→w.heap.size≤k:=fun k e=>Ad S.size e
 have ai:=b.lt;have L:=d.lt;have K:=g.lt;have szD:=Nat.le_refl P.heap.size;have S:=S.trans s2;have b:=b.sub s2;have d:=d.sub s2;have g:=g.sub s2;have szD:=Ad szD s2.size;refine Bg 0 rfl (fun w' s'=>.loadR ([.slice na A.nodes.length nc,.slice fa A.free.length fc]) Cb rfl (d.step s' (nE id L)).row rfl)<|Bg 1 rfl (fun w' s'=>.loadR (R.cells) Nf rfl (g.step s' (nE id K)).row rfl)<|Aq 2 rfl<|Bi AC2 _ AE7 rfl rfl rfl rfl rfl rfl rfl (fun ab am G a5 m t=>?_)
 have aj:P.heap.size≤ab:=by rw[G];exact szD
 have a2:=S.le G;have ah:=b.ne G;have ae:=d.ne G;have ac:=g.ne G;have S:=S.trans t;have b:=b.sub t;have d:=d.sub t;have g:=g.sub t;have szD:=Ad szD t.size;refine Be t.agr<|Aq 3 rfl<|Az rfl AKj (AF9 [R] (some ⟨ab,0,none⟩) 1 1 rfl (by show 1≤1000;omega) am (Dr (cs:=R.cells) m)) ?_;rintro _ w3 ⟨a16,c16,rfl,o16,s4⟩;have S:=S.trans s4;have b:=b.sub s4;have d:=d.sub s4;have g:=g.sub s4;have szD:=Ad szD s4.size;have m:=m.sub s4
 have l16:=o16.sl.1
 refine Be s4.agr<|Aq 4 rfl<|Az rfl ADC (ABf A na fa nc fc (rtL R) 4 rfl a16 c16 (by show 4≤10000;omega) (AFN hR) w3 (hA.sub S) l16) ?_;rintro v_ w5 ⟨s6,hr⟩
 obtain⟨ar,cr,hv,hcr,hpl,himm⟩:∃a c,v_=Value.tuple #[.slice a ((Dc A (rtL R)).map fun x=>[i6 x]).length c,.int .i64 0]∧_∧_∧_:=hr.elim (fun h=>absurd hok h.1) (fun⟨_,a,c,h⟩=>⟨a,c,h⟩)
 subst hv
 obtain⟨ML,hL,upL⟩:∃M,Ft M (fun u=>Sl u ar 1 ((Dc A (rtL R)).map fun x=>[i6 x])) w5∧UpN _ M:=⟨_,AGH himm s6,ADx s6⟩
 have aa:=Di upL (fun _ (h:False)=>h.elim) b.lt;have Z:=Di upL (fun _ (h:False)=>h.elim) d.lt;have Y:=Di upL (fun _ (h:False)=>h.elim) g.lt;have T:=Di upL (fun _ (h:False)=>h.elim) m.lt;have S:=S.trans s6;have b:=b.sub s6;have d:=d.sub s6;have g:=g.sub s6;have szD:=Ad szD s6.size;have m:=m.sub s6;refine Be s6.agr<|Bp 5 rfl rfl<|Fv 6 rfl rfl rfl<|Fv 7 rfl rfl rfl<|Cu 8 rfl rfl<|Cu 9 rfl rfl<|Cp<|Ab<|Ac<|Aa rfl<|Ah rfl<|Ae<|Ab<|Ac<|Ac<|Aa rfl ?_;refine Av Et rfl<|Ba Jj rfl d rfl<|Cm Ig rfl<|Af rfl<|Ae<|Ab<|Bh<|Cw (α:=Nat × Option Addr × Nat × Nat) (fun x=>[(3,.pointer (some ⟨al,0,none⟩)),(4,.pointer (some ⟨ak,0,none⟩)),(7,.slice ar ((Dc A (rtL R)).map fun x=>[i6 x]).length cr),(9,.slice x.2.1 x.2.2.1 x.2.2.2),(21,.slice na A.nodes.length nc),(22,.int .i64 (A.nodes.length:Int)),(23,.int .i64 (x.1:Int))]) (fun x w7=>x.1≤A.nodes.length∧Ows w.heap.size w7 3 1 (.slice x.2.1 x.2.2.1 x.2.2.2) ((Iw (Ua B A (Dc A (rtL R))) x.1).map fun x=>[i6 x])∧Has w7 al [.slice nb B.nodes.length ncb,.slice fb B.free.length fcb] 26∧Has w7 ak [.slice na A.nodes.length nc,.slice fa A.free.length fc] 26∧Ft ML (fun u=>Sl u ar 1 ((Dc A (rtL R)).map fun x=>[i6 x])) w7∧Sub w w7∧(∀k,ob (.slice x.2.1 x.2.2.1 x.2.2.2)=some k→k≠al)∧(∀k,ob (.slice x.2.1 x.2.2.1 x.2.2.2)=some k→k≠ak)∧∀k,ob (.slice x.2.1 x.2.2.1 x.2.2.2)=some k→¬ML k) (fun x=>A.nodes.length-x.1) (0,none,0,0) (Bf (by repeat (first|exact trivial|refine And.intro rfl ?_))) (⟨Nat.zero_le _,Ows.nil _ _ _ _,b,d,hL,S,fun k hk=>(by cases hk),fun k hk=>(by cases hk),fun k hk=>(by cases hk)⟩) (fun x w7 hJ=>?_)
 obtain⟨i,ao,mo,co⟩:=x;obtain⟨hi,o,b,d,hL,S,do3,do4,doL⟩:=hJ;simp only[] at hi o do3 do4 doL;obtain rfl:=o.sl.2;have szB:=S.size;have hdl:=Vm (Ua B A (Dc A (rtL R))) i
 refine Ac<|Aa rfl<|Bc rfl rfl rfl<|Ae<|Ab<|Ac<|An rfl (fun h8=>?_) (fun h8=>?_)
 ·
  obtain⟨x,hx⟩:=Ce (l:=A.nodes) (i:=i) (by omega)
  obtain⟨y,hy⟩:=Ce (l:=B.nodes) (i:=i) (by omega)
  have hq:=AHg (l:=Dc A (rtL R)) hx hy
  refine Ao<|Ab<|Ac<|Bh<|Ac<|Aa rfl<|Af rfl<|Ak (.indexS Ig rfl rfl (by omega) (hN.is (i:=0) (by simp only[Aj,Al,Am];omega)))<|Ak (.loadR (x.cells) Ct rfl ((hN.sub S).rowAt (enc:=Node.cells) (i:=i) hx) rfl)<|Ay Dx rfl rfl (fun ax bc H a6 f v=>?_);have W:=S.le H;have J:=b.ne H;have I:=d.ne H;have j:=o.neNew H;have F:=hL.neNew H;have S:=S.trans v;have o:=o.sub v;have szB:=Ad szB v.size;have b:=b.sub v;have d:=d.sub v;have hL:=hL.sub v;refine Ah rfl<|At Ct rfl rfl rfl f (fun w9 z9 f a9=>?_);have S:=S.upd a9 W;have o:=o.updD a9 j;have szB:=Ad szB a9.size;have b:=b.upd a9 J;have d:=d.upd a9 I;have hL:=hL.updD a9 F
  have f:Has w9 ax (x.cells) _:=f.now (by kernel_rfl)
  refine Ae<|Ab<|Ac<|Aa rfl<|Av Es rfl<|Ba sh3 rfl f rfl<|Bc rfl rfl rfl<|Af rfl<|Bn 31 rfl (fun h10=>?_) (fun h10=>?_)
  ·
   have h31:=h10
   refine Av Et rfl<|Ba Jj rfl b rfl<|Af rfl<|Ak (.indexS Ig rfl rfl (by omega) (hNB.is (i:=0) (by simp only[Aj,Al,Am];omega)))<|Ak (.fieldA Es rfl)<|Ak (.load1 sh3 rfl ((hNB.sub S).rowAt (enc:=Node.cells) (i:=i) hy 0 _ rfl))<|Bc rfl rfl rfl<|Br rfl rfl<|Af rfl<|Bn 40 rfl (fun h11=>?_) (fun h11=>?_)
   ·
    have h40:=h11
    refine Af rfl<|Af rfl<|Az rfl AIq (Tx (Dc A (rtL R)) ar cr _ (by rw[Aj]) (i:Int) w9 hL.now (by omega)) ?_;rintro _ w12 ⟨rfl,s13⟩;have S:=S.trans s13;have o:=o.sub s13;have szB:=Ad szB s13.size;have b:=b.sub s13;have d:=d.sub s13;have hL:=hL.sub s13;have f:=f.sub s13;refine Ak (.not_dec rfl)<|Br rfl rfl<|Ae<|Ab<|An rfl (fun h14=>?_) (fun h14=>?_)
    ·
     have hnext:=Ra (q:=Ua B A (Dc A (rtL R))) (n:=i) (by rw[hq];exact decide_eq_true ⟨h31,h40,h14⟩)
     refine Aa rfl<|Af rfl<|Af rfl<|Bi Dd _ ze3 rfl rfl rfl rfl rfl rfl rfl (fun bl a8 z a4 N s=>?_);have a1:=S.le z;have ag:=b.ne z;have ad:=d.ne z;have U:=f.ne z;have X:=o.neNew z;have Q:=hL.neNew z;have S:=S.trans s;have o:=o.sub s;have szB:=Ad szB s.size;have b:=b.sub s;have d:=d.sub s;have hL:=hL.sub s;have f:=f.sub s;have az:=S.size
     have ltb_3_49:=b.lt
     have ltb_4_49:=d.lt
     have ltb_11_49:=f.lt
     have ltb_48_49:=N.lt
     refine De (base:=w.heap.size) (rows:=(Iw (Ua B A (Dc A (rtL R))) i).map fun x=>[i6 x]) (news:=[_]) Dd ze3 rfl rfl rfl rfl (.inl o) (Dr N) rfl (by intro r hr;rw[List.mem_singleton] at hr;subst hr;rfl) rfl (by(try simp only[Aj,Am,Ag,Al]);omega) (by(try simp only[Aj,Am,Ag,Al]);omega) (by omega) rfl rfl (fun bd a7 hc_49 V p ob_49=>?_)
     have o49:=V (.inl (by simp))
     rw[show _++[_]=((Iw (Ua B A (Dc A (rtL R))) i++[(i:Int)]).map fun x=>[i6 x]) from by rw[List.map_append];rfl] at o49
     have E:=Ng ob_49 do3 b.lt;have D:=Ng ob_49 do4 d.lt;have C:=AHb ob_49 doL (fun k hk=>(hL.ge k hk).2);have O:=Ng ob_49 j f.lt
     have S:=S.agrN p (fun k e=>Ad (by omega) e.2)
     have szB:=Ad szB p.size;have b:=b.step p (fun e=>do3 _ e.1 rfl);have d:=d.step p (fun e=>do4 _ e.1 rfl);have hL:=hL.step p (fun k hk e=>doL k e.1 hk);have f:=f.step p (fun e=>j _ e.1 rfl)
     obtain⟨ay,aw,rfl,bf⟩:=o49.form
     refine Ah rfl<|Ae<|Ab<|Aa rfl<|Ak (.as (.bin rfl rfl rfl) (Cs (y:=((i+1:Nat):Int)) (by omega) (by omega)))<|Af rfl ?_
     exact Ae (fun a ka=>⟨(i+1,ay,_,aw),⟨by omega,by show Ows _ _ _ _ _ ((Iw _ (i+1)).map fun x=>[i6 x]);rw[hnext];exact o49,b,d,hL,S,E,D,C⟩,by omega,ka.keep (Bf (by repeat (first|exact trivial|refine And.intro rfl ?_)))⟩)
    ·
     have hnext:=Oc (q:=Ua B A (Dc A (rtL R))) (n:=i) (by rw[hq];exact decide_eq_false (fun e=>h14 e.2.2))
     refine Ao<|Ab<|Aa rfl<|Ak (.as (.bin rfl rfl rfl) (Cs (y:=((i+1:Nat):Int)) (by omega) (by omega)))<|Af rfl ?_
     exact Ae (fun a ka=>⟨(i+1,ao,_,co),⟨by omega,by show Ows _ _ _ _ _ ((Iw _ (i+1)).map fun x=>[i6 x]);rw[hnext];exact o,b,d,hL,S,do3,do4,doL⟩,by omega,ka.keep (Bf (by repeat (first|exact trivial|refine And.intro rfl ?_)))⟩)
   ·
    have hnext:=Oc (q:=Ua B A (Dc A (rtL R))) (n:=i) (by rw[hq];exact decide_eq_false (fun e=>h11 e.2.1))
    refine Bd 4 rfl<|Bq rfl rfl<|Ae<|Ab<|Bw rfl<|Ao<|Ab<|Aa rfl<|Ak (.as (.bin rfl rfl rfl) (Cs (y:=((i+1:Nat):Int)) (by omega) (by omega)))<|Af rfl ?_
    exact Ae (fun a ka=>⟨(i+1,ao,_,co),⟨by omega,by show Ows _ _ _ _ _ ((Iw _ (i+1)).map fun x=>[i6 x]);rw[hnext];exact o,b,d,hL,S,do3,do4,doL⟩,by omega,ka.keep (Bf (by repeat (first|exact trivial|refine And.intro rfl ?_)))⟩)
  ·
   have hnext:=Oc (q:=Ua B A (Dc A (rtL R))) (n:=i) (by rw[hq];exact decide_eq_false (fun e=>h10 e.1))
   refine Bd 7 rfl<|Bq rfl rfl<|Af rfl<|Bd 4 rfl<|Bq rfl rfl<|Ae<|Ab<|Bw rfl<|Ao<|Ab<|Aa rfl<|Ak (.as (.bin rfl rfl rfl) (Cs (y:=((i+1:Nat):Int)) (by omega) (by omega)))<|Af rfl ?_
   exact Ae (fun a ka=>⟨(i+1,ao,_,co),⟨by omega,by show Ows _ _ _ _ _ ((Iw _ (i+1)).map fun x=>[i6 x]);rw[hnext];exact o,b,d,hL,S,do3,do4,doL⟩,by omega,ka.keep (Bf (by repeat (first|exact trivial|refine And.intro rfl ?_)))⟩)
 ·
  obtain rfl:i=A.nodes.length:=(by omega)
  refine Co rfl<|Ab<|Ac<|Aa rfl<|Af rfl<|Ah rfl<|Ae<|Ab<|Bb 6 rfl rfl rfl ?_
  exact⟨ao,co,rfl,o,S⟩
theorem Lx{w:World}{a:Option Addr}{sz:Nat}{rows:List (List Value)}(h:Sl w a sz rows)(ha:a.isNone=true):rows=[]:=by
 refine Classical.byContradiction fun e=>?_
 have q:=h.some e
 cases a<;>simp at ha q
theorem ABa(l:List Int)(a:Option Addr)(c m:Nat)(hm:m=l.length)(w:World)(hl:Sl w a 1 (l.map fun x=>[i6 x]))(hb:l.length≤10000):
  FC Tryz.prog 119 [.slice a m c] w (fun u w'=>∃a' c',u=.slice a' l.length c'∧Ows w.heap.size w' 3 1 (.slice a' l.length c') (l.map fun x=>[i6 x])∧Sub w w'):=by
 subst hm
 refine As Tryz.func119 rfl Tryz.ntmps119 rfl ?_
 have S:=Ax w
 refine Ac<|Aa rfl<|Ah rfl<|Ae<|Ab<|Ac<|Ac<|Aa rfl<|Af rfl<|Ak (.eqNil Dd rfl)<|Ae<|Ab<|Db rfl (fun h1=>?_) (fun h1=>?_)
 ·
  have hnil:l=[]:=List.map_eq_nil_iff.1 (Lx hl h1)
  refine Ac<|Aa rfl<|Ah rfl<|Ae<|Ab<|Bb 2 rfl rfl rfl ?_
  subst hnil
  exact⟨none,0,rfl,Ows.nil _ _ _ _,S⟩
 ·
  refine Ao<|Ab<|Ac<|Aa rfl<|Ge Dd rfl rfl (fun t n q i b h=>?_);have S:=S.trans h;refine Af rfl ?_;have g:=S.size
  have ltb_5_7:=b.lt
  refine De (base:=w.heap.size) (rows:=[]) (news:=l.map fun x=>[i6 x]) Dd ze3 rfl rfl rfl rfl (.inl (Gk b (by omega))) (hl.sub S) (by(try simp only[Aj]);first|done|rfl) (by intro r hr;obtain⟨x,_,rfl⟩:=List.mem_map.1 hr;rfl) (by rw[List.all_eq_true];intro r hr;obtain⟨x,_,rfl⟩:=List.mem_map.1 hr;rfl) (by(try simp only[Aj,Am,Ag,Al]);omega) (by(try simp only[Aj,Am,Ag,Al]);omega) (by omega) rfl rfl (fun o j hc_7 d f ob_7=>?_)
  have o7:=d (.inr (Gk b (by omega)))
  have S:=S.agrN f (fun k e=>Ad (by omega) e.2)
  obtain⟨v,s,rfl,p⟩:=o7.form
  refine Ah rfl<|Ae<|Ab<|Bb 2 rfl rfl rfl ?_
  rw[List.nil_append,Aj] at o7
  exact⟨_,_,by rw[List.nil_append,Aj];rfl,o7,S⟩
theorem AEv(l:List RsT)(a:Option Addr)(c m:Nat)(hm:m=l.length)(w:World)(hl:Sl w a 3 (l.map RsT.cells))(hb:l.length≤10000):
  FC Tryz.prog 260 [.slice a m c] w (fun u w'=>∃a' c',u=.slice a' l.length c'∧Ows w.heap.size w' 38 3 (.slice a' l.length c') (l.map RsT.cells)∧Sub w w'):=by
 subst hm
 refine As Tryz.func260 rfl Tryz.ntmps260 rfl ?_
 have S:=Ax w
 refine Ac<|Aa rfl<|Ah rfl<|Ae<|Ab<|Ac<|Ac<|Aa rfl<|Af rfl<|Ak (.eqNil Xk rfl)<|Ae<|Ab<|Db rfl (fun h1=>?_) (fun h1=>?_)
 ·
  have hnil:l=[]:=List.map_eq_nil_iff.1 (Lx hl h1)
  refine Ac<|Aa rfl<|Ah rfl<|Ae<|Ab<|Bb 2 rfl rfl rfl ?_
  subst hnil
  exact⟨none,0,rfl,Ows.nil _ _ _ _,S⟩
 ·
  refine Ao<|Ab<|Ac<|Aa rfl<|Ge Xk rfl rfl (fun t n q i b h=>?_);have S:=S.trans h;refine Af rfl ?_;have g:=S.size
  have ltb_5_7:=b.lt
  refine De (base:=w.heap.size) (rows:=[]) (news:=l.map RsT.cells) Xk Nh rfl rfl rfl rfl (.inl (Gk b (by omega))) (hl.sub S) (by(try simp only[Aj]);first|done|rfl) (by intro r hr;obtain⟨x,_,rfl⟩:=List.mem_map.1 hr;rfl) (by rw[List.all_eq_true];intro r hr;obtain⟨x,_,rfl⟩:=List.mem_map.1 hr;rfl) (by(try simp only[Aj,Am,Ag,Al]);omega) (by(try simp only[Aj,Am,Ag,Al]);omega) (by omega) rfl rfl (fun o j hc_7 d f ob_7=>?_)
  have o7:=d (.inr (Gk b (by omega)))
  have S:=S.agrN f (fun k e=>Ad (by omega) e.2)
  obtain⟨v,s,rfl,p⟩:=o7.form
  refine Ah rfl<|Ae<|Ab<|Bb 2 rfl rfl rfl ?_
  rw[List.nil_append,Aj] at o7
  exact⟨_,_,by rw[List.nil_append,Aj];rfl,o7,S⟩
theorem AEx(l:List AnT)(a:Option Addr)(c m:Nat)(hm:m=l.length)(w:World)(hl:Sl w a 5 (l.map AnT.cells))(hb:l.length≤10000):
  FC Tryz.prog 222 [.slice a m c] w (fun u w'=>∃a' c',u=.slice a' l.length c'∧Ows w.heap.size w' 297 5 (.slice a' l.length c') (l.map AnT.cells)∧Sub w w'):=by
 subst hm
 refine As Tryz.func222 rfl Tryz.ntmps222 rfl ?_
 have S:=Ax w
 refine Ac<|Aa rfl<|Ah rfl<|Ae<|Ab<|Ac<|Ac<|Aa rfl<|Af rfl<|Ak (.eqNil Iv rfl)<|Ae<|Ab<|Db rfl (fun h1=>?_) (fun h1=>?_)
 ·
  have hnil:l=[]:=List.map_eq_nil_iff.1 (Lx hl h1)
  refine Ac<|Aa rfl<|Ah rfl<|Ae<|Ab<|Bb 2 rfl rfl rfl ?_
  subst hnil
  exact⟨none,0,rfl,Ows.nil _ _ _ _,S⟩
 ·
  refine Ao<|Ab<|Ac<|Aa rfl<|Ge Iv rfl rfl (fun t n q i b h=>?_);have S:=S.trans h;refine Af rfl ?_;have g:=S.size
  have ltb_5_7:=b.lt
  refine De (base:=w.heap.size) (rows:=[]) (news:=l.map AnT.cells) Iv Tk rfl rfl rfl rfl (.inl (Gk b (by omega))) (hl.sub S) (by(try simp only[Aj]);first|done|rfl) (by intro r hr;obtain⟨x,_,rfl⟩:=List.mem_map.1 hr;rfl) (by rw[List.all_eq_true];intro r hr;obtain⟨x,_,rfl⟩:=List.mem_map.1 hr;rfl) (by(try simp only[Aj,Am,Ag,Al]);omega) (by(try simp only[Aj,Am,Ag,Al]);omega) (by omega) rfl rfl (fun o j hc_7 d f ob_7=>?_)
  have o7:=d (.inr (Gk b (by omega)))
  have S:=S.agrN f (fun k e=>Ad (by omega) e.2)
  obtain⟨v,s,rfl,p⟩:=o7.form
  refine Ah rfl<|Ae<|Ab<|Bb 2 rfl rfl rfl ?_
  rw[List.nil_append,Aj] at o7
  exact⟨_,_,by rw[List.nil_append,Aj];rfl,o7,S⟩
theorem AEw(l:List RcP)(a:Option Addr)(c m:Nat)(hm:m=l.length)(w:World)(hl:Sl w a 7 (l.map RcP.cells))(hb:l.length≤10000):
  FC Tryz.prog 269 [.slice a m c] w (fun u w'=>∃a' c',u=.slice a' l.length c'∧Ows w.heap.size w' 77 7 (.slice a' l.length c') (l.map RcP.cells)∧Sub w w'):=by
 subst hm
 refine As Tryz.func269 rfl Tryz.ntmps269 rfl ?_
 have S:=Ax w
 refine Ac<|Aa rfl<|Ah rfl<|Ae<|Ab<|Ac<|Ac<|Aa rfl<|Af rfl<|Ak (.eqNil Fm rfl)<|Ae<|Ab<|Db rfl (fun h1=>?_) (fun h1=>?_)
 ·
  have hnil:l=[]:=List.map_eq_nil_iff.1 (Lx hl h1)
  refine Ac<|Aa rfl<|Ah rfl<|Ae<|Ab<|Bb 2 rfl rfl rfl ?_
  subst hnil
  exact⟨none,0,rfl,Ows.nil _ _ _ _,S⟩
 ·
  refine Ao<|Ab<|Ac<|Aa rfl<|Ge Fm rfl rfl (fun t n q i b h=>?_);have S:=S.trans h;refine Af rfl ?_;have g:=S.size
  have ltb_5_7:=b.lt
  refine De (base:=w.heap.size) (rows:=[]) (news:=l.map RcP.cells) Fm Gx rfl rfl rfl rfl (.inl (Gk b (by omega))) (hl.sub S) (by(try simp only[Aj]);first|done|rfl) (by intro r hr;obtain⟨x,_,rfl⟩:=List.mem_map.1 hr;rfl) (by rw[List.all_eq_true];intro r hr;obtain⟨x,_,rfl⟩:=List.mem_map.1 hr;rfl) (by(try simp only[Aj,Am,Ag,Al]);omega) (by(try simp only[Aj,Am,Ag,Al]);omega) (by omega) rfl rfl (fun o j hc_7 d f ob_7=>?_)
  have o7:=d (.inr (Gk b (by omega)))
  have S:=S.agrN f (fun k e=>Ad (by omega) e.2)
  obtain⟨v,s,rfl,p⟩:=o7.form
  refine Ah rfl<|Ae<|Ab<|Bb 2 rfl rfl rfl ?_
  rw[List.nil_append,Aj] at o7
  exact⟨_,_,by rw[List.nil_append,Aj];rfl,o7,S⟩
structure WkP where
 st:Int
 op:OpT
 seq:Int
 round:Int
 took:Int
 rc:RcP
 aa:Option Addr
 an:Nat
 ac:Nat
 nx:RcP
 ma:Option Addr
 mn:Nat
 mc:Nat
def WkP.cells(x:WkP):List Value:=[.int .i64 x.st,.int .i64 x.op.box,.int .i64 x.op.kind,.int .i64 x.op.a,.int .i64 x.op.b,.int .i64 x.seq,.int .i64 x.round,.int .i64 x.took,
 .int .i64 x.rc.no,.int .u64 x.rc.rt.m,.int .u64 x.rc.rt.t,.int .u64 x.rc.rt.r,.int .u64 x.rc.rt.h,.slice x.rc.aa x.rc.an x.rc.ac,.slice x.rc.ra x.rc.rn x.rc.rc,.slice x.aa x.an x.ac,
 .int .i64 x.nx.no,.int .u64 x.nx.rt.m,.int .u64 x.nx.rt.t,.int .u64 x.nx.rt.r,.int .u64 x.nx.rt.h,.slice x.nx.aa x.nx.an x.nx.ac,.slice x.nx.ra x.nx.rn x.nx.rc,.slice x.ma x.mn x.mc]
theorem AEu(l:List WkP)(a:Option Addr)(c m:Nat)(hm:m=l.length)(w:World)(hl:Sl w a 24 (l.map WkP.cells))(hb:l.length≤10000):
  FC Tryz.prog 156 [.slice a m c] w (fun u w'=>∃a' c',u=.slice a' l.length c'∧Ows w.heap.size w' 90 24 (.slice a' l.length c') (l.map WkP.cells)∧Sub w w'):=by
 subst hm
 refine As Tryz.func156 rfl Tryz.ntmps156 rfl ?_
 have S:=Ax w
 refine Ac<|Aa rfl<|Ah rfl<|Ae<|Ab<|Ac<|Ac<|Aa rfl<|Af rfl<|Ak (.eqNil Nb rfl)<|Ae<|Ab<|Db rfl (fun h1=>?_) (fun h1=>?_)
 ·
  have hnil:l=[]:=List.map_eq_nil_iff.1 (Lx hl h1)
  refine Ac<|Aa rfl<|Ah rfl<|Ae<|Ab<|Bb 2 rfl rfl rfl ?_
  subst hnil
  exact⟨none,0,rfl,Ows.nil _ _ _ _,S⟩
 ·
  refine Ao<|Ab<|Ac<|Aa rfl<|Ge Nb rfl rfl (fun t n q i b h=>?_);have S:=S.trans h;refine Af rfl ?_;have g:=S.size
  have ltb_5_7:=b.lt
  refine De (base:=w.heap.size) (rows:=[]) (news:=l.map WkP.cells) Nb AJS rfl rfl rfl rfl (.inl (Gk b (by omega))) (hl.sub S) (by(try simp only[Aj]);first|done|rfl) (by intro r hr;obtain⟨x,_,rfl⟩:=List.mem_map.1 hr;rfl) (by rw[List.all_eq_true];intro r hr;obtain⟨x,_,rfl⟩:=List.mem_map.1 hr;rfl) (by(try simp only[Aj,Am,Ag,Al]);omega) (by(try simp only[Aj,Am,Ag,Al]);omega) (by omega) rfl rfl (fun o j hc_7 d f ob_7=>?_)
  have o7:=d (.inr (Gk b (by omega)))
  have S:=S.agrN f (fun k e=>Ad (by omega) e.2)
  obtain⟨v,s,rfl,p⟩:=o7.form
  refine Ah rfl<|Ae<|Ab<|Bb 2 rfl rfl rfl ?_
  rw[List.nil_append,Aj] at o7
  exact⟨_,_,by rw[List.nil_append,Aj];rfl,o7,S⟩
theorem ABb(n:Nat)(a:Option Addr)(c:Nat)(w:World)(hc:n≤c):
  FC Tryz.prog 263 [.slice a n c] w (Val (.slice a n n) w):=by
 refine As Tryz.func263 rfl Tryz.ntmps263 rfl ?_
 have S:=Ax w
 refine Ac<|Aa rfl<|Ah rfl<|Ae<|Ab<|Ac<|Aa rfl<|Af rfl<|Af rfl<|Cm Fm rfl<|Af rfl<|Cm Fm rfl<|Ak (.sliceHM Fm rfl rfl rfl (by omega))<|Ah rfl<|Ae (Ab ?_);refine Bb 2 rfl rfl rfl ?_
 exact⟨rfl,S⟩
theorem ABd(n:Nat)(a:Option Addr)(c:Nat)(w:World)(hc:n≤c):
  FC Tryz.prog 224 [.slice a n c] w (Val (.slice a n n) w):=by
 refine As Tryz.func224 rfl Tryz.ntmps224 rfl ?_
 have S:=Ax w
 refine Ac<|Aa rfl<|Ah rfl<|Ae<|Ab<|Ac<|Aa rfl<|Af rfl<|Af rfl<|Cm Iv rfl<|Af rfl<|Cm Iv rfl<|Ak (.sliceHM Iv rfl rfl rfl (by omega))<|Ah rfl<|Ae (Ab ?_);refine Bb 2 rfl rfl rfl ?_
 exact⟨rfl,S⟩
theorem ABc(n:Nat)(a:Option Addr)(c:Nat)(w:World)(hc:n≤c):
  FC Tryz.prog 92 [.slice a n c] w (Val (.slice a n n) w):=by
 refine As Tryz.func92 rfl Tryz.ntmps92 rfl ?_
 have S:=Ax w
 refine Ac<|Aa rfl<|Ah rfl<|Ae<|Ab<|Ac<|Aa rfl<|Af rfl<|Af rfl<|Cm Zx rfl<|Af rfl<|Cm Zx rfl<|Ak (.sliceHM Zx rfl rfl rfl (by omega))<|Ah rfl<|Ae (Ab ?_);refine Bb 2 rfl rfl rfl ?_
 exact⟨rfl,S⟩
end Go.Proofs.YtbjmllnddanniaaGreat
set_option linter.unusedVariables false
set_option linter.unusedSimpArgs false
namespace Go.XL
open Go
def Xi(vals:Nat→Value)(i:Nat)(v:Value):Nat→Value:=fun k=>if k=i then v else vals k
theorem Hk(vals:Nat→Value)(i:Nat)(v:Value):Xi vals i v i=v:=if_pos rfl
theorem Ds{vals:Nat→Value}{i k:Nat}{v:Value}(h:k≠i):Xi vals i v k=vals k:=if_neg h
def Iy(l:List Oper)(i:Nat):Option Nat:=(l[i]?).bind (·.dst)
def depF(l:List Oper)(vals:Nat→Value):List Nat→List (Nat × Value)
 | []=>[]
 |k::ks=>match Iy l k with
  |some d=>(d,vals k)::depF l vals ks
  |none=>depF l vals ks
theorem Knows.depF{n:Cx}{F:List (Nat × Value)}{a:Act}{l:List Oper}{vals:Nat→Value}(h:Knows n F a):∀(ks:List Nat),(∀k∈ks,∀d,Iy l k=some d→a.tmps[d]?=some (vals k))→Knows n (XL.depF l vals ks++F) a
 | [],_=>h
 |k::ks,hk=>by
  have ih:=Knows.depF h ks (fun k' hk'=>hk k' (List.mem_cons_of_mem _ hk'))
  unfold XL.depF
  cases hd:Iy l k with
  |none=>exact ih
  |some d =>
   refine⟨ih.size,ih.defers,fun t v ht=>?_⟩
   rw[List.cons_append,Ep] at ht
   by_cases e:d=t
   ·rw[if_pos e] at ht
    have:=hk k (by simp) d hd
    rw[←e,this,ht]
   ·rw[if_neg e] at ht;exact ih.slot t v ht
def OpRun(P:Program)(n:Cx)(o:Oper)(F:List (Nat × Value))(w:World)(K:Value→World→Prop):Prop :=
 ∀a,Knows n F a→∀Q:Exit→Act→World→Prop,∀K':Act→World→Prop,(∀v w',K v w'→K' (a.put o.dst v) w')→o.wp P a w K' Q
theorem OpRun.mono{P:Program}{n:Cx}{o:Oper}{F:List (Nat × Value)}{w:World}{K K':Value→World→Prop}(h:OpRun P n o F w K)(hk:∀v w',K v w'→K' v w'):OpRun P n o F w K' :=
 fun a k Q K2 h2=>h a k Q K2 fun v w' q=>h2 v w' (hk v w' q)
theorem Jo{P:Program}{n:Cx}{o:Oper}{ops:Array Oper}{F:List (Nat × Value)}{w:World}{K:Value→World→Prop}(hR:n.round=none)(hg:o.guard=none)(hd:inB o.dst n=true)
  (h:RL P n ops [o] F w ⟨fun a w'=>a.defers=n.marks∧∃v,(∀d,o.dst=some d→a.tmps[d]?=some v)∧K v w',[],fun _ _=>False⟩):OpRun P n o F w K:=by
 intro a k Q K' hk
 have h:=h a k
 rw[Im hR] at h
 simp only[wpList] at h
 have hw:Region.wanted o (yielded ops a.tmps)=true:=by unfold Region.wanted;rw[hg]
 rw[hw,if_pos rfl] at h
 have put:∀(u:Value) w',((a.put o.dst u).defers=n.marks∧∃v,(∀d,o.dst=some d→(a.put o.dst u).tmps[d]?=some v)∧K v w')→K' (a.put o.dst u) w':=by
  rintro u w' ⟨_,v,h1,h2⟩
  cases hdd:o.dst with
  |none =>
   have e:a.put none u=a.put none v:=rfl
   rw[e,←hdd];exact hk v w' h2
  |some d =>
   rw[hdd] at hd h1
   have hlt:d<n.size:=by simpa[inB,Nat.blt_eq] using hd
   have h3:=h1 d rfl
   simp only[Act.put,Array.getElem?_setIfInBounds] at h3
   rw[if_pos trivial,if_pos (by rw[k.size];exact hlt)] at h3
   rw[Option.some.inj h3,←hdd]
   exact hk v w' h2
 rcases h with h|⟨_,h⟩
 ·unfold Oper.wp at *
  generalize (execOp a.eval o).run P w=r at *
  cases r with
  |ok x w' =>
   cases x<;>simp only[Oper.upon] at h ⊢
   case value u=>exact put u w' h
   case skip=>exact put _ w' h
   case defer d =>
    have h1:=h.1
    simp only[Act.put] at h1
    have:(d::a.defers)=n.marks:=by
     cases hdd:o.dst<;>simpa[hdd,Act.put] using h1
    rw[←k.defers] at this
    exact absurd (congrArg List.length this) (by simp)
   case enter f args =>
    refine Calls.mono h fun e w'' he=>?_
    cases e with
    |returned u=>exact put u w'' he
    |panicked c=>exact he.elim
    |outgrown=>exact he.elim fun _ he=>he.elim fun _ he=>(he:False).elim
   case row row args=>exact Rows.mono h fun u w'' he=>put u w'' he
  |halt x w' =>
   cases x<;>simp only[Oper.upon] at h ⊢
   case panic u=>exact h.elim
 ·exact h.elim fun _ he=>he.elim fun _ he=>(he:False).elim

def Ux:List (Array Bool)→List (Array Bool)
 | []=>[]
 |x::l=>if(Ux l).contains x then Ux l else x::Ux l
theorem Sq{x:Array Bool}:∀ {l:List (Array Bool)},x∈l→x∈Ux l
 |y::l,h=>by
  unfold Ux
  rcases List.mem_cons.1 h with rfl|h
  ·split
   ·rename_i hc;exact List.contains_iff_mem.1 hc
   ·exact List.mem_cons_self ..
  ·split
   ·exact Sq h
   ·exact List.mem_cons_of_mem _ (Sq h)
def ADF(l:List Oper)(R:List Nat)(deps:Nat→List Nat)(Le:Array Bool):Nat→List (Array Bool)→Bool
 |0,ss=>ss.all (fun s=>s==Le)
 |m+1,ss=>ss.all (fun s => !(Region.ready .any l.toArray s).isEmpty&&(Region.ready .any l.toArray s).all (fun i=>R.contains i&&(deps i).all (fun k=>R.contains k&&s.getD k false))) &&
   ADF l R deps Le m (Ux (ss.flatMap (fun s=>(Region.ready .any l.toArray s).map (fun i=>s.setIfInBounds i true))))
theorem OpRun.nil{P:Program}{n:Cx}{ops:Array Oper}{o:Oper}{F':List (Nat × Value)}{w':World}{v:Value}{d:Nat}{K:Value→World→Prop}(hd:o.dst=some d)(hv:Hx F' d=some v)(hK:K v w'):
  RL P n ops [] F' w' ⟨fun a w'=>a.defers=n.marks∧∃v,(∀d,o.dst=some d→a.tmps[d]?=some v)∧K v w',[],fun _ _=>False⟩ :=
 Ae fun a k=>⟨k.defers,v,fun d' h=>by rw[hd] at h;cases h;exact k.slot _ _ hv,hK⟩
def ADE(n:Cx)(F:List (Nat × Value))(l:List Oper)(R:List Nat)(Le:Array Bool):Bool :=
 R.all fun i=>Le.getD i false&&Nat.blt i Le.size&&(match l[i]? with|some o=>o.guard.isNone&&(match o.dst with|some d=>Nat.blt d n.size&&(Hx F d).isNone|none=>false)|none=>false) &&
  R.all fun j=>Nat.beq i j || !(Iy l i==Iy l j)
theorem Wn{n:Cx}{F:List (Nat × Value)}{l:List Oper}{R:List Nat}{Le:Array Bool}(h:ADE n F l R Le=true)(i:Nat)(hi:i∈R):
  Le.getD i false=true∧i<Le.size∧(∃o d,l[i]?=some o∧o.guard=none∧o.dst=some d∧Nat.blt d n.size=true∧Hx F d=none)∧∀j∈R,i≠j→Iy l i≠Iy l j:=by
 unfold ADE at h
 have h1:=List.all_eq_true.1 h i hi
 simp only[Bool.and_eq_true] at h1
 obtain⟨⟨⟨a1,a2⟩,a3⟩,a4⟩:=h1
 refine⟨a1,by simpa[Nat.blt_eq] using a2,?_,fun j hj hne=>?_⟩
 ·split at a3
  ·rename_i o ho
   rw[Bool.and_eq_true] at a3
   obtain⟨b1,b2⟩:=a3
   split at b2
   ·rename_i d hd
    rw[Bool.and_eq_true] at b2
    exact⟨o,d,ho,Option.isNone_iff_eq_none.1 b1,hd,b2.1,Option.isNone_iff_eq_none.1 b2.2⟩
   ·cases b2
  ·cases a3
 ·have:=List.all_eq_true.1 a4 j hj
  simp only[Bool.or_eq_true,Nat.beq_eq,Bool.not_eq_true',beq_eq_false_iff_ne] at this
  exact this.resolve_left hne
section
variable {P:Program} {n:Cx} {F:List (Nat × Value)} {p:Post} {l:List Oper} {N:Nat→Prop} {Wr:List Nat} {B:Nat} {f:Nat} {R:List Nat} {deps:Nat→List Nat} {Le:Array Bool} {Φ:Nat→Value→World→Prop}
theorem ADX(w0:World)(hR:ADE n F l R Le=true)
  (hst:∀i v w1 w2,Φ i v w1→Sub w1 w2→Φ i v w2)
  (hop:∀i∈R,∀o,l[i]?=some o→∀vals w',Sub w0 w'→(∀k∈deps i,Φ k (vals k) w')→OpRun P n o (depF l vals (deps i)++F) w' (fun v w''=>Sub w' w''∧Φ i v w''))
  (hfin:∀vals w',Sub w0 w'→(∀i∈R,Φ i (vals i) w')→RD P n l N Wr B Le f (depF l vals R++F) w' p) :
  ∀(m:Nat) (ss:List (Array Bool)),ADF l R deps Le m ss=true→∀s∈ss,s.size=Le.size→∀(vals:Nat→Value) (a:Act) (w':World),Knows n F a→Sub w0 w' →
   (∀i∈R,s.getD i false=true→Φ i (vals i) w'∧∀d,Iy l i=some d→a.tmps[d]?=some (vals i))→WA P l.toArray p.q (MW N Wr B) (f+m) s a w'
 |0,ss,hg,s,hs,hz,vals,a,w',hk,hA,hv=>by
  have e:s=Le:=eq_of_beq (List.all_eq_true.1 hg s hs)
  subst e
  have hv':=fun i hi=>hv i hi (Wn hR i hi).1
  exact hfin vals w' hA (fun i hi=>(hv' i hi).1) a (hk.depF R (fun k hk' d hd=>(hv' k hk').2 d hd))
 |m+1,ss,hg,s,hs,hz,vals,a,w',hk,hA,hv=>by
  unfold ADF at hg
  rw[Bool.and_eq_true] at hg
  have h1:=List.all_eq_true.1 hg.1 s hs
  rw[Bool.and_eq_true] at h1
  refine⟨fun e=>?_,fun i hi=>?_⟩
  ·rw[e] at h1;exact absurd h1.1 (by decide)
  ·have h2:=List.all_eq_true.1 h1.2 i hi
   rw[Bool.and_eq_true] at h2
   have hiR:i∈R:=List.contains_iff_mem.1 h2.1
   have hdep:∀k∈deps i,k∈R∧s.getD k false=true:=fun k hk'=>by
    have:=List.all_eq_true.1 h2.2 k hk'
    rw[Bool.and_eq_true] at this
    exact⟨List.contains_iff_mem.1 this.1,this.2⟩
   obtain⟨_,hlt,⟨o,d,ho,hgd,hd,hdn,hF⟩,hne⟩:=Wn hR i hiR
   have hdo:Iy l i=some d:=by unfold Iy;rw[ho];exact hd
   unfold wpOp
   have ho':l.toArray[i]?=some o:=by simpa using ho
   have hw:Region.wanted o (yielded l.toArray a.tmps)=true:=by unfold Region.wanted;rw[hgd]
   simp only[ho',hw,if_true]
   refine .inl ?_
   refine hop i hiR o ho vals w' hA (fun k hk'=>(hv k (hdep k hk').1 (hdep k hk').2).1) a (hk.depF (deps i) (fun k hk' d' hd'=>(hv k (hdep k hk').1 (hdep k hk').2).2 d' hd')) _ _ (fun v w'' hK=>?_)
   refine⟨hK.1.agr,?_⟩
   have hin:s.setIfInBounds i true∈Ux (ss.flatMap (fun s=>(Region.ready .any l.toArray s).map (fun i=>s.setIfInBounds i true))) :=
    Sq (List.mem_flatMap.2 ⟨s,hs,List.mem_map.2 ⟨i,hi,rfl⟩⟩)
   refine ADX w0 hR hst hop hfin m _ hg.2 _ hin (by simp[hz]) (Xi vals i v) (a.put o.dst v) w'' ?_ (hA.trans hK.1) (fun j hj hjs=>?_)
   ·rw[hd]
    refine(hk.put d v hdn).keep (fun t u ht=>?_)
    rw[Ep,if_neg]
    ·exact ht
    ·intro e;rw[←e,hF] at ht;cases ht
   ·by_cases hij:i=j
    ·subst hij
     rw[Hk]
     refine⟨hK.2,fun d' hd'=>?_⟩
     rw[hdo] at hd';cases hd'
     rw[hd]
     have hd2:d<a.tmps.size:=by rw[hk.size];simpa[Nat.blt_eq] using hdn
     simp[Act.put,hd2]
    ·rw[Ds (fun e=>hij e.symm)]
     rw[Array.getD_eq_getD_getElem?,Array.getElem?_setIfInBounds_ne hij,←Array.getD_eq_getD_getElem?] at hjs
     have hvj:=hv j hj hjs
     refine⟨hst j _ _ _ hvj.1 hK.1,fun d' hd'=>?_⟩
     have hdd:d≠d':=fun e=>hne j hj hij (by rw[hdo,hd',e])
     rw[hd,←hvj.2 d' hd']
     simp[Act.put,Array.getElem?_setIfInBounds_ne hdd]
theorem AIb{L:Array Bool}{w0:World}(R:List Nat)(deps:Nat→List Nat)(Le:Array Bool)(m:Nat)(Φ:Nat→Value→World→Prop)(hR:ADE n F l R Le=true)(hg:ADF l R deps Le m [L]=true)(hz:L.size=Le.size)(hL:R.all (fun i => !L.getD i false)=true)
  (hst:∀i v w1 w2,Φ i v w1→Sub w1 w2→Φ i v w2)
  (hop:∀i∈R,∀o,l[i]?=some o→∀vals w',Sub w0 w'→(∀k∈deps i,Φ k (vals k) w')→OpRun P n o (depF l vals (deps i)++F) w' (fun v w''=>Sub w' w''∧Φ i v w''))
  (hfin:∀vals w',Sub w0 w'→(∀i∈R,Φ i (vals i) w')→RD P n l N Wr B Le f (depF l vals R++F) w' p):RD P n l N Wr B L (f+m) F w0 p:=fun a k =>
 ADX w0 hR hst hop hfin m [L] hg L (by simp) hz (fun _=>undef) a w0 k (Ax _) (fun i hi h=>by
  have:=List.all_eq_true.1 hL i hi
  rw[h] at this
  cases this)
end
section
variable {P:Program} {n:Cx} {ops:Array Oper} {F:List (Nat × Value)} {w:World} {d:Nat} {t:TypeId} {pos:String} {af:Array Edge}
theorem Dz{o:Op}{v:Value}{K:Value→World→Prop}(he:EvOp P F o w v)(hd:Nat.blt d n.size=true)(hK:K v w)(hR:n.round=none:=by rfl):OpRun P n ⟨some d,o,t,pos,af,none⟩ F w K :=
 Jo (ops:=#[]) hR rfl hd (Nn he rfl hd (OpRun.nil (v:=v) rfl (by simp[upd,Ep]) hK))
theorem Gd{f:FuncId}{xs:List Operand}{vs:List Value}{ts:Array TypeId}{R K:Value→World→Prop}(hx:evs F xs=some vs)(hf:calleeOK P f=true)(hc:FC P f vs w R)(hd:Nat.blt d n.size=true)(hK:∀v w',R v w'→K v w')(hR:n.round=none:=by rfl):OpRun P n ⟨some d,.call ⟨.value (.func f),xs.toArray,ts⟩,t,pos,af,none⟩ F w K :=
 Jo (ops:=#[]) hR rfl hd (ADw hx hf hc rfl hd fun v w' h=>OpRun.nil (v:=v) rfl (by simp[upd,Ep]) (hK v w' h))
def PhO(B:Nat)(e:TypeId)(rows:List (List Value))(v:Value)(w:World):Prop:=∃b cap ex,v=.slice (some ⟨b,0,none⟩) rows.length cap∧B≤b∧rows.length≤cap∧Has w b (rows.flatten++ex) e
theorem PhO.sub{B:Nat}{e:TypeId}{rows:List (List Value)}{v:Value}{w w':World}(h:PhO B e rows v w)(s:Sub w w'):PhO B e rows v w' :=
 let ⟨b,cap,ex,h1,h2,h3,h4⟩:=h
 ⟨b,cap,ex,h1,h2,h3,h4.sub s⟩
theorem PhO.of{B sz:Nat}{e:TypeId}{rows:List (List Value)}{v:Value}{w:World}(o:Ows B w e sz v rows)(hne:0<rows.length):PhO B e rows v w :=
 let ⟨b,cap,ex,h1,h2,h3,_,h5,_⟩:=o.has hne
 ⟨b,cap,ex,h1,h2,h3,h5⟩
theorem PhO.low{B B':Nat}{e:TypeId}{rows:List (List Value)}{v:Value}{w:World}(h:PhO B e rows v w)(hb:B'≤B):PhO B' e rows v w :=
 let ⟨b,cap,ex,h1,h2,h3⟩:=h
 ⟨b,cap,ex,h1,Ad hb h2,h3⟩
theorem AAi{w:World}{b b':Nat}{cs cs':List Value}{e e':TypeId}(h:Has w b cs e)(h':Has w b' cs' e')(he:¬e=e'):b≠b':=by
 intro q
 subst q
 unfold Has at h h'
 rw[h] at h'
 simp only[Option.some.injEq] at h'
 injection h' with _ h'
 exact he h'
theorem AEG{el z B}(hz:zeroOf P el=some z)(hB:B≤w.heap.size)(hd:Nat.blt d n.size=true)(hR:n.round=none:=by rfl):
  OpRun P n ⟨some d,.alloc el,t,pos,af,none⟩ F w (fun v w'=>Sub w w'∧∃b,v=.pointer (some ⟨b,0,none⟩)∧B≤b∧Has w' b z.cells.toList el) :=
 Jo (ops:=#[]) hR rfl hd (Ay hz rfl hd fun b w' e _ h s1=>OpRun.nil (v:=.pointer (some ⟨b,0,none⟩)) rfl (by simp[upd,Ep]) ⟨s1,b,rfl,e▸hB,h⟩)
end
end Go.XL
set_option linter.unusedVariables false
set_option linter.unusedSimpArgs false
namespace Go.XL
open Go
def AFH(n:Cx)(F:List (Nat × Value))(l:List Oper)(R:List Nat)(Le:Array Bool):Bool :=
 R.all fun i=>Le.getD i false&&Nat.blt i Le.size&&(match l[i]? with|some o=>o.guard.isNone&&(match o.dst with|some d=>Nat.blt d n.size&&(Hx F d).isNone|none=>true)|none=>false) &&
  R.all fun j=>Nat.beq i j||(Iy l i).isNone || !(Iy l i==Iy l j)
theorem Jz{n:Cx}{F:List (Nat × Value)}{l:List Oper}{R:List Nat}{Le:Array Bool}(h:AFH n F l R Le=true)(i:Nat)(hi:i∈R):
  Le.getD i false=true∧i<Le.size∧(∃o,l[i]?=some o∧o.guard=none∧∀d,o.dst=some d→Nat.blt d n.size=true∧Hx F d=none)∧∀j∈R,i≠j→∀d,Iy l i=some d→Iy l j≠some d:=by
 unfold AFH at h
 have h1:=List.all_eq_true.1 h i hi
 simp only[Bool.and_eq_true] at h1
 obtain⟨⟨⟨a1,a2⟩,a3⟩,a4⟩:=h1
 refine⟨a1,by simpa[Nat.blt_eq] using a2,?_,fun j hj hne d hd e=>?_⟩
 ·split at a3
  ·rename_i o ho
   rw[Bool.and_eq_true] at a3
   obtain⟨b1,b2⟩:=a3
   refine⟨o,ho,Option.isNone_iff_eq_none.1 b1,fun d hd=>?_⟩
   rw[hd] at b2
   simp only[Bool.and_eq_true] at b2
   exact⟨b2.1,Option.isNone_iff_eq_none.1 b2.2⟩
  ·cases a3
 ·have:=List.all_eq_true.1 a4 j hj
  simp only[Bool.or_eq_true,Nat.beq_eq,Bool.not_eq_true',beq_eq_false_iff_ne] at this
  rcases this with(h1|h1)|h1
  ·exact hne h1
  ·rw[hd] at h1;cases h1
  ·exact h1 (hd.trans e.symm)
def Gy(u:Value)(i:Nat):Value:=match u with|.tuple xs=>xs.getD i undef|_=>undef
def AB9(m:List (Nat × Nat))(i:Nat)(u:Value):Value:=match m.lookup i with|some k=>Gy u k|none=>u
def ACA(m:List (Nat × List Nat))(i:Nat):List Nat:=(m.lookup i).getD []
def updD(dn:Nat→Bool)(i:Nat):Nat→Bool:=fun k=>if k=i then true else dn k
theorem Ma{s:Array Bool}{i:Nat}(h:i<s.size):s.getD i true=s.getD i false:=by
 simp[Array.getD,h]
theorem AGm{p:Nat→Prop}(h:∃i,p i):∃i,p i∧∀j,j<i→¬p j:=by
 obtain⟨n,hn⟩:=h
 induction n using Nat.strongRecOn with
 |ind n ih =>
  by_cases hx:∃j,j<n∧p j
  ·obtain⟨j,hj,hp⟩:=hx;exact ih j hj hp
  ·exact⟨n,hn,fun j hj hp=>hx ⟨j,hj,hp⟩⟩
def Vf(l:List Oper)(R:List Nat)(k:Nat):Nat→Nat→Bool
 |0,_=>false
 |n+1,i=>match l[i]? with|some o=>o.after.any (fun g=>Region.binds .any g&&(Nat.beq g.on k||(R.contains g.on&&Vf l R k n g.on)))|none=>false
def AA0(l:List Oper)(L:Array Bool)(R:List Nat)(deps:Nat→List Nat):Bool :=
 (List.range l.length).all (fun i=>L.getD i false||R.contains i) &&
  (R.all (fun i=>(match l[i]? with|some o=>o.after.all (fun g => !Region.binds .any g||(Nat.blt g.on i&&(L.getD g.on false||R.contains g.on)))|none=>false) &&
   (deps i).all fun k=>R.contains k&&Vf l R k 5 i))
theorem Ms{l:List Oper}{L:Array Bool}{R:List Nat}{deps:Nat→List Nat}(h:AA0 l L R deps=true):
  (∀i,i<l.length→L.getD i false=true∨i∈R)∧(∀i∈R,∀o,l[i]?=some o→∀g∈o.after,Region.binds .any g=true→g.on<i∧(L.getD g.on false=true∨g.on∈R))∧∀i∈R,∀k∈deps i,k∈R∧Vf l R k 5 i=true:=by
 unfold AA0 at h
 rw[Bool.and_eq_true] at h
 refine⟨fun i hi=>?_,fun i hi o ho g hg hb=>?_,fun i hi k hk=>?_⟩
 ·have:=List.all_eq_true.1 h.1 i (List.mem_range.2 hi)
  rw[Bool.or_eq_true] at this
  exact this.imp id List.contains_iff_mem.1
 ·have:=List.all_eq_true.1 h.2 i hi
  rw[Bool.and_eq_true,ho] at this
  have:=Array.all_eq_true'.1 this.1 g hg
  rw[hb] at this
  simp only[Bool.not_true,Bool.false_or,Bool.and_eq_true,Bool.or_eq_true,Nat.blt_eq] at this
  exact⟨this.1,this.2.imp id List.contains_iff_mem.1⟩
 ·have:=List.all_eq_true.1 h.2 i hi
  rw[Bool.and_eq_true] at this
  have:=List.all_eq_true.1 this.2 k hk
  rw[Bool.and_eq_true] at this
  exact⟨List.contains_iff_mem.1 this.1,this.2⟩
theorem Tq{l:List Oper}{R:List Nat}{s:Array Bool}(hcl:∀i∈R,s.getD i false=true→∀o,l[i]?=some o→∀g∈o.after,Region.binds .any g=true→s.getD g.on false=true):
  ∀(n i k:Nat),(∀o,l[i]?=some o→∀g∈o.after,Region.binds .any g=true→s.getD g.on false=true)→Vf l R k n i=true→s.getD k false=true
 |0,i,k,_,h=>by cases h
 |n+1,i,k,hi,h=>by
  unfold Vf at h
  cases ho:l[i]? with
  |none=>rw[ho] at h;cases h
  |some o =>
   rw[ho] at h
   obtain⟨g,hg,h2⟩:=Array.any_eq_true'.1 h
   simp only[Bool.and_eq_true,Bool.or_eq_true,Nat.beq_eq] at h2
   have h3:=hi o ho g hg h2.1
   rcases h2.2 with h4|h4
   ·rw[←h4];exact h3
   ·exact Tq hcl n g.on k (fun o1 ho1=>hcl g.on (List.contains_iff_mem.1 h4.1) h3 o1 ho1) h4.2
theorem Bv{dn:Nat→Bool}{i k:Nat}:updD dn i k=true↔k=i∨dn k=true:=by
 unfold updD;split<;>simp_all
theorem Ks{dn:Nat→Bool}{i k:Nat}(h:k≠i):updD dn i k=dn k:=if_neg h
section
variable {P:Program} {n:Cx} {F:List (Nat × Value)} {p:Post} {l:List Oper} {N:Nat→Prop} {Wr:List Nat} {B:Nat} {f:Nat} {R:List Nat} {deps:Nat→List Nat} {Le:Array Bool} {Inv:(Nat→Bool)→(Nat→Value)→World→Prop}
theorem AA3(L0:Array Bool)(hR:AFH n F l R (Array.replicate l.length true)=true)(hnd:R.Nodup)(hok:AA0 l L0 R deps=true)
  (hop:∀i∈R,∀o,l[i]?=some o→∀dn vals w',(∀k∈deps i,k∈R∧dn k=true)→dn i=false→Inv dn vals w'→OpRun P n o (depF l vals (deps i)++F) w' (fun v w''=>Agr (MW N Wr B i) w' w''∧Inv (updD dn i) (Xi vals i v) w''))
  (hfin:∀dn vals w',(∀i∈R,dn i=true)→Inv dn vals w'→RD P n l N Wr B (Array.replicate l.length true) 0 (depF l vals R++F) w' p) :
  ∀(m:Nat) (s:Array Bool),(R.filter fun i => !s.getD i true).length=m→s.size=l.length→(∀i,L0.getD i false=true→s.getD i false=true)→(∀i∈R,s.getD i false=true→∀o,l[i]?=some o→∀g∈o.after,Region.binds .any g=true→s.getD g.on false=true)→∀(vals:Nat→Value) (a:Act) (w':World),Knows n F a→Inv (fun i=>s.getD i false) vals w' →
   (∀i∈R,s.getD i false=true→∀d,Iy l i=some d→a.tmps[d]?=some (vals i))→WA P l.toArray p.q (MW N Wr B) (0+m) s a w'
 |0,s,hm,hz,hL,hcl,vals,a,w',hk,hI,hv=>by
  have hall:∀i∈R,s.getD i false=true:=fun i hi=>by
   have h1:=List.length_eq_zero_iff.1 hm
   rw[List.filter_eq_nil_iff] at h1
   have h2:=h1 i hi
   have hlt:i<s.size:=by have:=(Jz hR i hi).2.1;rw[Array.size_replicate] at this;omega
   rw[Ma hlt] at h2
   simpa using h2
  have e:s=Array.replicate l.length true:=by
   refine Array.ext (by rw[hz,Array.size_replicate]) fun i h1 h2=>?_
   rw[Array.getElem_replicate]
   have h3:s.getD i false=true:=((Ms hok).1 i (by omega)).elim (hL i) (hall i)
   rw[Array.getD_eq_getD_getElem?,Array.getElem?_eq_getElem h1] at h3
   exact h3
  subst e
  exact hfin _ vals w' hall hI a (hk.depF R (fun k hk' d hd=>hv k hk' (hall k hk') d hd))
 |m+1,s,hm,hz,hL,hcl,vals,a,w',hk,hI,hv=>by
  have hlt:∀i∈R,i<s.size:=fun i hi=>by have:=(Jz hR i hi).2.1;rw[Array.size_replicate] at this;omega
  refine⟨fun e=>?_,fun i hi=>?_⟩
  ·-- the first one that is left may run
   have hex:∃i∈R,s.getD i true=false:=by
    obtain⟨i,hi⟩:=List.exists_mem_of_length_pos (l:=R.filter fun i => !s.getD i true) (by omega)
    have:=List.mem_filter.1 hi
    exact⟨i,this.1,by simpa using this.2⟩
   obtain⟨i,⟨hi,hu⟩,hmin⟩:=AGm (p:=fun i=>i∈R∧s.getD i true=false) hex
   have hr:i∈Region.ready .any l.toArray s:=by
    obtain⟨o,ho,_⟩:=(Jz hR i hi).2.2.1
    refine mem_ready.2 ⟨hu,o,by simpa using ho,fun g hg hb=>?_⟩
    obtain⟨h1,h2⟩:=(Ms hok).2.1 i hi o ho g hg hb
    rcases h2 with h2|h2
    ·exact hL _ h2
    ·have h3:=hmin g.on h1
     rw[←Ma (hlt _ h2)]
     cases h4:s.getD g.on true with
     |true=>rfl
     |false=>exact absurd ⟨h2,h4⟩ h3
   rw[e] at hr;cases hr
  ·obtain⟨hun0,o0,ho0,hall⟩:=mem_ready.1 hi
   have hsz:i<s.size:=by
    rcases Nat.lt_or_ge i s.size with q|q
    ·exact q
    ·simp[Array.getD,Nat.not_lt.2 q] at hun0
   have hun:s.getD i false=false:=by rw[←Ma hsz];exact hun0
   have hiR:i∈R:=((Ms hok).1 i (by omega)).elim (fun h=>by rw[hL i h] at hun;cases hun) id
   obtain⟨_,_,⟨o,ho,hgd,hdn⟩,hne⟩:=Jz hR i hiR
   have ho':l.toArray[i]?=some o:=by simpa using ho
   have ho00:o=o0:=by rw[ho'] at ho0;exact Option.some.inj ho0
   subst ho00
   have hdep:∀k∈deps i,k∈R∧s.getD k false=true:=fun k hk'=>by
    obtain⟨h1,h2⟩:=(Ms hok).2.2 i hiR k hk'
    refine⟨h1,Tq (s:=s) hcl 5 i k (fun o1 ho1 g hg hb=>?_) h2⟩
    rw[ho] at ho1;cases ho1;exact hall g hg hb
   unfold wpOp
   have hw:Region.wanted o (yielded l.toArray a.tmps)=true:=by unfold Region.wanted;rw[hgd]
   simp only[ho',hw,if_true]
   refine .inl ?_
   refine hop i hiR o ho _ vals w' hdep hun hI a (hk.depF (deps i) (fun k hk' d' hd'=>hv k (hdep k hk').1 (hdep k hk').2 d' hd')) _ _ (fun v w'' hK=>?_)
   refine⟨hK.1,?_⟩
   have hup:(fun j=>(s.setIfInBounds i true).getD j false)=updD (fun j=>s.getD j false) i:=by
    funext j
    unfold updD
    rw[Array.getD_eq_getD_getElem?,Array.getElem?_setIfInBounds]
    by_cases e:i=j
    ·subst e;rw[if_pos rfl,if_pos (by omega),if_pos rfl];rfl
    ·rw[if_neg e,if_neg (fun q=>e q.symm)];exact Array.getD_eq_getD_getElem?.symm
   have hup1:∀j,s.getD j false=true→(s.setIfInBounds i true).getD j false=true:=fun j hj=>by
    exact(congrFun hup j).trans (Bv.2 (.inr hj))
   have hcnt:(R.filter fun j => !(s.setIfInBounds i true).getD j true).length=m:=by
    have:=Go.Proofs.YtbjmllnddanniaaGreat.cnt_set (T:=R.map fun j=>(⟨j,0,0,undef⟩:Go.Proofs.YtbjmllnddanniaaGreat.LE)) (L:=s) (e:=⟨i,0,0,undef⟩) (by rw[List.map_map];show(R.map id).Nodup;rw[List.map_id];exact hnd) (List.mem_map_of_mem hiR) hun0
    rw[List.filter_map,List.filter_map,Aj,Aj] at this
    simp only[Function.comp_def] at this
    omega
   refine AA3 L0 hR hnd hok hop hfin m (s.setIfInBounds i true) hcnt (by simp[hz]) (fun j hj=>hup1 j (hL j hj)) (fun j hj hjs o1 ho1 g hg hb=>hup1 _ ?_) (Xi vals i v) (a.put o.dst v) w'' ?_ (by rw[hup];exact hK.2) (fun j hj hjs=>?_)
   ·by_cases e:j=i
    ·subst e;rw[ho] at ho1;cases ho1;exact hall g hg hb
    ·refine hcl j hj ?_ o1 ho1 g hg hb
     have:=congrFun hup j
     simp only[updD,if_neg e] at this
     rw[←this];exact hjs
   ·cases hd:o.dst with
    |none=>exact hk
    |some d =>
     refine(hk.put d v (hdn d hd).1).keep (fun t u ht=>?_)
     rw[Ep,if_neg]
     ·exact ht
     ·intro e;rw[←e,(hdn d hd).2] at ht;cases ht
   ·intro d' hd'
    by_cases hij:i=j
    ·subst hij
     rw[Hk]
     have hdo:o.dst=some d':=by unfold Iy at hd';rw[ho] at hd';exact hd'
     rw[hdo]
     have hd2:d'<a.tmps.size:=by rw[hk.size];simpa[Nat.blt_eq] using(hdn d' hdo).1
     simp[Act.put,hd2]
    ·rw[Ds (fun e=>hij e.symm)]
     have hjs':s.getD j false=true:=by
      have:=congrFun hup j
      simp only[updD,if_neg (fun q:j=i=>hij q.symm)] at this
      rw[←this];exact hjs
     cases hd:o.dst with
     |none=>exact hv j hj hjs' d' hd'
     |some d =>
      have hdd:d≠d':=fun e=>hne j hj hij d (by unfold Iy;rw[ho];exact hd) (by rw[hd',e])
      rw[←hv j hj hjs' d' hd']
      simp[Act.put,Array.getElem?_setIfInBounds_ne hdd]
theorem AHR{L:Array Bool}{w0:World}(R:List Nat)(deps:Nat→List Nat)(m:Nat)(Inv:(Nat→Bool)→(Nat→Value)→World→Prop)(hR:AFH n F l R (Array.replicate l.length true)=true)(hnd:R.Nodup)(hok:AA0 l L R deps=true)(hm:R.length=m)(hz:L.size=l.length)
  (h0:Inv (fun i=>L.getD i false) (fun _=>undef) w0) (hL:R.all (fun i => !L.getD i true)=true)
  (hop:∀i∈R,∀o,l[i]?=some o→∀dn vals w',(∀k∈deps i,k∈R∧dn k=true)→dn i=false→Inv dn vals w'→OpRun P n o (depF l vals (deps i)++F) w' (fun v w''=>Agr (MW N Wr B i) w' w''∧Inv (updD dn i) (Xi vals i v) w''))
  (hfin:∀dn vals w',(∀i∈R,dn i=true)→Inv dn vals w'→RD P n l N Wr B (Array.replicate l.length true) 0 (depF l vals R++F) w' p):RD P n l N Wr B L m F w0 p:=fun a k=>by
 have hno:∀i∈R,¬L.getD i false=true:=fun i hi h=>by
  have h1:=List.all_eq_true.1 hL i hi
  have hlt:i<L.size:=by have:=(Jz hR i hi).2.1;rw[Array.size_replicate] at this;omega
  rw[Ma hlt,h] at h1
  cases h1
 have:=AA3 L hR hnd hok hop hfin m L (by rw[List.filter_eq_self.2 (fun i hi=>List.all_eq_true.1 hL i hi)];exact hm) hz (fun _ h=>h) (fun i hi h=>absurd h (hno i hi)) (fun _=>undef) a w0 k h0 (fun i hi h=>absurd h (hno i hi))
 rwa [Nat.zero_add] at this
end
structure FanJ where
 a:Nat
 s:Nat
 el:TypeId
 z:List Value
 cs:Value→List Value
structure FanI (B:Nat) (M:Nat→Prop) (w0:World) (c:Nat) (E:Nat→Value→Value) (ps:List Nat) (js:List FanJ) (Q:Value→(Nat→Prop)→(World→Prop)→Prop) (pres:List Nat) (Φ:Nat→Value→World→Prop) (dn:Nat→Bool) (vals:Nat→Value) (w:World):Prop where
 S:Sub w0 w
 call:dn c=true→∃C I,Q (vals c) C I∧Go.Proofs.YtbjmllnddanniaaGreat.Ft C I w∧(∀k,C k→M k∨B≤k)∧∀j∈js,dn j.a=true→∀b,vals j.a=.pointer (some ⟨b,0,none⟩)→¬C b
 pure:∀i∈ps,dn i=true→vals i=E i (vals c)
 blk:∀j∈js,dn j.a=true→∃b,vals j.a=.pointer (some ⟨b,0,none⟩)∧w0.heap.size≤b∧Has w b (if dn j.s then j.cs (vals c) else j.z) j.el
 dis:∀j∈js,∀j'∈js,j.a≠j'.a→dn j.a=true→dn j'.a=true→∀b,vals j.a=.pointer (some ⟨b,0,none⟩)→vals j'.a≠.pointer (some ⟨b,0,none⟩)
 dp:∀i∈ps,dn i=true→dn c=true
 ds:∀j∈js,dn j.s=true→dn c=true∧dn j.a=true
 pre:∀i∈pres,dn i=true→dn c=false→Φ i (vals i) w
 pc:dn c=true→∀i∈pres,dn i=true
section
variable {P:Program} {n:Cx} {F:List (Nat × Value)} {p:Post} {l:List Oper} {N:Nat→Prop} {Wr:List Nat} {B:Nat} {f:Nat} {deps:Nat→List Nat} {Le:Array Bool}
theorem Qf{L:Array Bool}{w0:World}(m:Nat)(M:Nat→Prop)(c:Nat)(ps:List Nat)(js:List FanJ)(deps:Nat→List Nat)(E:Nat→Value→Value)(Q:Value→(Nat→Prop)→(World→Prop)→Prop)(pres:List Nat)(Φ:Nat→Value→World→Prop)
  (hR:AFH n F l (c::(ps++(js.map (·.a)++js.map (·.s)))++pres) (Array.replicate l.length true)=true) (hg:AA0 l L (c::(ps++(js.map (·.a)++js.map (·.s)))++pres) deps=true) (hm:(c::(ps++(js.map (·.a)++js.map (·.s)))++pres).length=m) (hz:L.size=l.length) (hL:(c::(ps++(js.map (·.a)++js.map (·.s)))++pres).all (fun i => !L.getD i true)=true)
  (hnd:(c::(ps++(js.map (·.a)++js.map (·.s)))++pres).Nodup) (hB:B≤w0.heap.size) (hM:∀k,M k→k<B) (hdp:∀i∈ps,c∈deps i∧∀k∈deps i,k=c∨k∈ps) (hds:∀j∈js,c∈deps j.s∧j.a∈deps j.s∧∀k∈deps j.s,k=c∨k∈ps∨k=j.a) (hE:∀u,E c u=u)
  (hst0:∀i v w1 w2,Φ i v w1→Sub w1 w2→Φ i v w2)
  (hpre:∀i∈pres,∀o,l[i]?=some o→∀vals w',Sub w0 w'→(∀k∈deps i,k∈pres→Φ k (vals k) w')→OpRun P n o (depF l vals (deps i)++F) w' (fun u w''=>Sub w' w''∧Φ i u w''))
  (hcp:∀i∈c::pres,∀k∈deps i,k∈pres) (hpd:∀i∈pres,i∈deps c)
  (hcall:∀o,l[c]?=some o→∀vals w',Sub w0 w'→(∀k∈deps c,Φ k (vals k) w')→OpRun P n o (depF l vals (deps c)++F) w' (fun u w''=>Sub w' w''∧∃C I,Q u C I∧Go.Proofs.YtbjmllnddanniaaGreat.Ft C I w''∧∀k,C k→M k∨w'.heap.size≤k))
  (hps:∀i∈ps,∀o,l[i]?=some o→∀vals w',(∀k∈deps i,vals k=E k (vals c))→(∃C I,Q (vals c) C I)→OpRun P n o (depF l vals (deps i)++F) w' (fun v w''=>w''=w'∧v=E i (vals c)))
  (hal:∀j∈js,∀o,l[j.a]?=some o→∀F' w',OpRun P n o F' w' (fun v w''=>Sub w' w''∧v=.pointer (some ⟨w'.heap.size,0,none⟩)∧Has w'' w'.heap.size j.z j.el))
  (hst:∀j∈js,∀o,l[j.s]?=some o→∀vals w' b,vals j.a=.pointer (some ⟨b,0,none⟩)→(∀k∈deps j.s,k≠j.a→vals k=E k (vals c))→(∃C I,Q (vals c) C I)→Has w' b j.z j.el→OpRun P n o (depF l vals (deps j.s)++F) w' (fun v w''=>Agr (· = b) w' w''∧Has w'' b (j.cs (vals c)) j.el))
  (hfin:∀vals w' C I,Sub w0 w'→Q (vals c) C I→Go.Proofs.YtbjmllnddanniaaGreat.Ft C I w'→(∀k,C k→M k∨B≤k)→(∀i∈ps,vals i=E i (vals c))→(∀j∈js,∃b,vals j.a=.pointer (some ⟨b,0,none⟩)∧w0.heap.size≤b∧Has w' b (j.cs (vals c)) j.el∧¬C b) →
   (∀j∈js,∀j'∈js,j.a≠j'.a→∀b,vals j.a=.pointer (some ⟨b,0,none⟩)→vals j'.a≠.pointer (some ⟨b,0,none⟩))→RD P n l N Wr B (Array.replicate l.length true) 0 (depF l vals (c::(ps++(js.map (·.a)++js.map (·.s)))++pres)++F) w' p):RD P n l N Wr B L m F w0 p:=by
 obtain⟨hnd0,_,ndp⟩:=List.nodup_append.1 hnd
 obtain⟨n1,n2⟩:=List.nodup_cons.1 hnd0
 obtain⟨n3,n4,n5⟩:=List.nodup_append.1 n2
 obtain⟨n6,n7,n8⟩:=List.nodup_append.1 n4
 have cp:∀i∈ps,i≠c:=fun i hi e=>n1 (e▸List.mem_append_left _ hi)
 have ca:∀j∈js,j.a≠c:=fun j hj e=>n1 (e▸List.mem_append_right _ (List.mem_append_left _ (List.mem_map_of_mem hj)))
 have cs:∀j∈js,j.s≠c:=fun j hj e=>n1 (e▸List.mem_append_right _ (List.mem_append_right _ (List.mem_map_of_mem hj)))
 have pa:∀i∈ps,∀j∈js,i≠j.a:=fun i hi j hj=>n5 i hi _ (List.mem_append_left _ (List.mem_map_of_mem hj))
 have pS:∀i∈ps,∀j∈js,i≠j.s:=fun i hi j hj=>n5 i hi _ (List.mem_append_right _ (List.mem_map_of_mem hj))
 have aS:∀j∈js,∀j'∈js,j.a≠j'.s:=fun j hj j' hj'=>n8 _ (List.mem_map_of_mem hj) _ (List.mem_map_of_mem hj')
 have inj:∀j∈js,∀j'∈js,j.a=j'.a→j=j':=fun j hj j' hj' e=>Go.Proofs.YtbjmllnddanniaaGreat.nodup_inj n6 hj hj' e
 have injS:∀j∈js,∀j'∈js,j.s=j'.s→j=j':=fun j hj j' hj' e=>Go.Proofs.YtbjmllnddanniaaGreat.nodup_inj n7 hj hj' e
 refine AHR _ deps m (FanI B M w0 c E ps js Q pres Φ) hR hnd hg hm hz ?_ hL ?_ ?_
 ·have hno:∀i∈(c::(ps++(js.map (·.a)++js.map (·.s)))++pres),¬L.getD i false=true:=fun i hi e=>by
   have:=List.all_eq_true.1 hL i hi
   have hlt:i<L.size:=by have:=(Jz hR i hi).2.1;rw[Array.size_replicate] at this;omega
   rw[Ma hlt,e] at this;cases this
  have m1:∀i∈ps,i∈(c::(ps++(js.map (·.a)++js.map (·.s)))++pres):=fun i hi=>List.mem_append_left _ (List.mem_cons_of_mem _ (List.mem_append_left _ hi))
  have m2:∀j∈js,j.a∈(c::(ps++(js.map (·.a)++js.map (·.s)))++pres):=fun j hj=>List.mem_append_left _ (List.mem_cons_of_mem _ (List.mem_append_right _ (List.mem_append_left _ (List.mem_map_of_mem hj))))
  have m3:∀j∈js,j.s∈(c::(ps++(js.map (·.a)++js.map (·.s)))++pres):=fun j hj=>List.mem_append_left _ (List.mem_cons_of_mem _ (List.mem_append_right _ (List.mem_append_right _ (List.mem_map_of_mem hj))))
  exact⟨Ax _,fun h=>absurd h (hno _ (List.mem_append_left _ (List.mem_cons_self ..))),fun i hi h=>absurd h (hno _ (m1 i hi)),fun j hj h=>absurd h (hno _ (m2 j hj)),fun j hj _ _ _ h=>absurd h (hno _ (m2 j hj)),fun i hi h=>absurd h (hno _ (m1 i hi)),fun j hj h=>absurd h (hno _ (m3 j hj)),fun i hi h=>absurd h (hno _ (List.mem_append_right _ hi)),fun h=>absurd h (hno _ (List.mem_append_left _ (List.mem_cons_self ..)))⟩
 ·intro i hi o ho dn vals w' hdep hun hI
  obtain⟨hS,hC,hP,hA,hD,hdpI,hdsI,hPre,hPc⟩:=hI
  have hwz:=hS.size
  have qc:∀i∈pres,i≠c:=fun i hi e=>ndp c (List.mem_cons_self ..) i hi e.symm
  have qp:∀i∈pres,∀k∈ps,i≠k:=fun i hi k hk e=>ndp k (List.mem_cons_of_mem _ (List.mem_append_left _ hk)) i hi e.symm
  have qa:∀i∈pres,∀j∈js,i≠j.a:=fun i hi j hj e=>ndp j.a (List.mem_cons_of_mem _ (List.mem_append_right _ (List.mem_append_left _ (List.mem_map_of_mem hj)))) i hi e.symm
  have qs:∀i∈pres,∀j∈js,i≠j.s:=fun i hi j hj e=>ndp j.s (List.mem_cons_of_mem _ (List.mem_append_right _ (List.mem_append_right _ (List.mem_map_of_mem hj)))) i hi e.symm
  rcases List.mem_append.1 hi with hi|hi
  rotate_left
  ·-- ahead of the call
   have hpc:∀i∈pres,dn c=false:=fun _ _=>by
    cases hcd:dn c with
    |false=>rfl
    |true=>exact absurd (hPc hcd i hi) (by rw[hun];decide)
   refine OpRun.mono (hpre i hi o ho vals w' hS (fun k hk hkp=>?_)) (fun u w'' ⟨s,hφ⟩=>?_)
   ·exact hPre k hkp (hdep k hk).2 (hpc i hi)
   have vc:Xi vals i u c=vals c:=Ds (qc i hi).symm
   refine⟨s.agr,hS.trans s,fun hd=>?_,fun k hk hd=>?_,fun j hj hd=>?_,fun j hj j' hj' hne hd hd' b hb=>?_,fun k hk hd=>Bv.2 (.inr (hdpI k hk ((Bv.1 hd).resolve_left (qp i hi k hk).symm))),fun j hj hd=>?_,fun k hk hd hc=>?_,fun hd k hk=>Bv.2 (.inr (hPc ((Bv.1 hd).resolve_left (qc i hi).symm) k hk))⟩
   ·obtain⟨C,I,h1,h2,h3,h4⟩:=hC ((Bv.1 hd).resolve_left (qc i hi).symm)
    refine⟨C,I,by rw[vc];exact h1,h2.sub s,h3,fun j hj hd b hb=>?_⟩
    rw[Ds (qa i hi j hj).symm] at hb
    exact h4 j hj ((Bv.1 hd).resolve_left (qa i hi j hj).symm) b hb
   ·rw[Ds (qp i hi k hk).symm,vc];exact hP k hk ((Bv.1 hd).resolve_left (qp i hi k hk).symm)
   ·obtain⟨b',e1,hb1,hb2⟩:=hA j hj ((Bv.1 hd).resolve_left (qa i hi j hj).symm)
    exact⟨b',by rw[Ds (qa i hi j hj).symm];exact e1,hb1,by rw[Ks (qs i hi j hj).symm,vc];exact hb2.sub s⟩
   ·rw[Ds (qa i hi j hj).symm] at hb
    rw[Ds (qa i hi j' hj').symm]
    exact hD j hj j' hj' hne ((Bv.1 hd).resolve_left (qa i hi j hj).symm) ((Bv.1 hd').resolve_left (qa i hi j' hj').symm) b hb
   ·have:=hdsI j hj ((Bv.1 hd).resolve_left (qs i hi j hj).symm)
    exact⟨Bv.2 (.inr this.1),Bv.2 (.inr this.2)⟩
   ·rw[Ks (qc i hi).symm] at hc
    by_cases e:k=i
    ·rw[e,Hk];exact hφ
    ·rw[Ds e];exact hst0 k _ _ _ (hPre k hk ((Bv.1 hd).resolve_left e) hc) s
  rcases List.mem_cons.1 hi with rfl|hi
  ·refine OpRun.mono (hcall o ho vals w' hS (fun k hk=>hPre k (hcp _ (List.mem_cons_self ..) k hk) (hdep k hk).2 hun)) (fun u w'' ⟨s,C,I,hQ,hF,hup⟩=>⟨s.agr,hS.trans s,fun _=>⟨C,I,by rw[Hk];exact hQ,hF,fun k hk=>(hup k hk).imp id fun h=>by omega,fun j hj hd b hb hCb=>?_⟩,fun k hk hd=>?_,fun j hj hd=>?_,fun j hj j' hj' hne hd hd' b hb=>?_,fun k hk hd=>Bv.2 (.inl rfl),fun j hj hd=>?_,fun k hk hd hc=>(by rw[Bv.2 (.inl rfl)] at hc;cases hc),fun _ k hk=>Bv.2 (.inr (hdep k (hpd k hk)).2)⟩)
   ·rw[Ds (ca j hj)] at hb
    obtain⟨b',e,hb1,hb2⟩:=hA j hj ((Bv.1 hd).resolve_left (ca j hj))
    rw[hb] at e
    simp only[Value.pointer.injEq,Option.some.injEq,Addr.mk.injEq] at e
    obtain⟨rfl,_⟩:=e
    have:=hb2.lt
    rcases hup b hCb with h|h
    ·have:=hM b h;omega
    ·omega
   ·have:=hdpI k hk ((Bv.1 hd).resolve_left (cp k hk));rw[hun] at this;cases this
   ·obtain⟨b',e,hb1,hb2⟩:=hA j hj ((Bv.1 hd).resolve_left (ca j hj))
    refine⟨b',by rw[Ds (ca j hj)];exact e,hb1,?_⟩
    rw[Ks (cs j hj)]
    cases hs:dn j.s with
    |true=>have:=(hdsI j hj hs).1;rw[hun] at this;cases this
    |false=>rw[hs] at hb2;exact hb2.sub s
   ·rw[Ds (ca j hj)] at hb
    rw[Ds (ca j' hj')]
    exact hD j hj j' hj' hne ((Bv.1 hd).resolve_left (ca j hj)) ((Bv.1 hd').resolve_left (ca j' hj')) b hb
   ·have:=(hdsI j hj ((Bv.1 hd).resolve_left (cs j hj))).1;rw[hun] at this;cases this
  ·rcases List.mem_append.1 hi with hi|hi
   ·-- what only reads
    have hdc:dn c=true:=(hdep c (hdp i hi).1).2
    have hq:∃C I,Q (vals c) C I:=let ⟨C,I,h,_⟩:=hC hdc;⟨C,I,h⟩
    refine OpRun.mono (hps i hi o ho vals w' (fun k hk=>?_) hq) (fun v w'' ⟨e1,e2⟩=>?_)
    ·rcases(hdp i hi).2 k hk with rfl|h
     ·exact(hE _).symm
     ·exact hP k h (hdep k hk).2
    ·subst e1 e2
     have vc:Xi vals i (E i (vals c)) c=vals c:=Ds (cp i hi).symm
     refine⟨(Agr.refl _ _),hS,fun _=>?_,fun k hk hd=>?_,fun j hj hd=>?_,fun j hj j' hj' hne hd hd' b hb=>?_,fun k hk hd=>Bv.2 (.inr hdc),fun j hj hd=>?_,fun k hk hd hc=>(by rw[Bv.2 (.inr hdc)] at hc;cases hc),fun _ k hk=>Bv.2 (.inr (hPc hdc k hk))⟩
     ·obtain⟨C,I,h1,h2,h3,h4⟩:=hC hdc
      refine⟨C,I,by rw[vc];exact h1,h2,h3,fun j hj hd b hb=>?_⟩
      rw[Ds (pa i hi j hj).symm] at hb
      exact h4 j hj ((Bv.1 hd).resolve_left (pa i hi j hj).symm) b hb
     ·rw[vc]
      by_cases e:k=i
      ·rw[e,Hk]
      ·rw[Ds e];exact hP k hk ((Bv.1 hd).resolve_left e)
     ·obtain⟨b',e,hb1,hb2⟩:=hA j hj ((Bv.1 hd).resolve_left (pa i hi j hj).symm)
      exact⟨b',by rw[Ds (pa i hi j hj).symm];exact e,hb1,by rw[Ks (pS i hi j hj).symm,vc];exact hb2⟩
     ·rw[Ds (pa i hi j hj).symm] at hb
      rw[Ds (pa i hi j' hj').symm]
      exact hD j hj j' hj' hne ((Bv.1 hd).resolve_left (pa i hi j hj).symm) ((Bv.1 hd').resolve_left (pa i hi j' hj').symm) b hb
     ·have:=hdsI j hj ((Bv.1 hd).resolve_left (pS i hi j hj).symm)
      exact⟨Bv.2 (.inr this.1),Bv.2 (.inr this.2)⟩
   ·rcases List.mem_append.1 hi with hi|hi
    ·-- a new block
     obtain⟨j0,hj0,rfl⟩:=List.mem_map.1 hi
     refine OpRun.mono (hal j0 hj0 o ho _ w') (fun v w'' ⟨s,e,hh⟩=>?_)
     subst e
     have vc:Xi vals j0.a (.pointer (some ⟨w'.heap.size,0,none⟩)) c=vals c:=Ds (ca j0 hj0).symm
     refine⟨s.agr,hS.trans s,fun hd=>?_,fun k hk hd=>?_,fun j hj hd=>?_,fun j hj j' hj' hne hd hd' b hb=>?_,fun k hk hd=>Bv.2 (.inr (hdpI k hk ((Bv.1 hd).resolve_left (pa k hk j0 hj0)))),fun j hj hd=>?_,fun k hk hd hc=>by rw[Ks (ca j0 hj0).symm] at hc;rw[Ds (qa k hk j0 hj0)];exact hst0 k _ _ _ (hPre k hk ((Bv.1 hd).resolve_left (qa k hk j0 hj0)) hc) s,fun hd k hk=>Bv.2 (.inr (hPc ((Bv.1 hd).resolve_left (ca j0 hj0).symm) k hk))⟩
     ·obtain⟨C,I,h1,h2,h3,h4⟩:=hC ((Bv.1 hd).resolve_left (ca j0 hj0).symm)
      refine⟨C,I,by rw[vc];exact h1,h2.sub s,h3,fun j hj hd b hb=>?_⟩
      by_cases e:j.a=j0.a
      ·rw[e,Hk] at hb
       simp only[Value.pointer.injEq,Option.some.injEq,Addr.mk.injEq] at hb
       obtain⟨rfl,_⟩:=hb
       intro hCb;have:=h2.lt _ hCb;omega
      ·rw[Ds e] at hb;exact h4 j hj ((Bv.1 hd).resolve_left e) b hb
     ·rw[Ds (pa k hk j0 hj0),vc];exact hP k hk ((Bv.1 hd).resolve_left (pa k hk j0 hj0))
     ·rw[vc]
      by_cases e:j.a=j0.a
      ·obtain rfl:=inj j hj j0 hj0 e
       refine⟨_,Hk ..,by omega,?_⟩
       rw[Ks (aS j hj j hj).symm]
       cases hs:dn j.s with
       |true=>have:=(hdsI j hj hs).2;rw[hun] at this;cases this
       |false=>exact hh
      ·obtain⟨b',e1,hb1,hb2⟩:=hA j hj ((Bv.1 hd).resolve_left e)
       exact⟨b',by rw[Ds e];exact e1,hb1,by rw[Ks (aS j0 hj0 j hj).symm];exact hb2.sub s⟩
     ·have lt:∀j∈js,dn j.a=true→∀b,vals j.a=.pointer (some ⟨b,0,none⟩)→b<w'.heap.size:=fun j hj hd b hb=>by
       obtain⟨b',e1,hb1,hb2⟩:=hA j hj hd
       rw[hb] at e1
       simp only[Value.pointer.injEq,Option.some.injEq,Addr.mk.injEq] at e1
       rw[e1.1];exact hb2.lt
      by_cases e:j.a=j0.a
      ·have e':j'.a≠j0.a:=fun q=>hne (e.trans q.symm)
       rw[e,Hk] at hb
       simp only[Value.pointer.injEq,Option.some.injEq,Addr.mk.injEq] at hb
       rw[Ds e',←hb.1]
       exact fun q=>absurd (lt j' hj' ((Bv.1 hd').resolve_left e') _ q) (Nat.lt_irrefl _)
      ·rw[Ds e] at hb
       have h1:=(Bv.1 hd).resolve_left e
       by_cases e':j'.a=j0.a
       ·rw[e',Hk]
        intro q
        simp only[Value.pointer.injEq,Option.some.injEq,Addr.mk.injEq] at q
        have:=lt j hj h1 b hb
        omega
       ·rw[Ds e']
        exact hD j hj j' hj' hne h1 ((Bv.1 hd').resolve_left e') b hb
     ·have:=hdsI j hj ((Bv.1 hd).resolve_left (aS j0 hj0 j hj).symm)
      exact⟨Bv.2 (.inr this.1),Bv.2 (.inr this.2)⟩
    ·-- an answer goes to its block
     obtain⟨j0,hj0,rfl⟩:=List.mem_map.1 hi
     have hdc:dn c=true:=(hdep c (hds j0 hj0).1).2
     have hda:dn j0.a=true:=(hdep j0.a (hds j0 hj0).2.1).2
     obtain⟨b0,hv0,hb0,hh0⟩:=hA j0 hj0 hda
     rw[hun] at hh0
     have hq:∃C I,Q (vals c) C I:=let ⟨C,I,h,_⟩:=hC hdc;⟨C,I,h⟩
     refine OpRun.mono (hst j0 hj0 o ho vals w' b0 hv0 (fun k hk hka=>?_) hq hh0) (fun v w'' ⟨a,hh⟩=>?_)
     ·rcases(hds j0 hj0).2.2 k hk with rfl|h|h
      ·exact(hE _).symm
      ·exact hP k h (hdep k hk).2
      ·exact absurd h hka
     ·have vk:∀k,k≠j0.s→Xi vals j0.s v k=vals k:=fun k h=>Ds h
      have vc:=vk c (cs j0 hj0).symm
      refine⟨a.mono fun k _ e=>.inr (by rw[e];omega),hS.agrN a (fun k e=>by rw[e];exact hb0),fun _=>?_,fun k hk hd=>?_,fun j hj hd=>?_,fun j hj j' hj' hne hd hd' b hb=>?_,fun k hk hd=>Bv.2 (.inr hdc),fun j hj hd=>?_,fun k hk hd hc=>(by rw[Bv.2 (.inr hdc)] at hc;cases hc),fun _ k hk=>Bv.2 (.inr (hPc hdc k hk))⟩
      ·obtain⟨C,I,h1,h2,h3,h4⟩:=hC hdc
       have hc0:=h4 j0 hj0 hda b0 hv0
       refine⟨C,I,by rw[vc];exact h1,h2.step a (fun k hk e=>hc0 (e▸hk)),h3,fun j hj hd b hb=>?_⟩
       rw[vk _ (aS j hj j0 hj0)] at hb
       exact h4 j hj ((Bv.1 hd).resolve_left (aS j hj j0 hj0)) b hb
      ·rw[vk k (pS k hk j0 hj0),vc];exact hP k hk ((Bv.1 hd).resolve_left (pS k hk j0 hj0))
      ·rw[vc,vk _ (aS j hj j0 hj0)]
       have hdj:=(Bv.1 hd).resolve_left (aS j hj j0 hj0)
       by_cases e:j.a=j0.a
       ·obtain rfl:=inj j hj j0 hj0 e
        refine⟨b0,hv0,hb0,?_⟩
        rw[if_pos (Bv.2 (.inl rfl))];exact hh
       ·obtain⟨b',e1,hb1,hb2⟩:=hA j hj hdj
        refine⟨b',e1,hb1,?_⟩
        rw[Ks (fun q=>e (by rw[injS j hj j0 hj0 q]))]
        exact hb2.upd a (fun q=>hD j hj j0 hj0 e hdj hda b' e1 (by rw[q];exact hv0))
      ·rw[vk _ (aS j hj j0 hj0)] at hb
       rw[vk _ (aS j' hj' j0 hj0)]
       exact hD j hj j' hj' hne ((Bv.1 hd).resolve_left (aS j hj j0 hj0)) ((Bv.1 hd').resolve_left (aS j' hj' j0 hj0)) b hb
      ·by_cases e:j.s=j0.s
       ·obtain rfl:=injS j hj j0 hj0 e
        exact⟨Bv.2 (.inr hdc),Bv.2 (.inr hda)⟩
       ·have:=hdsI j hj ((Bv.1 hd).resolve_left e)
        exact⟨Bv.2 (.inr this.1),Bv.2 (.inr this.2)⟩
 ·intro dn vals w' hall hI
  obtain⟨hS,hC,hP,hA,hD,_,_,_,_⟩:=hI
  have hall:=fun i hi=>hall i (List.mem_append_left pres hi)
  have ma:∀j∈js,dn j.a=true:=fun j hj=>hall _ (List.mem_cons_of_mem _ (List.mem_append_right _ (List.mem_append_left _ (List.mem_map_of_mem hj))))
  obtain⟨C,I,h1,h2,h3,h4⟩:=hC (hall _ (List.mem_cons_self ..))
  refine hfin vals w' C I hS h1 h2 h3 (fun i hi=>hP i hi (hall _ (List.mem_cons_of_mem _ (List.mem_append_left _ hi)))) (fun j hj=>?_) (fun j hj j' hj' hne b hb=>hD j hj j' hj' hne (ma j hj) (ma j' hj') b hb)
  obtain⟨b,e1,e2,e3⟩:=hA j hj (ma j hj)
  rw[if_pos (hall _ (List.mem_cons_of_mem _ (List.mem_append_right _ (List.mem_append_right _ (List.mem_map_of_mem hj)))))] at e3
  exact⟨b,e1,e2,e3,h4 j hj (ma j hj) b e1⟩
end
section
variable {P:Program} {n:Cx} {F:List (Nat × Value)} {w:World} {d:Nat} {t:TypeId} {pos:String} {af:Array Edge}
theorem Fi{el:TypeId}{z:Value}(hz:zeroOf P el=some z)(hd:Nat.blt d n.size=true)(hR:n.round=none:=by rfl):
  OpRun P n ⟨some d,.alloc el,t,pos,af,none⟩ F w (fun v w'=>Sub w w'∧v=.pointer (some ⟨w.heap.size,0,none⟩)∧Has w' w.heap.size z.cells.toList el) :=
 Jo (ops:=#[]) hR rfl hd (Ay hz rfl hd fun b w' e _ h s1=>OpRun.nil (v:=.pointer (some ⟨b,0,none⟩)) rfl (by simp[upd,Ep]) ⟨s1,by rw[e],e▸h⟩)
theorem Fh{ty x y b e cs v k s}(hs:shapeOf P ty=some (k,s))(hx:XL.ev F x=some (.pointer (some ⟨b,0,none⟩)))(hy:XL.ev F y=some v)(hz:v.cells.size=s)(hb:Has w b cs e)(hl:cs.length=v.cells.toList.length)(hp:v.cells.toList.all Gj=true)(hR:n.round=none:=by rfl):
  OpRun P n ⟨none,.store ty x y,t,pos,af,none⟩ F w (fun _ w'=>Agr (· = b) w w'∧Has w' b v.cells.toList e) :=
 Jo (ops:=#[]) hR rfl rfl (Cg hs hx hy hz hb (by omega) hp rfl fun w' _ h a=>Ae fun ac k=>⟨k.defers,undef,fun d h=>(by cases h),a,h.now hl⟩)
end
end Go.XL
set_option linter.unusedVariables false
set_option linter.unusedSimpArgs false
namespace Go.Proofs.YtbjmllnddanniaaGreat
open Go Go.XL
structure NextP (A:Ar) (v:Ver) (V:List Int) (o:OpT) (R:Rt) (B:Ar):Prop where
 row:RowA B R (Gw V o).1
 old:RowA B v.rt V
 len:B.nodes.length=A.nodes.length
 free:A.free.length≤B.free.length+(V.length+2)
def Uz(v:Ver)(V:List Int)(k:Nat)(an:AnT)(R:Rt):Ver:=⟨v.no+1,R,v.ap.set k an.seq,v.rs.set k (rsR (Gw V an.op).2)⟩
theorem AE1(a:Addr)(m n:Nat):(a.add m).add n=a.add (m+n):=by
 unfold Addr.add
 by_cases hm:m=0<;>by_cases hn:n=0<;>simp[hm,hn,Nat.add_assoc]
theorem AAX{w:World}{a:Addr}{cs pre mid post:List Value}(h:Row w a cs)(hc:cs=pre++mid++post):Row w (a.add pre.length) mid:=by
 intro i v hv
 have hlt:i<mid.length:=by
  rcases Nat.lt_or_ge i mid.length with q|q
  ·exact q
  ·rw[List.getElem?_eq_none q] at hv;cases hv
 rw[AE1]
 refine h (pre.length+i) v ?_
 rw[hc,List.append_assoc,List.getElem?_append_right (by omega),Nat.add_sub_cancel_left,List.getElem?_append_left hlt,hv]
theorem Po(l:List Int):∀r∈l.map fun x=>[i6 x],r.length=1:=fun r hr=>by obtain⟨z,_,rfl⟩:=List.mem_map.1 hr;rfl
theorem AFP(l:List RsT):∀r∈l.map RsT.cells,r.length=3:=fun r hr=>by obtain⟨z,_,rfl⟩:=List.mem_map.1 hr;rfl
theorem ABg(A:Ar)(na fa:Option Addr)(nc fc:Nat)(l:List Int)(pa:Option Addr)(pc:Nat)(m:Nat)(hm:m=l.length)(hl:l.length≤1000)(hok:AOk A)(hnd:l.Nodup)(hu:∀p∈l,0≤p∧∃x,A.nodes[p.toNat]?=some x∧¬x.kind=0)(hfc:A.free.length≤fc)(M:Nat→Prop)(w:World)(hA:Ft M (fun u=>ArR u na fa A) w)(hP:Sl w pa 1 (l.map fun x=>[i6 x])):
  FC Tryz.prog 227 [arV na fa nc fc A,.slice pa m pc] w (fun v w'=>Sub w w'∧∃B nb fb ncb fcb C,v=.tuple #[arV nb fb ncb fcb B,.int .i64 0]∧B.nodes.length≤ncb∧B.free.length≤fcb∧Ft C (fun u=>ArR u nb fb B) w'∧Up M w C∧Cut A l B):=by
 subst hm
 obtain⟨B,hB,hc⟩:=ABR l hok hnd hu
 refine FC.mono (AIV A na fa nc fc l pa pc (by omega) (fun x hx=>?_) w hA.now hfc hP) (fun v w' ⟨s,h⟩=>⟨s,?_⟩)
 ·obtain⟨h0,y,hy,_⟩:=hu x hx
  have:=Cc hy
  have:=hok.most
  unfold I64;omega
 ·rcases h with⟨h1,_⟩|⟨_,A',av,h1,rfl,na',fa',nc',fc',rfl,h2,h3,h4⟩
  ·rcases h1 with h1|h1
   ·exact absurd hok h1
   ·rw[hB] at h1;cases h1
  ·rw[hB] at h1;cases h1
   exact⟨B,na',fa',nc',fc',_,rfl,h2,h3,hA.ans h4 s,fun k hk=>hk.imp id And.left,hc⟩
def PhN(v:Ver)(B:Nat)(i:Nat)(val:Value)(w:World):Prop :=
 if i=7 then PhO B 3 (v.ap.map fun x=>[i6 x]) val w else if i=10 then PhO B 38 (v.rs.map RsT.cells) val w
 else if i=11 then∃b1 c1 e1 b2 c2 e2,val=.agg #[.int .i64 (v.no+1),.int .u64 v.rt.m,.int .u64 v.rt.t,.int .u64 v.rt.r,.int .u64 v.rt.h,.slice (some ⟨b1,0,none⟩) v.ap.length c1,.slice (some ⟨b2,0,none⟩) v.rs.length c2]∧(B≤b1∧v.ap.length≤c1∧Has w b1 ((v.ap.map fun x=>[i6 x]).flatten++e1) 3)∧(B≤b2∧v.rs.length≤c2∧Has w b2 ((v.rs.map RsT.cells).flatten++e2) 38)
 else∃b,val=.pointer (some ⟨b,0,none⟩)∧B≤b∧Has w b [.int .i64 0,.int .u64 0,.int .u64 0,.int .u64 0,.int .u64 0,.slice none 0 0,.slice none 0 0] 77
theorem PhN.sub{v:Ver}{B:Nat}(i:Nat)(val:Value)(w w':World)(h:PhN v B i val w)(s:Sub w w'):PhN v B i val w':=by
 unfold PhN at *
 split
 ·rename_i h1;rw[if_pos h1] at h;exact h.sub s
 ·rename_i h1;rw[if_neg h1] at h
  split
  ·rename_i h2;rw[if_pos h2] at h;exact h.sub s
  ·rename_i h2;rw[if_neg h2] at h
   split
   ·rename_i h3;rw[if_pos h3] at h;obtain⟨b1,c1,e1,b2,c2,e2,e,⟨g1,g2,g3⟩,g4,g5,g6⟩:=h;exact⟨b1,c1,e1,b2,c2,e2,e,⟨g1,g2,g3.sub s⟩,g4,g5,g6.sub s⟩
   ·rename_i h3;rw[if_neg h3] at h;obtain⟨b,e,k,hb⟩:=h;exact⟨b,e,k,hb.sub s⟩
def AMv(i:Nat):List Nat:=if i=11 then[7,10] else[]
def AMA:Array Bool:=#[true,true,true,true,true,true,true,true,true,true,true,true,true,false]
structure NxS where
 i:Nat
 B:Ar
 R:Rt
 nb:Option Addr
 fb:Option Addr
 ncb:Nat
 fcb:Nat
 MB:Nat→Prop
 ap:List Int
 rs:List RsT
theorem ACe{A B:Ar}{R R2:Rt}{V:List Int}{o:OpT}{x:RsT}(h0:RowA A R V)(hb:o.box=3)(hf:V.length+2≤A.free.length)(h:DoG A R (Pg V) o x B R2)(h2:R2.h=0∧R2.m=R.m∧R2.t=R.t):RowA B R2 (Gw V o).1∧Ext A B∧A.free.length≤B.free.length+(V.length+2)∧x=rsR (Gw V o).2:=by
 have hd:doM (Pg V) o=({Pg V with row:=(Gw V o).1},(Gw V o).2):=by unfold doM;rw[if_neg (by omega),if_neg (by omega),if_pos hb];rfl
 rcases h.out with⟨_,_,_,h3⟩|⟨h3,h4,h5⟩
 ·exact absurd h3 (Nat.not_lt.2 hf)
 ·rw[hd] at h3 h4
  exact⟨⟨h.ok,h.rok,h2.2.1.trans h0.m0,h2.2.2.trans h0.t0,h2.1,h3.row,h3.rowl⟩,h.ext,h5,h4⟩
set_option maxRecDepth 10000 in
set_option maxHeartbeats 400000 in
theorem AJ9(n:Nat)(A:Ar)(na fa:Option Addr)(nc fc:Nat)(hnc:A.nodes.length≤nc)(hfc:A.free.length≤fc)(x:RcP)(v:Ver)(V:List Int)(hv:VerOk n A v (Pg V))(hm0:RowA A v.rt V)(l:List AnT)(la:Option Addr)(lc:Nat)(hln:l.length=n)(hlok:∀x∈l,x.ok)
  (k:Nat) (an:AnT) (hk:l[k]?=some an) (hp:Tm l v.ap=[(k:Int)]) (hb:an.op.box=3) (hkd:an.op.kind=2∨an.op.kind=5) (hok:okP an.op) (hno:v.no<1099511627776) (hfr:V.length+2≤A.free.length) (M:Nat→Prop) (w:World) (hA:Ft M (fun u=>ArR u na fa A) w) (hx:RcR w x v) (hl:Sl w la 5 (l.map AnT.cells)) :
  FC Tryz.prog 225 [arV na fa nc fc A,x.val,.slice la l.length lc] w (fun u w'=>Sub w w'∧∃B nb fb ncb fcb x' R M',u=.tuple #[arV nb fb ncb fcb B,x'.val,.int .i64 0]∧B.nodes.length≤ncb∧B.free.length≤fcb∧NextP A v V an.op R B∧Ft M' (fun u=>ArR u nb fb B∧RcR u x' (Uz v V k an R)) w'∧Up M w M'):=by
 have h1:=hv.an
 have h2:=hv.rn
 have h3:=hv.nn
 have hx0:=hx
 have hvn:=hv.no
 unfold Hn at hvn
 obtain⟨no,rt,aa,an',ac,ra,rn',rc⟩:=x
 obtain⟨rfl,rfl,rfl,rfl,hac,hrc,hap,hrs⟩:=hx
 simp only[] at hac hrc hap hrs
 refine As Tryz.func225 rfl Tryz.ntmps225 rfl ?_
 have S:=Ax w
 refine Ac<|Aa rfl<|Bu rfl rfl rfl (fun b_3 w_3 e_3 z_3 hb_3 s_3=>?_);have ge_3:=S.le e_3;have d_hA_b_3:=hA.neNew e_3;have S:=S.trans s_3;have hA:=hA.sub s_3
 have hb_3:Has w_3 b_3 ([.slice na A.nodes.length nc,.slice fa A.free.length fc]) _:=hb_3
 refine Bu rfl rfl rfl (fun b_4 w_4 e_4 z_4 hb_4 s_4=>?_);have ge_4:=S.le e_4;have n_3__4:=hb_3.ne e_4;have d_hA_b_4:=hA.neNew e_4;have S:=S.trans s_4;have hA:=hA.sub s_4;have hb_3:=hb_3.sub s_4
 have hb_4:Has w_4 b_4 ([.int .i64 v.no,.int .u64 v.rt.m,.int .u64 v.rt.t,.int .u64 v.rt.r,.int .u64 v.rt.h,.slice aa v.ap.length ac,.slice ra v.rs.length rc]) _:=hb_4
 refine Ay Fy rfl rfl (fun b_6 w_6 e_6 z_6 hb_6 s_6=>?_);have ge_6:=S.le e_6;have n_3__6:=hb_3.ne e_6;have n_4__6:=hb_4.ne e_6;have d_hA_b_6:=hA.neNew e_6;have S:=S.trans s_6;have hA:=hA.sub s_6;have hb_3:=hb_3.sub s_6;have hb_4:=hb_4.sub s_6;refine Ay Gx rfl rfl (fun b_7 w_7 e_7 z_7 hb_7 s_7=>?_);have ge_7:=S.le e_7;have n_3__7:=hb_3.ne e_7;have n_4__7:=hb_4.ne e_7;have n_6__7:=hb_6.ne e_7;have d_hA_b_7:=hA.neNew e_7;have S:=S.trans s_7;have hA:=hA.sub s_7;have hb_3:=hb_3.sub s_7;have hb_4:=hb_4.sub s_7;have hb_6:=hb_6.sub s_7;refine Ah rfl<|Ae<|Ab<|Ac<|Ac<|Aa rfl<|Ak (.loadR ([.slice na A.nodes.length nc,.slice fa A.free.length fc]) Cb rfl hb_3.row rfl)<|Ak (.loadR ([.int .i64 v.no,.int .u64 v.rt.m,.int .u64 v.rt.t,.int .u64 v.rt.r,.int .u64 v.rt.h,.slice aa v.ap.length ac,.slice ra v.rs.length rc]) Fs rfl hb_4.row rfl)<|Az rfl AIw (ABe n A na fa nc fc hnc hfc ⟨v.no,v.rt,aa,v.ap.length,ac,ra,v.rs.length,rc⟩ v (Pg V) w_7 hA.now (hx0.sub S) hv) ?_;rintro _ w1 ⟨rfl,s2⟩;have S:=S.trans s2;have hA:=hA.sub s2;have hb_3:=hb_3.sub s2;have hb_4:=hb_4.sub s2;have hb_6:=hb_6.sub s2;have hb_7:=hb_7.sub s2;refine Ak (.not rfl)<|Af rfl<|Af rfl<|Az rfl ALS (AKN l la lc _ rfl (by omega) hlok w1 (hl.sub S)) ?_;rintro _ w3 ⟨rfl,s4⟩;have S:=S.trans s4;have hA:=hA.sub s4;have hb_3:=hb_3.sub s4;have hb_4:=hb_4.sub s4;have hb_6:=hb_6.sub s4;have hb_7:=hb_7.sub s4;refine Ak (.not rfl)<|Bq rfl rfl<|Af rfl<|Av Hy rfl<|Ba sh3 rfl hb_4 rfl<|Ak (.as (v':=.bool false) (.bin rfl rfl rfl) (Bt (by omega)))<|Bq rfl rfl<|Ae<|Ab<|Bw rfl<|Ao<|Ab<|Ac<|Aa rfl<|Ak (.loadR ([.slice na A.nodes.length nc,.slice fa A.free.length fc]) Cb rfl hb_3.row rfl)<|Ay Fy rfl rfl (fun b_9 w_9 e_9 z_9 hb_9 s_9=>?_);have ge_9:=S.le e_9;have n_3__9:=hb_3.ne e_9;have n_4__9:=hb_4.ne e_9;have n_6__9:=hb_6.ne e_9;have n_7__9:=hb_7.ne e_9;have d_hA_b_9:=hA.neNew e_9;have S:=S.trans s_9;have hA:=hA.sub s_9;have hb_3:=hb_3.sub s_9;have hb_4:=hb_4.sub s_9;have hb_6:=hb_6.sub s_9;have hb_7:=hb_7.sub s_9;refine At Cb rfl rfl rfl hb_9 (fun w5 z5 hb_9 a5=>?_);have S:=S.upd a5 ge_9;have hA:=hA.updD a5 d_hA_b_9;have hb_3:=hb_3.upd a5 n_3__9;have hb_4:=hb_4.upd a5 n_4__9;have hb_6:=hb_6.upd a5 n_6__9;have hb_7:=hb_7.upd a5 n_7__9
 have hb_9:Has w5 b_9 ([.slice na A.nodes.length nc,.slice fa A.free.length fc]) _:=hb_9.now (by kernel_rfl)
 refine Ae<|Ab<|Ac<|Bs (fun k=>False) [13] w5.heap.size 14 rfl rfl mxo (fun w6 s7=>?_)
 have hNN:∀k,((False)∨w5.heap.size≤k)→w.heap.size≤k:=fun k e=>e.elim (fun e=>e.elim) (fun e=>Ad S.size e)
 have ent_S:=S.size
 have hN0:∀k,w5.heap.size≤k→w.heap.size≤k:=fun k e=>Ad S.size e
 have ltD_hA:=fun k hk=>(hA.ge k hk).2
 have ltD_b_3:=hb_3.lt;have ltD_b_4:=hb_4.lt;have ltD_b_6:=hb_6.lt;have ltD_b_7:=hb_7.lt;have ltD_b_9:=hb_9.lt;have szD:=Nat.le_refl w5.heap.size;have S:=S.trans s7;have hA:=hA.sub s7;have hb_3:=hb_3.sub s7;have hb_4:=hb_4.sub s7;have hb_6:=hb_6.sub s7;have hb_7:=hb_7.sub s7;have hb_9:=hb_9.sub s7;have szD:=Ad szD s7.size;refine Bl 0 rfl Hy rfl<|Ck 1 rfl sh3 rfl hb_4 (nE id ltD_b_4) rfl<|Bg 2 rfl (fun _ _=>.as (.bin rfl rfl rfl) (Cs (y:=v.no+1) (by rfl) (by omega)))<|Bl 3 rfl Qc rfl<|Bg 4 rfl (fun w' s'=>.loadR (v.rt.cells) Nf rfl (Ee (pre:=[.int .i64 v.no]) (mid:=v.rt.cells) (post:=[.slice aa v.ap.length ac,.slice ra v.rs.length rc]) (hb_4.step s' (nE id ltD_b_4)) rfl) rfl)<|Bl 5 rfl Jq rfl<|Ck 6 rfl El rfl hb_4 (nE id ltD_b_4) rfl<|Bl 8 rfl Sd rfl<|Ck 9 rfl ADy rfl hb_4 (nE id ltD_b_4) rfl<|AIb (f:=1) [7,10,11,12] AMv AMA 4 (PhN v w5.heap.size) (by kernel_rfl) (by kernel_rfl) rfl (by kernel_rfl) PhN.sub (fun i hi o' ho' vals w' s hd=>?_) (fun vals wg sg hv4=>?_)
 ·have hSw:=S.trans s
  simp only[List.mem_cons,List.not_mem_nil,or_false] at hi
  rcases hi with rfl|rfl|rfl|rfl<;>cases ho'
  ·refine Gd rfl AFc (ABa v.ap aa ac _ rfl w' (hap.sub hSw) (by omega)) rfl ?_
   rintro u w'' ⟨a',c',rfl,o,s2⟩
   exact⟨s2,(PhO.of o (by rw[Aj];omega)).low (Ad szD s.size)⟩
  ·refine Gd rfl ALR (AEv v.rs ra rc _ rfl w' (hrs.sub hSw) (by omega)) rfl ?_
   rintro u w'' ⟨a',c',rfl,o,s2⟩
   exact⟨s2,(PhO.of o (by rw[Aj];omega)).low (Ad szD s.size)⟩
  ·obtain⟨b1,c1,x1,e7,g1,g2,g3⟩:PhO _ 3 (v.ap.map fun x=>[i6 x]) (vals 7) w':=hd 7 (by decide)
   obtain⟨b2,c2,x2,e10,g4,g5,g6⟩:PhO _ 38 (v.rs.map RsT.cells) (vals 10) w':=hd 10 (by decide)
   rw[Aj] at e7 e10 g2 g5
   show OpRun _ _ _ ((43,vals 7)::(46,vals 10)::_) _ _
   rw[e7,e10]
   exact Dz (.buildS (vs:=[(0,.int .i64 (v.no+1)),(1,.agg v.rt.cells.toArray),(2,.slice (some ⟨b1,0,none⟩) v.ap.length c1),(3,.slice (some ⟨b2,0,none⟩) v.rs.length c2)]) (cs:=([.int .i64 (v.no+1),.int .u64 v.rt.m,.int .u64 v.rt.t,.int .u64 v.rt.r,.int .u64 v.rt.h,.slice (some ⟨b1,0,none⟩) v.ap.length c1,.slice (some ⟨b2,0,none⟩) v.rs.length c2]:List Value).toArray) Gx ADz rfl (by kernel_rfl)) rfl ⟨Ax _,b1,c1,x1,b2,c2,x2,rfl,⟨g1,g2,g3⟩,g4,g5,g6⟩
  ·exact OpRun.mono (AEG Gx (Ad szD s.size) rfl) fun v w'' h=>h
 obtain⟨b_43,c_43,ex_43,b_46,c_46,ex_46,e11,⟨fr_b_43,k43,hb_43⟩,fr_b_46,k46,hb_46⟩:∃b1 c1 e1 b2 c2 e2,vals 11=.agg #[.int .i64 (v.no+1),.int .u64 v.rt.m,.int .u64 v.rt.t,.int .u64 v.rt.r,.int .u64 v.rt.h,.slice (some ⟨b1,0,none⟩) v.ap.length c1,.slice (some ⟨b2,0,none⟩) v.rs.length c2]∧(w5.heap.size≤b1∧v.ap.length≤c1∧Has wg b1 ((v.ap.map fun x=>[i6 x]).flatten++e1) 3)∧(w5.heap.size≤b2∧v.rs.length≤c2∧Has wg b2 ((v.rs.map RsT.cells).flatten++e2) 38):=hv4 11 (by decide)
 obtain⟨b_10,e12,fr_b_10,hb_10⟩:∃b,vals 12=.pointer (some ⟨b,0,none⟩)∧w5.heap.size≤b∧Has wg b [.int .i64 0,.int .u64 0,.int .u64 0,.int .u64 0,.int .u64 0,.slice none 0 0,.slice none 0 0] 77:=hv4 12 (by decide)
 show RD _ _ _ _ _ _ _ _ ((43,vals 7)::(46,vals 10)::(47,vals 11)::(10,vals 12)::_) _ _
 rw[e11,e12]
 have ge_43:=hN0 _ fr_b_43;have ge_46:=hN0 _ fr_b_46;have ge_10:=hN0 _ fr_b_10;have S:=S.trans sg;have hA:=hA.sub sg;have hb_3:=hb_3.sub sg;have hb_4:=hb_4.sub sg;have hb_6:=hb_6.sub sg;have hb_7:=hb_7.sub sg;have hb_9:=hb_9.sub sg;have szD:=Ad szD sg.size
 have m1:=AAi hb_43 hb_46 (by decide)
 have m2:=AAi hb_43 hb_10 (by decide)
 have m3:=AAi hb_46 hb_10 (by decide)
 have nb_43_b_3:b_43≠b_3:=by omega
 have nb_43_b_4:b_43≠b_4:=by omega
 have nb_43_b_6:b_43≠b_6:=by omega
 have nb_43_b_7:b_43≠b_7:=by omega
 have nb_43_b_9:b_43≠b_9:=by omega
 have d_hA_b_43:∀k,M k→k≠b_43:=fun k hk e=>by have:=ltD_hA k hk;omega
 have nb_46_b_3:b_46≠b_3:=by omega
 have nb_46_b_4:b_46≠b_4:=by omega
 have nb_46_b_6:b_46≠b_6:=by omega
 have nb_46_b_7:b_46≠b_7:=by omega
 have nb_46_b_9:b_46≠b_9:=by omega
 have d_hA_b_46:∀k,M k→k≠b_46:=fun k hk e=>by have:=ltD_hA k hk;omega
 have nb_10_b_3:b_10≠b_3:=by omega
 have nb_10_b_4:b_10≠b_4:=by omega
 have nb_10_b_6:b_10≠b_6:=by omega
 have nb_10_b_7:b_10≠b_7:=by omega
 have nb_10_b_9:b_10≠b_9:=by omega
 have d_hA_b_10:∀k,M k→k≠b_10:=fun k hk e=>by have:=ltD_hA k hk;omega
 have nb_43_b_46:b_43≠b_46:=by exact m1
 have nb_43_b_10:b_43≠b_10:=by exact m2
 have nb_46_b_10:b_46≠b_10:=by exact m3
 refine Aq 13 rfl<|At Fs rfl rfl rfl hb_10 (fun w8 z8 hb_10 a8=>?_);have S:=S.upd a8 ge_10;have hA:=hA.updD a8 d_hA_b_10;have hb_3:=hb_3.upd a8 nb_10_b_3.symm;have hb_4:=hb_4.upd a8 nb_10_b_4.symm;have hb_6:=hb_6.upd a8 nb_10_b_6.symm;have hb_7:=hb_7.upd a8 nb_10_b_7.symm;have hb_9:=hb_9.upd a8 nb_10_b_9.symm;have szD:=Ad szD a8.size;have hb_43:=hb_43.upd a8 nb_43_b_10;have hb_46:=hb_46.upd a8 nb_46_b_10;refine Cv rfl (a8.mono fun k _ e=>e▸(.inr fr_b_10))<|Cp<|Ab<|Ac<|Ac<|Aa rfl<|Ak (.loadR ([.int .i64 v.no,.int .u64 v.rt.m,.int .u64 v.rt.t,.int .u64 v.rt.r,.int .u64 v.rt.h,.slice aa v.ap.length ac,.slice ra v.rs.length rc]) Fs rfl hb_4.row rfl)<|Af rfl<|Az rfl ALQ ((by have q:=AEm ⟨v.no,v.rt,aa,v.ap.length,ac,ra,v.rs.length,rc⟩ v l la lc _ rfl w8 (hx0.sub S) (hl.sub S) (by omega) (by omega);rw[hp] at q;exact q)) ?_;rintro _ w9 ⟨a50,c50,rfl,o50,s10⟩
 obtain⟨M5,F50,up50⟩:∃M5,Ft M5 (fun u=>Sl u a50 1 ([(k:Int)].map fun x=>[i6 x])) w9∧UpN _ M5:=⟨_,o50.ft.imp (fun u h=>h.sl.1),fun k hk=>.inr (o50.ge k hk).1⟩
 have d_F50_b_3:=Di up50 (fun _ (h:False)=>h.elim) hb_3.lt;have d_F50_b_4:=Di up50 (fun _ (h:False)=>h.elim) hb_4.lt;have d_F50_b_6:=Di up50 (fun _ (h:False)=>h.elim) hb_6.lt;have d_F50_b_7:=Di up50 (fun _ (h:False)=>h.elim) hb_7.lt;have d_F50_b_9:=Di up50 (fun _ (h:False)=>h.elim) hb_9.lt;have d_F50_b_43:=Di up50 (fun _ (h:False)=>h.elim) hb_43.lt;have d_F50_b_46:=Di up50 (fun _ (h:False)=>h.elim) hb_46.lt;have d_F50_b_10:=Di up50 (fun _ (h:False)=>h.elim) hb_10.lt;have S:=S.trans s10;have hA:=hA.sub s10;have hb_3:=hb_3.sub s10;have hb_4:=hb_4.sub s10;have hb_6:=hb_6.sub s10;have hb_7:=hb_7.sub s10;have hb_9:=hb_9.sub s10;have hb_43:=hb_43.sub s10;have hb_46:=hb_46.sub s10;have hb_10:=hb_10.sub s10;refine Ak (.as (v':=.int .i64 (1:Int)) (.len Dd rfl) (by rfl))<|Af rfl<|Ae<|Ab<|Bh<|Cw (α:=NxS) (fun x=>[(2,.slice la l.length lc),(3,.pointer (some ⟨b_3,0,none⟩)),(6,.pointer (some ⟨b_6,0,none⟩)),(7,.pointer (some ⟨b_7,0,none⟩)),(8,.int .i64 0),(9,.pointer (some ⟨b_9,0,none⟩)),(10,.pointer (some ⟨b_10,0,none⟩)),(50,.slice a50 1 c50),(51,.int .i64 1),(52,.int .i64 (x.i:Int))]) (fun x w11=>(x.i≤1∧(x.i=0→A=x.B∧v.rt=x.R∧v.ap=x.ap∧v.rs=x.rs)∧(x.i=1→RowA x.B x.R (Gw V an.op).1∧Ext A x.B∧A.free.length≤x.B.free.length+(V.length+2)∧x.ap=v.ap.set k an.seq∧x.rs=v.rs.set k (rsR (Gw V an.op).2))∧x.B.nodes.length≤x.ncb∧x.B.free.length≤x.fcb∧x.ap.length=v.ap.length∧x.rs.length=v.rs.length∧Up M w x.MB)∧Has w11 b_3 [.slice x.nb x.B.nodes.length x.ncb,.slice x.fb x.B.free.length x.fcb] 26∧Has w11 b_6 [.slice none 0 0,.slice none 0 0] 26∧Has w11 b_7 [.int .i64 0,.int .u64 0,.int .u64 0,.int .u64 0,.int .u64 0,.slice none 0 0,.slice none 0 0] 77∧Has w11 b_9 [.slice na A.nodes.length nc,.slice fa A.free.length fc] 26∧Has w11 b_10 (⟨v.no+1,x.R,some ⟨b_43,0,none⟩,v.ap.length,c_43,some ⟨b_46,0,none⟩,v.rs.length,c_46⟩:RcP).cells 77∧Has w11 b_43 ((x.ap.map fun x=>[i6 x]).flatten++ex_43) 3∧Has w11 b_46 ((x.rs.map RsT.cells).flatten++ex_46) 38∧Ft M (fun u=>ArR u na fa A) w11∧Ft x.MB (fun u=>ArR u x.nb x.fb x.B) w11∧Ft M5 (fun u=>Sl u a50 1 ([(k:Int)].map fun x=>[i6 x])) w11∧Sub w w11∧(∀k,x.MB k→k≠b_3)∧(∀k,x.MB k→k≠b_6)∧(∀k,x.MB k→k≠b_7)∧(∀k,x.MB k→k≠b_9)∧(∀k,x.MB k→k≠b_10)∧(∀k,x.MB k→k≠b_43)∧(∀k,x.MB k→k≠b_46)) (fun x=>1-x.i) ⟨0,A,v.rt,na,fa,nc,fc,M,v.ap,v.rs⟩ (Bf (by repeat (first|exact trivial|refine And.intro rfl ?_))) (⟨⟨Nat.zero_le _,fun _=>⟨rfl,rfl,rfl,rfl⟩,fun h=>(by cases h),hnc,hfc,rfl,rfl,Up.refl M w⟩,hb_3,hb_6,hb_7,hb_9,hb_10,hb_43,hb_46,hA,hA,F50,S,d_hA_b_3,d_hA_b_6,d_hA_b_7,d_hA_b_9,d_hA_b_10,d_hA_b_43,d_hA_b_46⟩) (fun x w11 hJ=>?_)
 obtain⟨i,B,R,nb,fb,ncb,fcb,MB,ap,rs⟩:=x;obtain⟨⟨hi,h0,h1e,hnB,hfB,hapl,hrsl,upB⟩,hb_3,hb_6,hb_7,hb_9,hb_10,hb_43,hb_46,hA,hB,F50,S,dB3,dB6,dB7,dB9,dB10,dB43,dB46⟩:=hJ;simp only[] at hi h0 h1e hnB hfB hapl hrsl upB hb_3 hb_10 hb_43 hb_46 hB dB3 dB6 dB7 dB9 dB10 dB43 dB46
 refine Ac<|Aa rfl<|Bc rfl rfl rfl<|Ae<|Ab<|Ac<|An rfl (fun h12=>?_) (fun h12=>?_)
 ·
  have h53:=h12
  simp only[] at h53
  have hi0:i=0:=(by omega)
  subst hi0
  have hoo:=(hlok an (Au hk)).2.1
  obtain⟨rfl,hRr,hap0,hrs0⟩:=h0 rfl
  subst hRr
  subst hap0
  subst hrs0
  have hkl:=Cc hk
  have hkz:l[(k:Int).toNat]?=some an:=(by rw[Int.toNat_natCast];exact hk)
  refine Ao<|Ab<|Ac<|Bh<|Ac<|Aa rfl<|Ak (.indexS Dd rfl rfl (by show 0≤((0:Nat):Int)∧((0:Nat):Int)<((1:Nat):Int);decide) (F50.now.is (i:=0) (by simp only[Aj,Al,Am];omega)))<|Ak (.load1 sh3 rfl (F50.now.one (enc:=i6) (l:=[(k:Int)]) (i:=0) rfl))<|Ah rfl<|Ae<|Ab<|Ac<|Bs (fun k=>False) [17,18,19] w11.heap.size 21 rfl rfl mxo (fun w13 s14=>?_)
  have hNN:∀k,((False)∨w11.heap.size≤k)→w.heap.size≤k:=fun k e=>e.elim (fun e=>e.elim) (fun e=>Ad S.size e)
  have ent_S:=S.size
  have hN0:∀k,w11.heap.size≤k→w.heap.size≤k:=fun k e=>Ad S.size e
  have ltD_b_3:=hb_3.lt;have ltD_b_6:=hb_6.lt;have ltD_b_7:=hb_7.lt;have ltD_b_9:=hb_9.lt;have ltD_b_10:=hb_10.lt;have ltD_b_43:=hb_43.lt;have ltD_b_46:=hb_46.lt
  have ltD_hA:=fun k hk=>(hA.ge k hk).2
  have ltD_hB:=fun k hk=>(hB.ge k hk).2
  have ltD_F50:=fun k hk=>(F50.ge k hk).2
  have szD:=Nat.le_refl w11.heap.size;have S:=S.trans s14;have hb_3:=hb_3.sub s14;have hb_6:=hb_6.sub s14;have hb_7:=hb_7.sub s14;have hb_9:=hb_9.sub s14;have hb_10:=hb_10.sub s14;have hb_43:=hb_43.sub s14;have hb_46:=hb_46.sub s14;have hA:=hA.sub s14;have hB:=hB.sub s14;have F50:=F50.sub s14;have szD:=Ad szD s14.size;refine Bg 0 rfl (fun w' s'=>.loadR ([.slice nb A.nodes.length ncb,.slice fb A.free.length fcb]) Cb rfl (hb_3.step s' (nE id ltD_b_3)).row rfl)<|Bl 1 rfl Qc rfl<|Bg 2 rfl (fun w' s'=>.loadR (v.rt.cells) Nf rfl (Ee (pre:=[.int .i64 (v.no+1)]) (mid:=v.rt.cells) (post:=[.slice (some ⟨b_43,0,none⟩) v.ap.length c_43,.slice (some ⟨b_46,0,none⟩) v.rs.length c_46]) (hb_10.step s' (nE id ltD_b_10)) rfl) rfl)<|Bp 3 rfl rfl<|Bp 4 rfl rfl<|Bg 5 rfl (fun _ _=>.indexS Iv rfl rfl (by omega) (hl.is (i:=0) (by simp only[Aj,Al,Am];omega)))<|Bg 6 rfl (fun _ _=>.fieldA ADa rfl)<|Bg 7 rfl (fun w' s'=>.loadR (an.op.cells) Uc rfl (AAX (pre:=[.int .i64 an.seq]) (mid:=an.op.cells) (post:=[]) ((hl.sub (S.agrN s' hNN)).rowAt (enc:=AnT.cells) (i:=(k:Int).toNat) hkz) rfl) rfl)<|Qf 13 (MB) 8 [9,10,11,12,13,20] [⟨14,17,26,[.slice none 0 0,.slice none 0 0],fun u=>(Gy (u) 0).cells.toList⟩,⟨15,18,33,[.int .u64 0,.int .u64 0,.int .u64 0,.int .u64 0],fun u=>(Gy (u) 1).cells.toList⟩,⟨16,19,38,[.int .i64 0,.int .i64 0,.int .i64 0],fun u=>(Gy (u) 2).cells.toList⟩] (ACA [(9,[8]),(10,[9,8]),(11,[9,8]),(12,[9,8]),(13,[9,8]),(17,[10,14,8]),(18,[11,15,8]),(19,[12,16,8]),(20,[13,8])]) (AB9 [(10,0),(11,1),(12,2),(13,3),(20,3)]) (fun u C I=>∃x B2 R2 nb2 fb2 ncb2 fcb2,(B2.nodes.length≤ncb2∧B2.free.length≤fcb2∧(R2.h=0∧R2.m=v.rt.m∧R2.t=v.rt.t)∧DoG A v.rt (Pg V) an.op x B2 R2)∧u=.tuple #[arV nb2 fb2 ncb2 fcb2 B2,R2.val,x.val,.int .i64 0]∧I=(fun u=>ArR u nb2 fb2 B2)) [] (fun _=>fun _ _=>True) (by kernel_rfl) (by kernel_rfl) rfl rfl (by kernel_rfl) (by decide) szD ltD_hB (by decide) (by decide) (fun _=>rfl) (fun _ _ _ _ _ _=>trivial) (fun i0 hi0 o0 ho0 vals wc sc hp0=>?_) (by decide) (by decide) (fun o0 ho0 vals wc sc hp0=>?_) (fun i0 hi0 o0 ho0 vals wc hd0 hq0=>?_) (fun j0 hj0 o0 ho0 F0 wc=>?_) (fun j0 hj0 o0 ho0 vals wc b0 hb0 hd0 hq0 hh0=>?_) (fun vals wg C_ I_ sg hQ hF_ hup_ hps_ hjs_ hdis_=>?_)
  ·cases hi0
  ·cases ho0
   refine Gd rfl AMk (AMF A nb fb ncb fcb hnB hfB v.rt hv.rok hv.rh (Pg V) hm0.isC an.op hoo hok hb (hkd.elim (fun h=>.inl (.inl h)) (fun h=>.inr (.inr h))) MB wc (hB.sub sc)) rfl ?_
   rintro u_ w_ ⟨s2,x,B2,R2,nb2,fb2,ncb2,fcb2,C1,rfl,g1,g2,g3,up2,g4,g5⟩
   exact⟨s2,C1,_,⟨x,B2,R2,nb2,fb2,ncb2,fcb2,⟨g1,g2,g4,g5⟩,rfl,rfl⟩,g3,up2⟩
  ·obtain⟨_,_,hq0⟩:=hq0
   obtain⟨x2,B2,R2,nb2,fb2,ncb2,fcb2,⟨hn2,hf2,hr2,hdo⟩,hu,rfl⟩:=hq0
   simp only[List.mem_cons,List.not_mem_nil,or_false] at hi0
   rcases hi0 with rfl|rfl|rfl|rfl|rfl|rfl<;>cases ho0
   ·show OpRun _ _ _ ((65,vals 8)::_) _ _
    rw[hu]
    exact Dz (.move rfl) rfl ⟨rfl,rfl⟩
   ·have e0:=hd0 9 (by decide);show OpRun _ _ _ ((56,vals 9)::_) _ _
    rw[e0,hu]
    exact Dz (.extract rfl rfl) rfl ⟨rfl,rfl⟩
   ·have e0:=hd0 9 (by decide);show OpRun _ _ _ ((56,vals 9)::_) _ _
    rw[e0,hu]
    exact Dz (.extract rfl rfl) rfl ⟨rfl,rfl⟩
   ·have e0:=hd0 9 (by decide);show OpRun _ _ _ ((56,vals 9)::_) _ _
    rw[e0,hu]
    exact Dz (.extract rfl rfl) rfl ⟨rfl,rfl⟩
   ·have e0:=hd0 9 (by decide);show OpRun _ _ _ ((56,vals 9)::_) _ _
    rw[e0,hu]
    exact Dz (.extract rfl rfl) rfl ⟨rfl,rfl⟩
   ·have e0:=hd0 13 (by decide);show OpRun _ _ _ ((69,vals 13)::_) _ _
    rw[e0,hu]
    exact Dz (.assign rfl) rfl ⟨rfl,rfl⟩
  ·simp only[List.mem_cons,List.not_mem_nil,or_false] at hj0
   rcases hj0 with rfl|rfl|rfl<;>cases ho0
   ·exact Fi Fy rfl
   ·exact Fi AE7 rfl
   ·exact Fi Nh rfl
  ·obtain⟨_,_,hq0⟩:=hq0
   obtain⟨x2,B2,R2,nb2,fb2,ncb2,fcb2,⟨hn2,hf2,hr2,hdo⟩,hu,rfl⟩:=hq0
   simp only[List.mem_cons,List.not_mem_nil,or_false] at hj0
   rcases hj0 with rfl|rfl|rfl<;>cases ho0
   ·have e0:=hd0 10 (by decide) (by decide);have hb0:vals 14=.pointer (some ⟨b0,0,none⟩):=hb0
    show OpRun _ _ _ ((66,vals 10)::(13,vals 14)::(65,vals 8)::_) _ _
    rw[e0,hb0,hu]
    exact Fh Cb rfl rfl rfl hh0 rfl rfl
   ·have e0:=hd0 11 (by decide) (by decide);have hb0:vals 15=.pointer (some ⟨b0,0,none⟩):=hb0
    show OpRun _ _ _ ((67,vals 11)::(14,vals 15)::(65,vals 8)::_) _ _
    rw[e0,hb0,hu]
    exact Fh Nf rfl rfl rfl hh0 rfl rfl
   ·have e0:=hd0 12 (by decide) (by decide);have hb0:vals 16=.pointer (some ⟨b0,0,none⟩):=hb0
    show OpRun _ _ _ ((68,vals 12)::(15,vals 16)::(65,vals 8)::_) _ _
    rw[e0,hb0,hu]
    exact Fh Hq rfl rfl rfl hh0 rfl rfl
  obtain⟨x2,B2,R2,nb2,fb2,ncb2,fcb2,⟨hn2,hf2,hr2,hdo⟩,hu,rfl⟩:=hQ
  have p_9:vals 9=_:=hps_ 9 (by decide)
  have p_10:vals 10=_:=hps_ 10 (by decide)
  have p_11:vals 11=_:=hps_ 11 (by decide)
  have p_12:vals 12=_:=hps_ 12 (by decide)
  have p_13:vals 13=_:=hps_ 13 (by decide)
  have p_20:vals 20=_:=hps_ 20 (by decide)
  obtain⟨b_13,v_13,fr_b_13,hb_13,nc_13⟩:∃b,vals 14=.pointer (some ⟨b,0,none⟩)∧w13.heap.size≤b∧Has wg b ((Gy (vals 8) 0)).cells.toList 26∧¬C_ b:=hjs_ _ (.head _)
  rw[hu] at hb_13
  obtain⟨b_14,v_14,fr_b_14,hb_14,nc_14⟩:∃b,vals 15=.pointer (some ⟨b,0,none⟩)∧w13.heap.size≤b∧Has wg b ((Gy (vals 8) 1)).cells.toList 33∧¬C_ b:=hjs_ _ (.tail _ (.head _))
  rw[hu] at hb_14
  obtain⟨b_15,v_15,fr_b_15,hb_15,nc_15⟩:∃b,vals 16=.pointer (some ⟨b,0,none⟩)∧w13.heap.size≤b∧Has wg b ((Gy (vals 8) 2)).cells.toList 38∧¬C_ b:=hjs_ _ (.tail _ (.tail _ (.head _)))
  rw[hu] at hb_15
  have mb_13b_14:b_13≠b_14:=fun e=>hdis_ _ (.head _) _ (.tail _ (.head _)) (by decide) b_13 v_13 (by rw[e];exact v_14)
  have mb_13b_15:b_13≠b_15:=fun e=>hdis_ _ (.head _) _ (.tail _ (.tail _ (.head _))) (by decide) b_13 v_13 (by rw[e];exact v_15)
  have mb_14b_15:b_14≠b_15:=fun e=>hdis_ _ (.tail _ (.head _)) _ (.tail _ (.tail _ (.head _))) (by decide) b_14 v_14 (by rw[e];exact v_15)
  show RD _ _ _ _ _ _ _ _ ((65,vals 8)::(56,vals 9)::(66,vals 10)::(67,vals 11)::(68,vals 12)::(69,vals 13)::(16,vals 20)::(13,vals 14)::(14,vals 15)::(15,vals 16)::_) _ _
  rw[p_9,p_10,p_11,p_12,p_13,p_20,v_13,v_14,v_15,hu]
  have fr_b_13:=Ad szD fr_b_13;have ge_13:=hN0 _ fr_b_13;have fr_b_14:=Ad szD fr_b_14;have ge_14:=hN0 _ fr_b_14;have fr_b_15:=Ad szD fr_b_15;have ge_15:=hN0 _ fr_b_15;have d_hB2_b_3:=Di hup_ dB3 ltD_b_3;have d_hB2_b_6:=Di hup_ dB6 ltD_b_6;have d_hB2_b_7:=Di hup_ dB7 ltD_b_7;have d_hB2_b_9:=Di hup_ dB9 ltD_b_9;have d_hB2_b_10:=Di hup_ dB10 ltD_b_10;have d_hB2_b_43:=Di hup_ dB43 ltD_b_43;have d_hB2_b_46:=Di hup_ dB46 ltD_b_46
  have hB2:=hF_
  have d_hB2_b_13:∀k,C_ k→k≠b_13:=fun k hk e=>nc_13 (e▸hk)
  have d_hB2_b_14:∀k,C_ k→k≠b_14:=fun k hk e=>nc_14 (e▸hk)
  have d_hB2_b_15:∀k,C_ k→k≠b_15:=fun k hk e=>nc_15 (e▸hk)
  have nb_13_b_3:b_13≠b_3:=by omega
  have nb_13_b_6:b_13≠b_6:=by omega
  have nb_13_b_7:b_13≠b_7:=by omega
  have nb_13_b_9:b_13≠b_9:=by omega
  have nb_13_b_10:b_13≠b_10:=by omega
  have nb_13_b_43:b_13≠b_43:=by omega
  have nb_13_b_46:b_13≠b_46:=by omega
  have d_hA_b_13:=fun k hk (e:k=b_13)=>(by have:=ltD_hA k hk;omega:False)
  have d_hB_b_13:=fun k hk (e:k=b_13)=>(by have:=ltD_hB k hk;omega:False)
  have d_F50_b_13:=fun k hk (e:k=b_13)=>(by have:=ltD_F50 k hk;omega:False)
  have nb_14_b_3:b_14≠b_3:=by omega
  have nb_14_b_6:b_14≠b_6:=by omega
  have nb_14_b_7:b_14≠b_7:=by omega
  have nb_14_b_9:b_14≠b_9:=by omega
  have nb_14_b_10:b_14≠b_10:=by omega
  have nb_14_b_43:b_14≠b_43:=by omega
  have nb_14_b_46:b_14≠b_46:=by omega
  have d_hA_b_14:=fun k hk (e:k=b_14)=>(by have:=ltD_hA k hk;omega:False)
  have d_hB_b_14:=fun k hk (e:k=b_14)=>(by have:=ltD_hB k hk;omega:False)
  have d_F50_b_14:=fun k hk (e:k=b_14)=>(by have:=ltD_F50 k hk;omega:False)
  have nb_15_b_3:b_15≠b_3:=by omega
  have nb_15_b_6:b_15≠b_6:=by omega
  have nb_15_b_7:b_15≠b_7:=by omega
  have nb_15_b_9:b_15≠b_9:=by omega
  have nb_15_b_10:b_15≠b_10:=by omega
  have nb_15_b_43:b_15≠b_43:=by omega
  have nb_15_b_46:b_15≠b_46:=by omega
  have d_hA_b_15:=fun k hk (e:k=b_15)=>(by have:=ltD_hA k hk;omega:False)
  have d_hB_b_15:=fun k hk (e:k=b_15)=>(by have:=ltD_hB k hk;omega:False)
  have d_F50_b_15:=fun k hk (e:k=b_15)=>(by have:=ltD_F50 k hk;omega:False)
  have S:=S.trans sg;have hb_3:=hb_3.sub sg;have hb_6:=hb_6.sub sg;have hb_7:=hb_7.sub sg;have hb_9:=hb_9.sub sg;have hb_10:=hb_10.sub sg;have hb_43:=hb_43.sub sg;have hb_46:=hb_46.sub sg;have hA:=hA.sub sg;have hB:=hB.sub sg;have F50:=F50.sub sg;have szD:=Ad szD sg.size
  have upC:Up M w C_:=fun k hk=>(hup_ k hk).elim (upB k) (fun h=>.inr (Ad ent_S h))
  have hq:=ACe hm0 hb hfr hdo hr2
  refine Cp<|Ab<|Ac<|Ac<|Aa rfl<|Af rfl<|Ak (.as (v':=.bool false) (.bin rfl rfl rfl) (Bt (fun h=>h rfl)))<|Ae<|Ab<|Bw rfl<|Ao<|Ab<|Ac<|Bs (fun k=>k=b_3∨k=b_10) [2,4] wg.heap.size 5 rfl rfl mxo (fun w15 s16=>?_)
  have hNN:∀k,((k=b_3∨k=b_10)∨wg.heap.size≤k)→w.heap.size≤k:=fun k e=>e.elim (fun e=>e.elim (fun e=>e▸ge_3) (fun e=>e▸ge_10)) (fun e=>Ad S.size e)
  have ent_S:=S.size
  have hN0:∀k,wg.heap.size≤k→w.heap.size≤k:=fun k e=>Ad S.size e
  have ltD_b_3:=hb_3.lt;have ltD_b_6:=hb_6.lt;have ltD_b_7:=hb_7.lt;have ltD_b_9:=hb_9.lt;have ltD_b_10:=hb_10.lt;have ltD_b_43:=hb_43.lt;have ltD_b_46:=hb_46.lt
  have ltD_hA:=fun k hk=>(hA.ge k hk).2
  have ltD_hB:=fun k hk=>(hB.ge k hk).2
  have ltD_F50:=fun k hk=>(F50.ge k hk).2
  have ltD_b_13:=hb_13.lt;have ltD_b_14:=hb_14.lt;have ltD_b_15:=hb_15.lt
  have ltD_hB2:=fun k hk=>(hB2.ge k hk).2
  have szD:=Nat.le_refl wg.heap.size;have S:=S.trans s16;have hb_3:=hb_3.sub s16;have hb_6:=hb_6.sub s16;have hb_7:=hb_7.sub s16;have hb_9:=hb_9.sub s16;have hb_10:=hb_10.sub s16;have hb_43:=hb_43.sub s16;have hb_46:=hb_46.sub s16;have hA:=hA.sub s16;have hB:=hB.sub s16;have F50:=F50.sub s16;have hb_13:=hb_13.sub s16;have hb_14:=hb_14.sub s16;have hb_15:=hb_15.sub s16;have hB2:=hB2.sub s16;have szD:=Ad szD s16.size;refine Bg 0 rfl (fun w' s'=>.loadR ([.slice nb2 B2.nodes.length ncb2,.slice fb2 B2.free.length fcb2]) Cb rfl (hb_13.step s' (nE (nO nb_13_b_3 nb_13_b_10) ltD_b_13)).row rfl)<|Bg 1 rfl (fun w' s'=>.loadR (R2.cells) Nf rfl (hb_14.step s' (nE (nO nb_14_b_3 nb_14_b_10) ltD_b_14)).row rfl)<|Aq 2 rfl<|At Cb rfl rfl rfl hb_3 (fun w17 z17 hb_3 a17=>?_);have S:=S.upd a17 ge_3;have hb_6:=hb_6.upd a17 n_3__6.symm;have hb_7:=hb_7.upd a17 n_3__7.symm;have hb_9:=hb_9.upd a17 n_3__9.symm;have hb_10:=hb_10.upd a17 nb_10_b_3;have hb_43:=hb_43.upd a17 nb_43_b_3;have hb_46:=hb_46.upd a17 nb_46_b_3;have hA:=hA.updD a17 d_hA_b_3;have hB:=hB.updD a17 dB3;have F50:=F50.updD a17 d_F50_b_3;have hb_13:=hb_13.upd a17 nb_13_b_3;have hb_14:=hb_14.upd a17 nb_14_b_3;have hb_15:=hb_15.upd a17 nb_15_b_3;have hB2:=hB2.updD a17 d_hB2_b_3;have szD:=Ad szD a17.size
  have hb_3:Has w17 b_3 ([.slice nb2 B2.nodes.length ncb2,.slice fb2 B2.free.length fcb2]) _:=hb_3.now (by kernel_rfl)
  refine Cq rfl a17 (.inl rfl)<|Bl 3 rfl Qc rfl<|Aq 4 rfl<|At Nf rfl rfl rfl hb_10 (fun w18 z18 hb_10 a18=>?_);have S:=S.upd a18 ge_10;have hb_3:=hb_3.upd a18 nb_10_b_3.symm;have hb_6:=hb_6.upd a18 nb_10_b_6.symm;have hb_7:=hb_7.upd a18 nb_10_b_7.symm;have hb_9:=hb_9.upd a18 nb_10_b_9.symm;have hb_43:=hb_43.upd a18 nb_43_b_10;have hb_46:=hb_46.upd a18 nb_46_b_10;have hA:=hA.updD a18 d_hA_b_10;have hB:=hB.updD a18 dB10;have F50:=F50.updD a18 d_F50_b_10;have hb_13:=hb_13.upd a18 nb_13_b_10;have hb_14:=hb_14.upd a18 nb_14_b_10;have hb_15:=hb_15.upd a18 nb_15_b_10;have hB2:=hB2.updD a18 d_hB2_b_10;have szD:=Ad szD a18.size
  have hb_10:Has w18 b_10 ((⟨v.no+1,R2,some ⟨b_43,0,none⟩,v.ap.length,c_43,some ⟨b_46,0,none⟩,v.rs.length,c_46⟩:RcP).cells) _:=hb_10.eqc (by kernel_rfl)
  refine Cq rfl a18 (.inr (rfl))<|Cp<|Ab<|Bs (fun k=>k=b_43∨k=b_46) [13,15] w18.heap.size 16 rfl rfl mxo (fun w19 s20=>?_)
  have hNN:∀k,((k=b_43∨k=b_46)∨w18.heap.size≤k)→w.heap.size≤k:=fun k e=>e.elim (fun e=>e.elim (fun e=>e▸ge_43) (fun e=>e▸ge_46)) (fun e=>Ad S.size e)
  have ent_S:=S.size
  have hN0:∀k,w18.heap.size≤k→w.heap.size≤k:=fun k e=>Ad S.size e
  have ltD_b_3:=hb_3.lt;have ltD_b_6:=hb_6.lt;have ltD_b_7:=hb_7.lt;have ltD_b_9:=hb_9.lt;have ltD_b_10:=hb_10.lt;have ltD_b_43:=hb_43.lt;have ltD_b_46:=hb_46.lt
  have ltD_hA:=fun k hk=>(hA.ge k hk).2
  have ltD_hB:=fun k hk=>(hB.ge k hk).2
  have ltD_F50:=fun k hk=>(F50.ge k hk).2
  have ltD_b_13:=hb_13.lt;have ltD_b_14:=hb_14.lt;have ltD_b_15:=hb_15.lt
  have ltD_hB2:=fun k hk=>(hB2.ge k hk).2
  have szD:=Nat.le_refl w18.heap.size;have S:=S.trans s20;have hb_3:=hb_3.sub s20;have hb_6:=hb_6.sub s20;have hb_7:=hb_7.sub s20;have hb_9:=hb_9.sub s20;have hb_10:=hb_10.sub s20;have hb_43:=hb_43.sub s20;have hb_46:=hb_46.sub s20;have hA:=hA.sub s20;have hB:=hB.sub s20;have F50:=F50.sub s20;have hb_13:=hb_13.sub s20;have hb_14:=hb_14.sub s20;have hb_15:=hb_15.sub s20;have hB2:=hB2.sub s20;have szD:=Ad szD s20.size;refine Bl 0 rfl Jq rfl<|Ck 1 rfl El rfl hb_10 (nE (nO nb_43_b_10.symm nb_46_b_10.symm) ltD_b_10) rfl<|Bp 2 rfl rfl<|Bl 3 rfl Sd rfl<|Ck 4 rfl ADy rfl hb_10 (nE (nO nb_43_b_10.symm nb_46_b_10.symm) ltD_b_10) rfl<|Bp 5 rfl rfl<|Bp 6 rfl rfl<|Bp 7 rfl rfl<|Bg 8 rfl (fun _ _=>.indexS Iv rfl rfl (by omega) (hl.is (i:=0) (by simp only[Aj,Al,Am];omega)))<|Bg 9 rfl (fun _ _=>.fieldA Uk rfl)<|Bg 10 rfl (fun w' s'=>.load1 sh3 rfl ((hl.sub (S.agrN s' hNN)).rowAt (enc:=AnT.cells) (i:=(k:Int).toNat) hkz 0 _ rfl))<|Bg 11 rfl (fun w' s'=>.loadR (x2.cells) Hq rfl (hb_15.step s' (nE (nO nb_15_b_43 nb_15_b_46) ltD_b_15)).row rfl)<|Bg 12 rfl (fun _ _=>.indexO Dd rfl rfl (by show 0≤(k:Int)∧(k:Int)<((v.ap.length:Nat):Int);omega))<|Aq 13 rfl<|Cg sh3 rfl rfl rfl hb_43 (by rw[Ag,Cy (sz:=1) _ (Po _),Aj,Int.toNat_natCast];show 0+k*1+1≤_;omega) (by rfl) rfl (fun w21 z21 hb_43 a21=>?_);have S:=S.upd a21 ge_43;have hb_3:=hb_3.upd a21 nb_43_b_3.symm;have hb_6:=hb_6.upd a21 nb_43_b_6.symm;have hb_7:=hb_7.upd a21 nb_43_b_7.symm;have hb_9:=hb_9.upd a21 nb_43_b_9.symm;have hb_10:=hb_10.upd a21 nb_43_b_10.symm;have hb_46:=hb_46.upd a21 nb_43_b_46.symm;have hA:=hA.updD a21 d_hA_b_43;have hB:=hB.updD a21 dB43;have F50:=F50.updD a21 d_F50_b_43;have hb_13:=hb_13.upd a21 nb_13_b_43;have hb_14:=hb_14.upd a21 nb_14_b_43;have hb_15:=hb_15.upd a21 nb_15_b_43;have hB2:=hB2.updD a21 d_hB2_b_43;have szD:=Ad szD a21.size
  rw[Nat.zero_add,Int.toNat_natCast] at hb_43
  have hb_43:=Gh (r:=[i6 an.seq]) hb_43 (Po _) (by rw[Aj];omega) rfl
  rw[←List.map_set] at hb_43
  refine Cq rfl a21 (.inl rfl)<|Bg 14 rfl (fun _ _=>.indexO Xk rfl rfl (by show 0≤(k:Int)∧(k:Int)<((v.rs.length:Nat):Int);omega))<|Aq 15 rfl<|Cg Hq rfl rfl rfl hb_46 (by rw[Ag,Cy (sz:=3) _ (AFP _),Aj,Int.toNat_natCast];show 0+k*3+3≤_;omega) (by rfl) rfl (fun w22 z22 hb_46 a22=>?_);have S:=S.upd a22 ge_46;have hb_3:=hb_3.upd a22 nb_46_b_3.symm;have hb_6:=hb_6.upd a22 nb_46_b_6.symm;have hb_7:=hb_7.upd a22 nb_46_b_7.symm;have hb_9:=hb_9.upd a22 nb_46_b_9.symm;have hb_10:=hb_10.upd a22 nb_46_b_10.symm;have hb_43:=hb_43.upd a22 nb_43_b_46;have hA:=hA.updD a22 d_hA_b_46;have hB:=hB.updD a22 dB46;have F50:=F50.updD a22 d_F50_b_46;have hb_13:=hb_13.upd a22 nb_13_b_46;have hb_14:=hb_14.upd a22 nb_14_b_46;have hb_15:=hb_15.upd a22 nb_15_b_46;have hB2:=hB2.updD a22 d_hB2_b_46;have szD:=Ad szD a22.size
  rw[Nat.zero_add,Int.toNat_natCast] at hb_46
  have hb_46:=Gh (r:=x2.cells) hb_46 (AFP _) (by rw[Aj];omega) rfl
  rw[←List.map_set] at hb_46
  refine Cq rfl a22 (.inr (rfl))<|Cp<|Ab<|Aa rfl<|Ak (.as (.bin rfl rfl rfl) (Cs (y:=((1:Nat):Int)) (by rfl) (by omega)))<|Af rfl ?_
  exact Ae (fun a ka=>⟨⟨1,B2,R2,nb2,fb2,ncb2,fcb2,C_,v.ap.set k an.seq,v.rs.set k x2⟩,⟨⟨Nat.le_refl _,fun h=>(by cases h),fun _=>⟨hq.1,hq.2.1,hq.2.2.1,rfl,by rw[hq.2.2.2]⟩,hn2,hf2,List.length_set,List.length_set,upC⟩,hb_3,hb_6,hb_7,hb_9,hb_10,hb_43,hb_46,hA,hB2,F50,S,d_hB2_b_3,d_hB2_b_6,d_hB2_b_7,d_hB2_b_9,d_hB2_b_10,d_hB2_b_43,d_hB2_b_46⟩,by show 1-1<1-0;decide,ka.keep (Bf (by repeat (first|exact trivial|refine And.intro rfl ?_)))⟩)
 ·
  have h53:=h12
  simp only[] at h53
  have hi1:i=1:=(by omega)
  subst hi1
  obtain⟨hr1,hx1,hf1,hap1,hrs1⟩:=h1e rfl
  refine Co rfl<|Ab<|Ac<|Bs (fun k=>False) [11] w11.heap.size 13 rfl rfl mxo (fun w23 s24=>?_)
  have hNN:∀k,((False)∨w11.heap.size≤k)→w.heap.size≤k:=fun k e=>e.elim (fun e=>e.elim) (fun e=>Ad S.size e)
  have ent_S:=S.size
  have hN0:∀k,w11.heap.size≤k→w.heap.size≤k:=fun k e=>Ad S.size e
  have ltD_b_3:=hb_3.lt;have ltD_b_6:=hb_6.lt;have ltD_b_7:=hb_7.lt;have ltD_b_9:=hb_9.lt;have ltD_b_10:=hb_10.lt;have ltD_b_43:=hb_43.lt;have ltD_b_46:=hb_46.lt
  have ltD_hA:=fun k hk=>(hA.ge k hk).2
  have ltD_hB:=fun k hk=>(hB.ge k hk).2
  have ltD_F50:=fun k hk=>(F50.ge k hk).2
  have szD:=Nat.le_refl w11.heap.size;have S:=S.trans s24;have hb_3:=hb_3.sub s24;have hb_6:=hb_6.sub s24;have hb_7:=hb_7.sub s24;have hb_9:=hb_9.sub s24;have hb_10:=hb_10.sub s24;have hb_43:=hb_43.sub s24;have hb_46:=hb_46.sub s24;have hA:=hA.sub s24;have hB:=hB.sub s24;have F50:=F50.sub s24;have szD:=Ad szD s24.size;refine Bg 0 rfl (fun w' s'=>.loadR ([.slice nb B.nodes.length ncb,.slice fb B.free.length fcb]) Cb rfl (hb_3.step s' (nE id ltD_b_3)).row rfl)<|Bg 1 rfl (fun w' s'=>.loadR ([.slice na A.nodes.length nc,.slice fa A.free.length fc]) Cb rfl (hb_9.step s' (nE id ltD_b_9)).row rfl)<|Bg 2 rfl (fun w' s'=>.loadR ([.slice nb B.nodes.length ncb,.slice fb B.free.length fcb]) Cb rfl (hb_3.step s' (nE id ltD_b_3)).row rfl)<|Bl 3 rfl Qc rfl<|Bg 4 rfl (fun w' s'=>.loadR (R.cells) Nf rfl (Ee (pre:=[.int .i64 (v.no+1)]) (mid:=R.cells) (post:=[.slice (some ⟨b_43,0,none⟩) v.ap.length c_43,.slice (some ⟨b_46,0,none⟩) v.rs.length c_46]) (hb_10.step s' (nE id ltD_b_10)) rfl) rfl)<|Qf 8 (MB) 6 [7,8,9,12] [⟨10,11,26,[.slice none 0 0,.slice none 0 0],fun u=>(Gy (u) 0).cells.toList⟩] (ACA [(6,[5]),(7,[6]),(8,[7,6]),(9,[7,6]),(11,[8,10,6]),(12,[9,6])]) (AB9 [(8,0),(9,1),(12,1)]) (fun u C I=>∃D nd fd ncd fcd,(D.nodes.length≤ncd∧D.free.length≤fcd∧Cut B (Us A B (Dc B (rtL R))) D)∧u=.tuple #[arV nd fd ncd fcd D,.int .i64 0]∧I=(fun u=>ArR u nd fd D)) [5] (fun _=>fun v w=>∃a' c',v=.slice a' ((Us A B (Dc B (rtL R))).map fun x=>[i6 x]).length c'∧Sl w a' 1 ((Us A B (Dc B (rtL R))).map fun x=>[i6 x])) (by kernel_rfl) (by kernel_rfl) rfl rfl (by kernel_rfl) (by decide) szD ltD_hB (by decide) (by decide) (fun _=>rfl) (fun _ v w1 w2 h s=>let ⟨a',c',h1,h2⟩:=h;⟨a',c',h1,h2.sub s⟩) (fun i0 hi0 o0 ho0 vals wc sc hp0=>?_) (by decide) (by decide) (fun o0 ho0 vals wc sc hp0=>?_) (fun i0 hi0 o0 ho0 vals wc hd0 hq0=>?_) (fun j0 hj0 o0 ho0 F0 wc=>?_) (fun j0 hj0 o0 ho0 vals wc b0 hb0 hd0 hq0 hh0=>?_) (fun vals wg C_ I_ sg hQ hF_ hup_ hps_ hjs_ hdis_=>?_)
  ·obtain rfl:i0=5:=by simpa using hi0
   cases ho0
   refine Gd rfl ALP (AH6 A B na fa nc fc nb fb ncb fcb hr1.ok hx1.len.symm R hr1.rok wc (hA.now.sub sc) (hB.now.sub sc)) rfl ?_
   rintro u_ w_ ⟨a',c',rfl,o,s2⟩
   exact⟨s2,a',c',rfl,o.sl.1⟩
  ·cases ho0
   obtain⟨aw,cw,ep,lw⟩:(fun v w=>∃a' c',v=.slice a' ((Us A B (Dc B (rtL R))).map fun x=>[i6 x]).length c'∧Sl w a' 1 ((Us A B (Dc B (rtL R))).map fun x=>[i6 x])) (vals 5) wc:=hp0 5 (by decide)
   show OpRun _ _ _ ((99,vals 5)::_) _ _
   rw[ep]
   refine Gd rfl AI0 (ABg B nb fb ncb fcb (Us A B (Dc B (rtL R))) aw cw _ (by rw[Aj]) (by have:=AGJ A B (Dc B (rtL R));have:=hr1.ok.most;omega) hr1.ok (ACX _ _) (fun p hp=>⟨(Re hp).1,(Re hp).2.1⟩) hfB MB wc (hB.sub sc) lw) rfl ?_
   rintro u_ w_ ⟨s2,D,nd,fd,ncd,fcd,C1,rfl,g1,g2,g3,up2,g4⟩
   exact⟨s2,C1,_,⟨D,nd,fd,ncd,fcd,⟨g1,g2,g4⟩,rfl,rfl⟩,g3,up2⟩
  ·obtain⟨_,_,hq0⟩:=hq0
   obtain⟨D,nd,fd,ncd,fcd,⟨hnD,hfD,hcD⟩,hu,rfl⟩:=hq0
   simp only[List.mem_cons,List.not_mem_nil,or_false] at hi0
   rcases hi0 with rfl|rfl|rfl|rfl<;>cases ho0
   ·show OpRun _ _ _ ((100,vals 6)::_) _ _
    rw[hu]
    exact Dz (.move rfl) rfl ⟨rfl,rfl⟩
   ·have e0:=hd0 7 (by decide);show OpRun _ _ _ ((93,vals 7)::_) _ _
    rw[e0,hu]
    exact Dz (.extract rfl rfl) rfl ⟨rfl,rfl⟩
   ·have e0:=hd0 7 (by decide);show OpRun _ _ _ ((93,vals 7)::_) _ _
    rw[e0,hu]
    exact Dz (.extract rfl rfl) rfl ⟨rfl,rfl⟩
   ·have e0:=hd0 9 (by decide);show OpRun _ _ _ ((102,vals 9)::_) _ _
    rw[e0,hu]
    exact Dz (.assign rfl) rfl ⟨rfl,rfl⟩
  ·simp only[List.mem_cons,List.not_mem_nil,or_false] at hj0
   rcases hj0 with rfl<;>cases ho0
   ·exact Fi Fy rfl
  ·obtain⟨_,_,hq0⟩:=hq0
   obtain⟨D,nd,fd,ncd,fcd,⟨hnD,hfD,hcD⟩,hu,rfl⟩:=hq0
   simp only[List.mem_cons,List.not_mem_nil,or_false] at hj0
   rcases hj0 with rfl<;>cases ho0
   ·have e0:=hd0 8 (by decide) (by decide);have hb0:vals 10=.pointer (some ⟨b0,0,none⟩):=hb0
    show OpRun _ _ _ ((101,vals 8)::(17,vals 10)::(100,vals 6)::_) _ _
    rw[e0,hb0,hu]
    exact Fh Cb rfl rfl rfl hh0 rfl rfl
  obtain⟨D,nd,fd,ncd,fcd,⟨hnD,hfD,hcD⟩,hu,rfl⟩:=hQ
  have p_7:vals 7=_:=hps_ 7 (by decide)
  have p_8:vals 8=_:=hps_ 8 (by decide)
  have p_9:vals 9=_:=hps_ 9 (by decide)
  have p_12:vals 12=_:=hps_ 12 (by decide)
  obtain⟨b_17,v_17,fr_b_17,hb_17,nc_17⟩:∃b,vals 10=.pointer (some ⟨b,0,none⟩)∧w23.heap.size≤b∧Has wg b ((Gy (vals 6) 0)).cells.toList 26∧¬C_ b:=hjs_ _ (.head _)
  rw[hu] at hb_17
  show RD _ _ _ _ _ _ _ _ ((100,vals 6)::(93,vals 7)::(101,vals 8)::(102,vals 9)::(18,vals 12)::(17,vals 10)::(99,vals 5)::_) _ _
  rw[p_7,p_8,p_9,p_12,v_17,hu]
  have fr_b_17:=Ad szD fr_b_17;have ge_17:=hN0 _ fr_b_17;have d_hD_b_3:=Di hup_ dB3 ltD_b_3;have d_hD_b_6:=Di hup_ dB6 ltD_b_6;have d_hD_b_7:=Di hup_ dB7 ltD_b_7;have d_hD_b_9:=Di hup_ dB9 ltD_b_9;have d_hD_b_10:=Di hup_ dB10 ltD_b_10;have d_hD_b_43:=Di hup_ dB43 ltD_b_43;have d_hD_b_46:=Di hup_ dB46 ltD_b_46
  have hD:=hF_
  have d_hD_b_17:∀k,C_ k→k≠b_17:=fun k hk e=>nc_17 (e▸hk)
  have nb_17_b_3:b_17≠b_3:=by omega
  have nb_17_b_6:b_17≠b_6:=by omega
  have nb_17_b_7:b_17≠b_7:=by omega
  have nb_17_b_9:b_17≠b_9:=by omega
  have nb_17_b_10:b_17≠b_10:=by omega
  have nb_17_b_43:b_17≠b_43:=by omega
  have nb_17_b_46:b_17≠b_46:=by omega
  have d_hA_b_17:=fun k hk (e:k=b_17)=>(by have:=ltD_hA k hk;omega:False)
  have d_hB_b_17:=fun k hk (e:k=b_17)=>(by have:=ltD_hB k hk;omega:False)
  have d_F50_b_17:=fun k hk (e:k=b_17)=>(by have:=ltD_F50 k hk;omega:False)
  have S:=S.trans sg;have hb_3:=hb_3.sub sg;have hb_6:=hb_6.sub sg;have hb_7:=hb_7.sub sg;have hb_9:=hb_9.sub sg;have hb_10:=hb_10.sub sg;have hb_43:=hb_43.sub sg;have hb_46:=hb_46.sub sg;have hA:=hA.sub sg;have hB:=hB.sub sg;have F50:=F50.sub sg;have szD:=Ad szD sg.size
  have upD:Up M w C_:=fun k hk=>(hup_ k hk).elim (upB k) (fun h=>.inr (Ad ent_S h))
  refine Cp<|Ab<|Ac<|Bs (fun k=>k=b_6∨k=b_7) [3,4] wg.heap.size 6 rfl rfl mxo (fun w25 s26=>?_)
  have hNN:∀k,((k=b_6∨k=b_7)∨wg.heap.size≤k)→w.heap.size≤k:=fun k e=>e.elim (fun e=>e.elim (fun e=>e▸ge_6) (fun e=>e▸ge_7)) (fun e=>Ad S.size e)
  have ent_S:=S.size
  have hN0:∀k,wg.heap.size≤k→w.heap.size≤k:=fun k e=>Ad S.size e
  have ltD_b_3:=hb_3.lt;have ltD_b_6:=hb_6.lt;have ltD_b_7:=hb_7.lt;have ltD_b_9:=hb_9.lt;have ltD_b_10:=hb_10.lt;have ltD_b_43:=hb_43.lt;have ltD_b_46:=hb_46.lt
  have ltD_hA:=fun k hk=>(hA.ge k hk).2
  have ltD_hB:=fun k hk=>(hB.ge k hk).2
  have ltD_F50:=fun k hk=>(F50.ge k hk).2
  have ltD_b_17:=hb_17.lt
  have ltD_hD:=fun k hk=>(hD.ge k hk).2
  have szD:=Nat.le_refl wg.heap.size;have S:=S.trans s26;have hb_3:=hb_3.sub s26;have hb_6:=hb_6.sub s26;have hb_7:=hb_7.sub s26;have hb_9:=hb_9.sub s26;have hb_10:=hb_10.sub s26;have hb_43:=hb_43.sub s26;have hb_46:=hb_46.sub s26;have hA:=hA.sub s26;have hB:=hB.sub s26;have F50:=F50.sub s26;have hb_17:=hb_17.sub s26;have hD:=hD.sub s26;have szD:=Ad szD s26.size;refine Bg 0 rfl (fun w' s'=>.loadR ([.slice nd D.nodes.length ncd,.slice fd D.free.length fcd]) Cb rfl (hb_17.step s' (nE (nO nb_17_b_6 nb_17_b_7) ltD_b_17)).row rfl)<|Bg 1 rfl (fun w' s'=>.loadR ((⟨v.no+1,R,some ⟨b_43,0,none⟩,v.ap.length,c_43,some ⟨b_46,0,none⟩,v.rs.length,c_46⟩:RcP).cells) Fs rfl (hb_10.step s' (nE (nO nb_10_b_6 nb_10_b_7) ltD_b_10)).row rfl)<|Bp 2 rfl rfl<|Aq 3 rfl<|At Cb rfl rfl rfl hb_6 (fun w27 z27 hb_6 a27=>?_);have S:=S.upd a27 ge_6;have hb_3:=hb_3.upd a27 n_3__6;have hb_7:=hb_7.upd a27 n_6__7.symm;have hb_9:=hb_9.upd a27 n_6__9.symm;have hb_10:=hb_10.upd a27 nb_10_b_6;have hb_43:=hb_43.upd a27 nb_43_b_6;have hb_46:=hb_46.upd a27 nb_46_b_6;have hA:=hA.updD a27 d_hA_b_6;have hB:=hB.updD a27 dB6;have F50:=F50.updD a27 d_F50_b_6;have hb_17:=hb_17.upd a27 nb_17_b_6;have hD:=hD.updD a27 d_hD_b_6;have szD:=Ad szD a27.size
  have hb_6:Has w27 b_6 ([.slice nd D.nodes.length ncd,.slice fd D.free.length fcd]) _:=hb_6.now (by kernel_rfl)
  refine Cq rfl a27 (.inl rfl)<|Aq 4 rfl<|At Fs rfl rfl rfl hb_7 (fun w28 z28 hb_7 a28=>?_);have S:=S.upd a28 ge_7;have hb_3:=hb_3.upd a28 n_3__7;have hb_6:=hb_6.upd a28 n_6__7;have hb_9:=hb_9.upd a28 n_7__9.symm;have hb_10:=hb_10.upd a28 nb_10_b_7;have hb_43:=hb_43.upd a28 nb_43_b_7;have hb_46:=hb_46.upd a28 nb_46_b_7;have hA:=hA.updD a28 d_hA_b_7;have hB:=hB.updD a28 dB7;have F50:=F50.updD a28 d_F50_b_7;have hb_17:=hb_17.upd a28 nb_17_b_7;have hD:=hD.updD a28 d_hD_b_7;have szD:=Ad szD a28.size
  have hb_7:Has w28 b_7 ((⟨v.no+1,R,some ⟨b_43,0,none⟩,v.ap.length,c_43,some ⟨b_46,0,none⟩,v.rs.length,c_46⟩:RcP).cells) _:=hb_7.now (by kernel_rfl)
  refine Cq rfl a28 (.inr (rfl))<|Cu 5 rfl rfl<|Cp<|Ab<|Bo (rs:=[.cell 6 26,.cell 7 77,.tmp 8]) (vs:=[_,_,_]) rfl rfl ⟨⟨_,rfl,.inr ⟨[.slice nd D.nodes.length ncd,.slice fd D.free.length fcd],Cb,hb_6.row,rfl⟩⟩,⟨_,rfl,.inr ⟨(⟨v.no+1,R,some ⟨b_43,0,none⟩,v.ap.length,c_43,some ⟨b_46,0,none⟩,v.rs.length,c_46⟩:RcP).cells,Fs,hb_7.row,rfl⟩⟩,rfl,trivial⟩ ?_
  rw[hap1] at hb_43
  rw[hrs1] at hb_46
  have hN:NextP A v V an.op R D:=⟨hr1.cut hcD (fun p hp hpl=>(Re hpl).2.2.2 hp),hm0.cut_old hx1 hr1.ok hcD (fun p hp=>(Re hp).2.2.1),hcD.len.trans hx1.len,by have:=hcD.free;omega⟩
  exact⟨S,D,nd,fd,ncd,fcd,(⟨v.no+1,R,some ⟨b_43,0,none⟩,v.ap.length,c_43,some ⟨b_46,0,none⟩,v.rs.length,c_46⟩:RcP),R,_,rfl,hnD,hfD,hN,(hD.and (hb_43.ft.and hb_46.ft)).imp (fun u h=>⟨h.1,rfl,rfl,List.length_set.symm,List.length_set.symm,by show(v.ap.set k an.seq).length≤c_43;rw[List.length_set];exact k43,by show(v.rs.set k _).length≤c_46;rw[List.length_set];exact k46,Has.sl (extra:=ex_43) h.2.1 (Po _),Has.sl (extra:=ex_46) h.2.2 (AFP _)⟩),fun k hk=>hk.elim (upD k) (fun h=>.inr (h.elim (fun e=>e▸ge_43) (fun e=>e▸ge_46)))⟩
theorem AHq{base:Nat}{w:World}{e:TypeId}{sz:Nat}{a:Option Addr}{n c:Nat}{rows:List (List Value)}(o:Ows base w e sz (.slice a n c) rows)(h:0<rows.length):∃b ex,a=some ⟨b,0,none⟩∧base≤b∧rows.length≤c∧Has w b (rows.flatten++ex) e:=by
 obtain⟨b,cap,ex,h1,h2,h3,_,h5,_⟩:=o.has h
 simp only[Value.slice.injEq] at h1
 obtain⟨rfl,_,rfl⟩:=h1
 exact⟨b,ex,rfl,h2,h3,h5⟩
def ownA{α:Type}(enc:α→List Value)(e:TypeId)(l:List α)(w:World)(u:Value)(w':World):Prop:=Sub w w'∧∃b c ex,u=.slice (some ⟨b,0,none⟩) l.length c∧w.heap.size≤b∧l.length≤c∧Has w' b ((l.map enc).flatten++ex) e
theorem ownA.of{α:Type}{enc:α→List Value}{e:TypeId}{sz:Nat}{l:List α}{w w':World}{u:Value}(hl:0<l.length)(h:∃a' c',u=.slice a' l.length c'∧Ows w.heap.size w' e sz (.slice a' l.length c') (l.map enc)∧Sub w w'):ownA enc e l w u w':=by
 obtain⟨a',c',rfl,o,s⟩:=h
 obtain⟨b,ex,rfl,h1,h2,h3⟩:=AHq o (by rw[Aj];exact hl)
 rw[Aj] at h2
 exact⟨s,b,c',ex,rfl,h1,h2,h3⟩
theorem AJL(l:List Int)(h0:0<l.length)(a:Option Addr)(c m:Nat)(hm:m=l.length)(w:World)(hl:Sl w a 1 (l.map fun x=>[i6 x]))(hb:l.length≤10000):
  FC Tryz.prog 119 [.slice a m c] w (ownA (fun x=>[i6 x]) 3 l w):=FC.mono (ABa l a c m hm w hl hb) fun _ _ h=>ownA.of h0 h
theorem AKL(l:List AnT)(h0:0<l.length)(a:Option Addr)(c m:Nat)(hm:m=l.length)(w:World)(hl:Sl w a 5 (l.map AnT.cells))(hb:l.length≤10000):
  FC Tryz.prog 222 [.slice a m c] w (ownA AnT.cells 297 l w):=FC.mono (AEx l a c m hm w hl hb) fun _ _ h=>ownA.of h0 h
theorem AGF(l:List WkP)(h0:0<l.length)(a:Option Addr)(c m:Nat)(hm:m=l.length)(w:World)(hl:Sl w a 24 (l.map WkP.cells))(hb:l.length≤10000):
  FC Tryz.prog 156 [.slice a m c] w (ownA WkP.cells 90 l w):=FC.mono (AEu l a c m hm w hl hb) fun _ _ h=>ownA.of h0 h
theorem Vu(t:TbP)(h1:1≤t.rn∧t.rn≤64)(h2:t.sn=8)(w:World):FC Tryz.prog 65 [.agg t.cells.toArray] w (Val (.bool true) w):=by
 obtain⟨ra,rn,rc,pa,pn,pc,sa,sn,sc⟩:=t
 simp only[] at h1 h2
 subst h2
 refine As Tryz.func65 rfl Tryz.ntmps65 rfl ?_
 have S:=Ax w
 refine Ac<|Aa rfl<|Bu rfl rfl rfl (fun d b f e a c=>?_);have S:=S.trans c
 have a:Has b d ([.slice ra rn rc,.slice pa pn pc,.slice sa 8 sc]) _:=a
 refine Ah rfl<|Ae<|Ab<|Ac<|Aa rfl<|Av Gq rfl<|Ba Nd rfl a rfl<|Cm Fm rfl<|Ak (.as (v':=.bool true) (.bin rfl rfl rfl) (Cr (by omega)))<|Af rfl<|Av Gq rfl<|Ba Nd rfl a rfl<|Cm Fm rfl<|Ak (.as (v':=.bool true) (.bin rfl rfl rfl) (Cr (by omega)))<|Br rfl rfl<|Af rfl ?_;refine Av AAM rfl<|Ba El rfl a rfl<|Cm Dd rfl<|Ak (.as (v':=.bool true) (.bin rfl rfl rfl) (Cr (rfl)))<|Br rfl rfl<|Ah rfl<|Ae<|Ab<|Bb 2 rfl rfl rfl ?_
 exact⟨rfl,S⟩
theorem AF8(t:TbP)(h1:1≤t.rn∧t.rn≤64)(h2:t.sn=8)(xs:List RcP)(hn:t.rn=xs.length)(x:RcP)(hx:xs[xs.length-1]?=some x)(w:World)(hl:Sl w t.ra 7 (xs.map RcP.cells)):FC Tryz.prog 155 [.agg t.cells.toArray] w (Val (.tuple #[x.val,.int .i64 0]) w):=by
 have hs:=Vu t h1 h2
 obtain⟨ra,rn,rc,pa,pn,pc,sa,sn,sc⟩:=t
 simp only[] at h1 h2 hn hl
 subst hn
 refine As Tryz.func155 rfl Tryz.ntmps155 rfl ?_
 have S:=Ax w
 refine Ac<|Aa rfl<|Bu rfl rfl rfl (fun k f n m a g=>?_);have S:=S.trans g
 have a:Has f k ([.slice ra xs.length rc,.slice pa pn pc,.slice sa sn sc]) _:=a
 refine Ay Gx rfl rfl (fun j e h l b d=>?_);have c:=S.le h;have S:=S.trans d;have a:=a.sub d;refine Ah rfl<|Ae<|Ab<|Ac<|Ac<|Aa rfl<|Ak (.loadR ([.slice ra xs.length rc,.slice pa pn pc,.slice sa sn sc]) Ef rfl a.row rfl)<|Az rfl AJb (hs e) ?_;rintro _ w1 ⟨rfl,s2⟩;have S:=S.trans s2;have a:=a.sub s2;have b:=b.sub s2;refine Ak (.not rfl)<|Ae<|Ab<|Bw rfl<|Ao<|Ab<|Ac<|Aa rfl<|Av Gq rfl<|Ba Nd rfl a rfl<|Av Gq rfl<|Ba Nd rfl a rfl<|Cm Fm rfl<|Ak (.as (.bin rfl rfl rfl) (Cs (y:=((xs.length-1:Nat):Int)) (by omega) (by omega)))<|Ak (.indexS Fm rfl rfl (by omega) (hl.is (i:=0) (by simp only[Aj,Al,Am];omega)))<|Ak (.loadR (x.cells) Fs rfl ((hl.sub S).rowAt (enc:=RcP.cells) (i:=xs.length-1) hx) rfl) ?_;refine At Fs rfl rfl rfl b (fun w3 z3 b a3=>?_);have S:=S.upd a3 c
 have b:Has w3 j (x.cells) _:=b.now (by kernel_rfl)
 refine Ah rfl<|Ae<|Ab<|Bo (rs:=[.cell 2 77,.tmp 3]) (vs:=[_,_]) rfl rfl ⟨⟨_,rfl,.inr ⟨x.cells,Fs,b.row,rfl⟩⟩,rfl,trivial⟩ ?_
 exact⟨rfl,S⟩
theorem AJ2(t:TbP)(h1:1≤t.rn∧t.rn≤64)(h2:t.sn=8)(ps:List Int)(hn:t.pn=ps.length)(k:Nat)(hk:k<ps.length)(hpl:ps.length≤8)(no:Int)(hno : -1≤no∧no≤1099511627776)(w:World)(hl:Sl w t.pa 1 (ps.map fun x=>[i6 x])):
  FC Tryz.prog 257 [.agg t.cells.toArray,.int .i64 (k:Int),.int .i64 no] w (fun u w'=>Sub w w'∧∃b c M,u=.tuple #[.agg ({t with pa:=some ⟨b,0,none⟩,pn:=ps.length,pc:=c}:TbP).cells.toArray,.int .i64 0]∧ps.length≤c∧Ft M (fun u=>Sl u (some ⟨b,0,none⟩) 1 ((ps.set k no).map fun x=>[i6 x])) w'∧UpN w M):=by
 have hs:=Vu t h1 h2
 obtain⟨ra,rn,rc,pa,pn,pc,sa,sn,sc⟩:=t
 simp only[] at h1 h2 hn hl
 subst hn
 refine As Tryz.func257 rfl Tryz.ntmps257 rfl ?_
 have S:=Ax w
 refine Ac<|Aa rfl<|Bu rfl rfl rfl (fun v z B D a A=>?_);have o:=S.le B;have S:=S.trans A
 have a:Has z v ([.slice ra rn rc,.slice pa ps.length pc,.slice sa sn sc]) _:=a
 refine Ay Kb rfl rfl (fun s y q C e p=>?_);have n:=S.le q;have i:=a.ne q;have S:=S.trans p;have a:=a.sub p;refine Ah rfl<|Ae<|Ab<|Ac<|Ac<|Aa rfl<|Ak (.loadR ([.slice ra rn rc,.slice pa ps.length pc,.slice sa sn sc]) Ef rfl a.row rfl)<|Az rfl AJb (hs y) ?_;rintro _ w1 ⟨rfl,s2⟩;have S:=S.trans s2;have a:=a.sub s2;have e:=e.sub s2;refine Ak (.not rfl)<|Af rfl<|Af rfl<|Ak (.as (v':=.bool false) (.bin rfl rfl rfl) (Bt (by omega)))<|Bq rfl rfl<|Af rfl<|Af rfl<|Av Nq rfl<|Ba El rfl a rfl<|Cm Dd rfl<|Ak (.as (v':=.bool false) (.bin rfl rfl rfl) (Bt (by omega)))<|Bq rfl rfl<|Af rfl<|Af rfl<|Ak (.as (v':=.bool false) (.bin rfl rfl rfl) (Bt (by omega)))<|Bq rfl rfl ?_;refine Af rfl<|Af rfl<|Ak (.as (v':=.bool false) (.bin rfl rfl rfl) (Bt (by omega)))<|Bq rfl rfl<|Ae<|Ab<|Bw rfl<|Ao<|Ab<|Ac<|Aa rfl<|Av Nq rfl<|Ba El rfl a rfl<|Az rfl AFc (AJL ps (by omega) pa pc _ rfl w1 (hl.sub S) (by omega)) ?_;rintro _ w3 ⟨s4,f,j,m,rfl,l,k33,d⟩
 have n3_33:f≠v:=(by have:=a.lt;omega)
 have n6_33:f≠s:=(by have:=e.lt;omega)
 have g:=Ad S.size l;have S:=S.trans s4;have a:=a.sub s4;have e:=e.sub s4;refine Av Nq rfl<|At El rfl rfl rfl a (fun w5 z5 a a5=>?_);have S:=S.upd a5 o;have e:=e.upd a5 i.symm;have d:=d.upd a5 n3_33;refine Ae<|Ab<|Ac<|Aa rfl<|Av Nq rfl<|Ba El rfl a rfl<|Af rfl<|Af rfl<|Ak (.indexO Dd rfl rfl (by show 0≤(k:Int)∧(k:Int)<((ps.length:Nat):Int);omega))<|Cg sh3 rfl rfl rfl d (by rw[Ag,Cy (sz:=1) _ (Po _),Aj,Int.toNat_natCast];show 0+k*1+1≤_;omega) (by rfl) rfl (fun w6 z6 d a6=>?_);have S:=S.upd a6 g;have a:=a.upd a6 n3_33.symm;have e:=e.upd a6 n6_33.symm
 rw[Nat.zero_add,Int.toNat_natCast] at d
 have d:=Gh (r:=[i6 no]) d (Po _) (by rw[Aj];omega) rfl
 rw[←List.map_set] at d
 refine Ae<|Ab<|Ac<|Aa rfl<|Ak (.loadR (_) Ef rfl a.row rfl)<|At Ef rfl rfl rfl e (fun w7 z7 e a7=>?_);have S:=S.upd a7 n;have d:=d.upd a7 n6_33
 have e:Has w7 s ((⟨ra,rn,rc,some ⟨f,0,none⟩,ps.length,j,sa,sn,sc⟩:TbP).cells) _:=e.now (by kernel_rfl)
 refine Ah rfl<|Ae<|Ab<|Bo (rs:=[.cell 6 59,.tmp 7]) (vs:=[_,_]) rfl rfl ⟨⟨_,rfl,.inr ⟨(⟨ra,rn,rc,some ⟨f,0,none⟩,ps.length,j,sa,sn,sc⟩:TbP).cells,Ef,e.row,rfl⟩⟩,rfl,trivial⟩ ?_
 exact⟨S,f,j,_,rfl,k33,d.ft.imp (fun u h=>Has.sl (extra:=m) h (Po _)),By g⟩
theorem Yc(l:List RcP):∀r∈l.map RcP.cells,r.length=7:=fun r hr=>by obtain⟨z,_,rfl⟩:=List.mem_map.1 hr;rfl
set_option maxHeartbeats 1000000 in
theorem AIA(t:TbP)(h1:1≤t.rn∧t.rn<64)(h2:t.sn=8)(xs:List RcP)(hn:t.rn=xs.length)(hcap:xs.length≤t.rc)(x0:RcP)(hx0:xs[xs.length-1]?=some x0)(x:RcP)(hno:x.no=x0.no+1)(hx64:0≤x0.no∧x0.no<1099511627776)(w:World)(hl:Sl w t.ra 7 (xs.map RcP.cells)):
  FC Tryz.prog 226 [.agg t.cells.toArray,x.val] w (fun u w'=>Sub w w'∧∃a c M,u=.tuple #[.agg ({t with ra:=a,rn:=xs.length+1,rc:=c}:TbP).cells.toArray,.int .i64 0]∧xs.length+1≤c∧Ft M (fun u=>Sl u a 7 ((xs++[x]).map RcP.cells)) w'∧UpN w M):=by
 have hs:=AF8 t ⟨h1.1,by omega⟩ h2 xs hn x0 hx0
 obtain⟨ra,rn,rc,pa,pn,pc,sa,sn,sc⟩:=t
 simp only[] at h1 h2 hn hl hcap hs
 subst hn
 refine As Tryz.func226 rfl Tryz.ntmps226 rfl ?_
 have S:=Ax w
 refine Ac<|Aa rfl<|Bu rfl rfl rfl (fun O ai al ap b aj=>?_);have K:=S.le al;have S:=S.trans aj
 have b:Has ai O ([.slice ra xs.length rc,.slice pa pn pc,.slice sa sn sc]) _:=b
 refine Bu rfl rfl rfl (fun ad ah ak ao f ae=>?_);have A:=b.ne ak;have S:=S.trans ae;have b:=b.sub ae
 have f:Has ah ad (x.cells) _:=f
 refine Ay Kb rfl rfl (fun V ag ab an d Z=>?_);have Q:=S.le ab;have q:=b.ne ab;have J:=f.ne ab;have S:=S.trans Z;have b:=b.sub Z;have f:=f.sub Z;refine Ah rfl<|Ae<|Ab<|Ac<|Aa rfl<|Ak (.loadR ([.slice ra xs.length rc,.slice pa pn pc,.slice sa sn sc]) Ef rfl b.row rfl)<|Az rfl AJB (hs ag (hl.sub S)) ?_;rintro _ w1 ⟨rfl,s2⟩;have S:=S.trans s2;have b:=b.sub s2;have f:=f.sub s2;have d:=d.sub s2;refine Af rfl<|Bz rfl rfl<|Bz rfl rfl<|Ay Gx rfl rfl (fun ac aq U am g T=>?_);have aa:=S.le U;have z:=b.ne U;have I:=f.ne U;have y:=d.ne U;have S:=S.trans T;have b:=b.sub T;have f:=f.sub T;have d:=d.sub T;refine At Fs rfl rfl rfl g (fun w3 z3 g a3=>?_);have S:=S.upd a3 aa;have b:=b.upd a3 z;have f:=f.upd a3 I;have d:=d.upd a3 y
 have g:Has w3 ac (x0.cells) _:=g.now (by kernel_rfl)
 refine Ah rfl<|Ae<|Ab<|Ac<|Bh<|Ac<|Aa rfl<|Af rfl<|Ak (.as (v':=.bool false) (.bin rfl rfl rfl) (Bt (fun h=>h rfl)))<|Ah rfl<|Ae<|Ab<|Bw rfl<|Ac<|Aa rfl<|Av Hy rfl ?_;refine Ba sh3 rfl g rfl<|Ak (.as (v':=.bool false) (.bin rfl rfl rfl) (Bt (by omega)))<|Af rfl<|Av Hy rfl<|Ba sh3 rfl f rfl<|Av Hy rfl<|Ba sh3 rfl g rfl<|Bc rfl rfl rfl<|Ak (.as (v':=.bool false) (.bin rfl rfl rfl) (Bt (by rw[hno,wrap_i64 (by omega)];exact fun h=>h rfl)))<|Bq rfl rfl<|Af rfl<|Av Gq rfl<|Ba Nd rfl b rfl<|Cm Fm rfl<|Ak (.as (v':=.bool false) (.bin rfl rfl rfl) (Bt (by omega)))<|Bq rfl rfl ?_;refine Ah rfl<|Ae<|Ab<|Bw rfl<|Ao<|Ab<|Ac<|Bs (fun k=>k=O) [7] w3.heap.size 8 rfl rfl mxo (fun w4 s5=>?_)
 have hNN:∀k,((k=O)∨w3.heap.size≤k)→w.heap.size≤k:=fun k e=>e.elim (fun e=>e▸K) (fun e=>Ad S.size e)
 have hN0:∀k,w3.heap.size≤k→w.heap.size≤k:=fun k e=>Ad S.size e
 have F:=b.lt;have E:=f.lt;have szD:=Nat.le_refl w3.heap.size;have S:=S.trans s5;have b:=b.sub s5;have f:=f.sub s5;have d:=d.sub s5;have g:=g.sub s5;have szD:=Ad szD s5.size;refine Bl 0 rfl Gq rfl<|Fq 1 rfl (by kernel_rfl) (by kernel_rfl) (by kernel_rfl) (by kernel_rfl) (fun w' s'=>.load1 Nd rfl ((b.step s' (Nat.not_le.2 F)).cell rfl)) rfl rfl<|Bg 3 rfl (fun w' s'=>.loadR (x.cells) Fs rfl (f.step s' (nE A.symm E)).row rfl)<|Ej [2,4] (by kernel_rfl) rfl (Ca rfl ?_ (Ca rfl ?_ (Do)))
 ·
  refine Az rfl AIv (ABb xs.length ra rc w4 hcap) ?_;rintro _ w6 ⟨rfl,s7⟩;have S:=S.trans s7;have b:=b.sub s7;have f:=f.sub s7;have d:=d.sub s7;have g:=g.sub s7;have szD:=Ad szD s7.size;refine Be s7.agr<|Aq 4 rfl<|Bi Fm _ Gx rfl rfl rfl rfl rfl rfl rfl (fun N H L W p m=>?_)
  have G:w3.heap.size≤N:=by rw[L];exact szD
  have S:=S.trans m;have b:=b.sub m;have f:=f.sub m;have d:=d.sub m;have g:=g.sub m;have szD:=Ad szD m.size;refine Be m.agr<|Aq 5 rfl ?_;have P:=S.size
  have ltb_2_42:=b.lt
  have ltb_3_42:=f.lt
  have ltb_4_42:=d.lt
  have ltb_6_42:=g.lt
  have ltb_41_42:=p.lt
  refine De (base:=H.heap.size) (rows:=xs.map RcP.cells) (news:=[_]) Fm Gx rfl rfl rfl rfl (.inr ⟨_,by rw[Aj],hl.sub S,Yc _⟩) (Dr p) rfl (by intro r hr;rw[List.mem_singleton] at hr;subst hr;rfl) rfl (by(try simp only[Aj,Am,Ag,Al]);omega) (by(try simp only[Aj,Am,Ag,Al]);omega) (by omega) rfl rfl (fun Y X hc_42 B j ob_42=>?_)
  have S:=S.agrN j (fun k e=>Ad (by omega) e.2)
  have b:=b.step j (fun e=>absurd e.2 (by omega));have f:=f.step j (fun e=>absurd e.2 (by omega));have d:=d.step j (fun e=>absurd e.2 (by omega));have g:=g.step j (fun e=>absurd e.2 (by omega));have szD:=Ad szD j.size
  have o42:=B (.inl (by simp))
  rw[show xs.map RcP.cells++[(Value.agg x.cells.toArray).cells.toList]=(xs++[x]).map RcP.cells from by rw[List.map_append];rfl] at o42
  obtain⟨i,cap42,D,e42,R,k42,_,l,_⟩:=o42.has (by simp)
  rw[Aj,Ag,List.length_singleton] at e42 k42
  subst e42
  have o:i≠O:=by omega
  have v:i≠ad:=by omega
  have n:i≠V:=by omega
  have s:i≠ac:=by omega
  have C:w.heap.size≤i:=(by omega)
  refine Be (j.mono fun k _ e=>by have:=e.2;omega)<|Bl 6 rfl Gq rfl<|Aq 7 rfl<|At Nd rfl rfl rfl b (fun w8 z8 b a8=>?_);have S:=S.upd a8 K;have f:=f.upd a8 A.symm;have d:=d.upd a8 q.symm;have g:=g.upd a8 z.symm;have szD:=Ad szD a8.size;have l:=l.upd a8 o
  have b:Has w8 O ((⟨some ⟨i,0,none⟩,xs.length+1,cap42,pa,pn,pc,sa,sn,sc⟩:TbP).cells) _:=b
  refine Cq rfl a8 (rfl)<|Cp<|Ab<|Ac<|Aa rfl<|Ak (.loadR ((⟨some ⟨i,0,none⟩,xs.length+1,cap42,pa,pn,pc,sa,sn,sc⟩:TbP).cells) Ef rfl b.row rfl)<|At Ef rfl rfl rfl d (fun w9 z9 d a9=>?_);have S:=S.upd a9 Q;have b:=b.upd a9 q;have f:=f.upd a9 J;have g:=g.upd a9 y.symm;have l:=l.upd a9 n
  have d:Has w9 V ((⟨some ⟨i,0,none⟩,xs.length+1,cap42,pa,pn,pc,sa,sn,sc⟩:TbP).cells) _:=d.now (by kernel_rfl)
  refine Ah rfl<|Ae<|Ab<|Bo (rs:=[.cell 4 59,.tmp 5]) (vs:=[_,_]) rfl rfl ⟨⟨_,rfl,.inr ⟨(⟨some ⟨i,0,none⟩,xs.length+1,cap42,pa,pn,pc,sa,sn,sc⟩:TbP).cells,Ef,d.row,rfl⟩⟩,rfl,trivial⟩ ?_
  exact⟨S,some ⟨i,0,none⟩,cap42,_,rfl,k42,l.ft.imp (fun u h=>Has.sl (extra:=D) h (Yc _)),By C⟩
 ·
  refine Bi Fm _ Gx rfl rfl rfl rfl rfl rfl rfl (fun N H L W p m=>?_)
  have G:w3.heap.size≤N:=by rw[L];exact szD
  have S:=S.trans m;have b:=b.sub m;have f:=f.sub m;have d:=d.sub m;have g:=g.sub m;refine Be m.agr<|Aq 2 rfl<|Az rfl AIv (ABb xs.length ra rc H hcap) ?_;rintro _ w10 ⟨rfl,s11⟩;have S:=S.trans s11;have b:=b.sub s11;have f:=f.sub s11;have d:=d.sub s11;have g:=g.sub s11;have p:=p.sub s11;refine Be s11.agr<|Aq 5 rfl ?_;have P:=S.size
  have ltb_2_42:=b.lt
  have ltb_3_42:=f.lt
  have ltb_4_42:=d.lt
  have ltb_6_42:=g.lt
  have ltb_41_42:=p.lt
  refine De (base:=w10.heap.size) (rows:=xs.map RcP.cells) (news:=[_]) Fm Gx rfl rfl rfl rfl (.inr ⟨_,by rw[Aj],hl.sub S,Yc _⟩) (Dr p) rfl (by intro r hr;rw[List.mem_singleton] at hr;subst hr;rfl) rfl (by(try simp only[Aj,Am,Ag,Al]);omega) (by(try simp only[Aj,Am,Ag,Al]);omega) (by omega) rfl rfl (fun Y X hc_42 B j ob_42=>?_)
  have S:=S.agrN j (fun k e=>Ad (by omega) e.2)
  have b:=b.step j (fun e=>absurd e.2 (by omega));have d:=d.step j (fun e=>absurd e.2 (by omega))
  have o42:=B (.inl (by simp))
  rw[show xs.map RcP.cells++[(Value.agg x.cells.toArray).cells.toList]=(xs++[x]).map RcP.cells from by rw[List.map_append];rfl] at o42
  obtain⟨i,cap42,D,e42,R,k42,_,l,_⟩:=o42.has (by simp)
  rw[Aj,Ag,List.length_singleton] at e42 k42
  subst e42
  have o:i≠O:=by omega
  have v:i≠ad:=by omega
  have n:i≠V:=by omega
  have s:i≠ac:=by omega
  have C:w.heap.size≤i:=(by omega)
  refine Be (j.mono fun k _ e=>by have:=e.2;omega)<|Bl 6 rfl Gq rfl<|Aq 7 rfl<|At Nd rfl rfl rfl b (fun w12 z12 b a12=>?_);have S:=S.upd a12 K;have d:=d.upd a12 q.symm;have l:=l.upd a12 o
  have b:Has w12 O ((⟨some ⟨i,0,none⟩,xs.length+1,cap42,pa,pn,pc,sa,sn,sc⟩:TbP).cells) _:=b
  refine Cq rfl a12 (rfl)<|Cp<|Ab<|Ac<|Aa rfl<|Ak (.loadR ((⟨some ⟨i,0,none⟩,xs.length+1,cap42,pa,pn,pc,sa,sn,sc⟩:TbP).cells) Ef rfl b.row rfl)<|At Ef rfl rfl rfl d (fun w13 z13 d a13=>?_);have S:=S.upd a13 Q;have l:=l.upd a13 n
  have d:Has w13 V ((⟨some ⟨i,0,none⟩,xs.length+1,cap42,pa,pn,pc,sa,sn,sc⟩:TbP).cells) _:=d.now (by kernel_rfl)
  refine Ah rfl<|Ae<|Ab<|Bo (rs:=[.cell 4 59,.tmp 5]) (vs:=[_,_]) rfl rfl ⟨⟨_,rfl,.inr ⟨(⟨some ⟨i,0,none⟩,xs.length+1,cap42,pa,pn,pc,sa,sn,sc⟩:TbP).cells,Ef,d.row,rfl⟩⟩,rfl,trivial⟩ ?_
  exact⟨S,some ⟨i,0,none⟩,cap42,_,rfl,k42,l.ft.imp (fun u h=>Has.sl (extra:=D) h (Yc _)),By C⟩
theorem AHf(k j:Nat):(List.replicate k [Value.int .i64 0]++List.replicate j [Value.int .i64 0]).flatten.length=(k+j)*1:=by
 rw[Cy (sz:=1) _ (fun r hr=>(List.mem_append.1 hr).elim (fun h=>by rw[(List.mem_replicate.1 h).2];rfl) (fun h=>by rw[(List.mem_replicate.1 h).2];rfl)),Ag,List.length_replicate,List.length_replicate]
theorem AHD(k:Nat)(hk:k≤10000)(w:World):FC Tryz.prog 290 [.slice none 0 0,.int .i64 (k:Int)] w (fun v w'=>Sub w w'∧∃a c,v=.slice a 0 c∧Ows w.heap.size w' 3 1 (.slice a 0 c) []):=by
 refine As Tryz.func290 rfl Tryz.ntmps290 rfl ?_
 have S:=Ax w
 refine Ac<|Aa rfl<|Ah rfl<|Ae<|Ab<|Ac<|Ac<|Aa rfl<|Af rfl<|Bc rfl rfl rfl<|Ae<|Ab<|An rfl (fun h1=>?_) (fun h1=>?_)
 ·
  exact absurd h1 (by omega)
 ·
  refine Ao<|Ab<|Ac<|Ac<|Aa rfl<|Af rfl<|Af rfl<|Ak (.cap Dd rfl)<|Af rfl<|Cm Dd rfl<|Ak (.as (.bin rfl rfl rfl) (Cs (y:=(0:Int)) (by rfl) (by omega)))<|Ak (.as (.bin rfl rfl rfl) (Cs (y:=(k:Int)) (by omega) (by omega)))<|Ah rfl<|Ae<|Ab<|Ac ?_;refine Aa rfl<|Af rfl<|Bc rfl rfl rfl<|Ae<|Ab<|An rfl (fun h2=>?_) (fun h2=>?_)
  ·
   have hk0:0<k:=(by omega)
   refine Aa rfl<|Af rfl<|Af rfl<|Ak (.cap Dd rfl)<|Ak (.sliceHi Dd rfl rfl (by omega))<|Af rfl<|RL.appendZ0 (k:=k) Dd Tryz.underlying3 ze3 rfl rfl rfl rfl hk0 (by omega) (by omega) rfl rfl (fun e w3 cap9 ex9 d hc9 hm9 b hcx9 s9=>?_);have S:=S.trans s9;refine Af rfl<|Cm Dd rfl<|Ak (.sliceHi Dd rfl rfl (by omega))<|Ah rfl<|Ae<|Ab<|Ac<|Aa rfl<|Af rfl<|Ah rfl<|Ae<|Ab<|Bb 4 rfl rfl rfl ?_
   exact⟨S,_,_,rfl,Qo (rows:=[]) (extra:=(List.replicate k [Value.int .i64 0]++List.replicate ex9 [Value.int .i64 0]).flatten) b (fun r hr=>by cases hr) (by omega) (Nat.zero_le _) hm9 (by rw[List.flatten_nil,List.nil_append,AHf,hcx9])⟩
  ·
   refine Ao<|Ab<|Ac<|Aa rfl<|Af rfl<|Ah rfl<|Ae<|Ab<|Bb 4 rfl rfl rfl ?_
   exact⟨S,none,0,rfl,Ows.nil _ _ _ _⟩
structure TriI where
 l:List Int
 a:Option Addr
 c:Nat
def TriI.v(t:TriI):Value:=.slice t.a t.l.length t.c
def Kz(ts:List TriI):List Int:=(ts.map (·.l)).flatten
theorem Tc{ts:List TriI}{i:Nat}{t:TriI}(h:ts[i]?=some t):Kz (ts.take (i+1))=Kz (ts.take i)++t.l:=by
 unfold Kz
 rw[List.take_add_one,h]
 simp
theorem AGv(ts:List TriI)(hs:∀t∈ts,t.l.length≤1000):(Kz ts).length≤ts.length*1000:=by
 induction ts with
 |nil=>simp[Kz]
 |cons t ts ih =>
  have h1:=hs t (by simp)
  have h2:=ih (fun t ht=>hs t (by simp[ht]))
  unfold Kz at h2 ⊢
  simp only[List.map_cons,List.flatten_cons,Ag,Al]
  omega
theorem AEs(ts:List TriI)(hn:ts.length≤9)(hs:∀t∈ts,t.l.length≤1000)(pa:Option Addr)(pc:Nat)(w:World)(hP:Sl w pa 1 (ts.map fun t=>[t.v]))(hT:∀t∈ts,Sl w t.a 1 (t.l.map fun x=>[i6 x])):
  FC Tryz.prog 284 [.slice pa ts.length pc] w (fun v w'=>Sub w w'∧∃a c,v=.slice a (Kz ts).length c∧Sl w' a 1 ((Kz ts).map fun x=>[i6 x])):=by
 have hlen:∀i,(Kz (ts.take i)).length≤9000:=fun i=>Ad (AGv _ (fun t ht=>hs t (List.mem_of_mem_take ht))) (by rw[List.length_take];omega)
 refine As Tryz.func284 rfl Tryz.ntmps284 rfl ?_
 have S:=Ax w
 refine Ac<|Aa rfl<|Ah rfl<|Ae<|Ab<|Ac<|Aa rfl<|Ah rfl<|Ae<|Ab<|Ac<|Ac<|Aa rfl<|Af rfl<|Cm AAx rfl<|Af rfl ?_;refine Ae<|Ab<|Bh<|Cw (α:=Nat) (fun i=>[(0,.slice pa ts.length pc),(3,.int .i64 ((Kz (ts.take i)).length:Int)),(9,.slice pa ts.length pc),(10,.int .i64 (ts.length:Int)),(11,.int .i64 (i:Int))]) (fun i w1=>i≤ts.length∧Sub w w1) (fun i=>ts.length-i) 0 (Bf (by repeat (first|exact trivial|refine And.intro rfl ?_))) (⟨Nat.zero_le _,S⟩) (fun i w1 hJ=>?_)
 obtain⟨hi,S⟩:=hJ;have hli:=hlen i;have hli1:=hlen (i+1)
 refine Ac<|Aa rfl<|Bc rfl rfl rfl<|Ae<|Ab<|Ac<|An rfl (fun h2=>?_) (fun h2=>?_)
 ·
  obtain⟨t,ht⟩:=Ce (l:=ts) (i:=i) (by omega)
  refine Ao<|Ab<|Ac<|Bh<|Ac<|Aa rfl<|Ak (.indexS AAx rfl rfl (by omega) (hP.is (i:=0) (by simp only[Aj,Al,Am];omega)))<|Ak (.as (v':=.slice t.a t.l.length t.c) (.load1 El rfl ((hP.sub S).one (enc:=TriI.v) (i:=i) ht)) (by rfl))<|Ah rfl<|Ae<|Ab<|Ac<|Aa rfl<|Af rfl<|Af rfl<|Cm Dd rfl ?_;refine Ak (.as (.bin rfl rfl rfl) (Cs (y:=((Kz (ts.take (i+1))).length:Int)) (by rw[Tc ht,Ag];omega) (by omega)))<|Ah rfl<|Ae<|Ab<|Ac<|Aa rfl<|Af rfl<|Bc rfl rfl rfl<|Ae<|Ab<|An rfl (fun h3=>?_) (fun h3=>?_)
  ·
   exact absurd h3 (by omega)
  ·
   refine Ao<|Ab<|Aa rfl<|Ak (.as (.bin rfl rfl rfl) (Cs (y:=((i+1:Nat):Int)) (by omega) (by omega)))<|Af rfl ?_
   exact Ae (fun a ka=>⟨i+1,⟨by omega,S⟩,by omega,ka.keep (Bf (by repeat (first|exact trivial|refine And.intro rfl ?_)))⟩)
 ·
  obtain rfl:i=ts.length:=(by omega)
  rw[List.take_length] at hli
  refine Co rfl<|Ab<|Ac<|Aa rfl<|Ak (.as (v':=.int .i64 ((Kz ts).length:Int)) (.move rfl) (by rw[List.take_length]))<|Az rfl ALC (AHD (Kz ts).length (by omega) w1) ?_;rintro _ w4 ⟨s5,a0,c0,rfl,o⟩
  have o:=o.low S.size
  have S:=S.trans s5;refine Ah rfl<|Ae<|Ab<|Ac<|Ac<|Aa rfl<|Af rfl<|Cm AAx rfl<|Af rfl<|Ae<|Ab<|Bh<|Cw (α:=Nat × Option Addr × Nat) (fun x=>[(6,.slice x.2.1 ((Kz (ts.take x.1)).map fun x=>[i6 x]).length x.2.2),(25,.slice pa ts.length pc),(26,.int .i64 (ts.length:Int)),(27,.int .i64 (x.1:Int))]) (fun x w6=>x.1≤ts.length∧Ows w.heap.size w6 3 1 (.slice x.2.1 ((Kz (ts.take x.1)).map fun x=>[i6 x]).length x.2.2) ((Kz (ts.take x.1)).map fun x=>[i6 x])∧Sub w w6) (fun x=>ts.length-x.1) (0,a0,c0) (Bf (by repeat (first|exact trivial|refine And.intro rfl ?_))) (⟨Nat.zero_le _,o,S⟩) (fun x w6 hJ=>?_)
  obtain⟨i,a,c⟩:=x;obtain⟨hi,o,S⟩:=hJ;simp only[] at hi o;have hli:=hlen i;have hli1:=hlen (i+1);have hlm:((Kz (ts.take i)).map fun x=>[i6 x]).length≤9000:=(by rw[Aj];exact hli)
  refine Ac<|Aa rfl<|Bc rfl rfl rfl<|Ae<|Ab<|Ac<|An rfl (fun h7=>?_) (fun h7=>?_)
  ·
   obtain⟨t,ht⟩:=Ce (l:=ts) (i:=i) (by omega)
   have htl:=hs t (Au ht)
   have htm:(t.l.map fun x=>[i6 x]).length≤1000:=(by rw[Aj];exact htl)
   refine Ao<|Ab<|Ac<|Bh<|Ac<|Aa rfl<|Ak (.indexS AAx rfl rfl (by omega) (hP.is (i:=0) (by simp only[Aj,Al,Am];omega)))<|Ak (.as (v':=.slice t.a t.l.length t.c) (.load1 El rfl ((hP.sub S).one (enc:=TriI.v) (i:=i) ht)) (by rfl))<|Ah rfl<|Ae<|Ab<|Aa rfl<|Af rfl<|Af rfl ?_;have h:=S.size;refine De (base:=w.heap.size) (rows:=(Kz (ts.take i)).map fun x=>[i6 x]) (news:=t.l.map fun x=>[i6 x]) Dd ze3 rfl rfl rfl rfl (.inl o) ((hT t (Au ht)).sub S) (by(try simp only[Aj]);first|done|rfl) (by intro r hr;obtain⟨x,_,rfl⟩:=List.mem_map.1 hr;rfl) (by rw[List.all_eq_true];intro r hr;obtain⟨x,_,rfl⟩:=List.mem_map.1 hr;rfl) (by(try simp only[Aj,Am,Ag,Al]);omega) (by(try simp only[Aj,Am,Ag,Al]);omega) (by omega) rfl rfl (fun m j hc_33 b d ob_33=>?_)
   have o33:=b (.inr o)
   have S:=S.agrN d (fun k e=>Ad (by omega) e.2)
   obtain⟨g,f,rfl,n⟩:=o33.form
   rw[←List.map_append,←Tc ht] at o33
   rw[←List.map_append,←Tc ht]
   refine Ah rfl<|Ae<|Ab<|Aa rfl<|Ak (.as (.bin rfl rfl rfl) (Cs (y:=((i+1:Nat):Int)) (by omega) (by omega)))<|Af rfl ?_
   exact Ae (fun a ka=>⟨(i+1,g,f),⟨by omega,o33,S⟩,by omega,ka.keep (Bf (by repeat (first|exact trivial|refine And.intro rfl ?_)))⟩)
  ·
   obtain rfl:i=ts.length:=(by omega)
   rw[List.take_length] at o
   refine Co rfl<|Ab<|Ac<|Aa rfl<|Af rfl<|Ah rfl<|Ae<|Ab<|Bb 2 rfl rfl rfl ?_
   rw[List.take_length]
   exact⟨S,a,c,by rw[Aj];rfl,o.sl.1⟩
structure VP where
 x:RcP
 v:Ver
 V:List Int
def VP.cells(p:VP):List Value:=p.x.cells
structure TbOk (n:Nat) (A:Ar) (L:List VP) (ps:List Int):Prop where
 one:1≤L.length∧L.length≤64
 ver:∀p∈L,VerOk n A p.v (Pg p.V)∧RowA A p.v.rt p.V
 inc:∀i p q,L[i]?=some p→L[i+1]?=some q→p.v.no<q.v.no
 pl:ps.length=n
 pr:∀x∈ps, -1≤x∧x≤1099511627776
def Fz:List Int:=List.replicate 8 (-1)
structure TbR (t:TbP) (L:List VP) (ps:List Int) (u:World):Prop where
 r:Sl u t.ra 7 (L.map VP.cells)
 rn:t.rn=L.length
 rc:L.length≤t.rc
 p:Sl u t.pa 1 (ps.map fun x=>[i6 x])
 pn:t.pn=ps.length
 s:Sl u t.sa 1 (Fz.map fun x=>[i6 x])
 sn:t.sn=8
 v:∀p∈L,RcR u p.x p.v
theorem TbR.sub{t:TbP}{L:List VP}{ps:List Int}{u u':World}(h:TbR t L ps u)(s:Sub u u'):TbR t L ps u' :=
 ⟨h.r.sub s,h.rn,h.rc,h.p.sub s,h.pn,h.s.sub s,h.sn,fun p hp=>(h.v p hp).sub s⟩
theorem ACp(b:Nat)(w:World):FC Tryz.prog 285 [.int .i64 (-1),.pointer (some ⟨b,0,none⟩)] w (Val (.bool false) w):=by
 refine As Tryz.func285 rfl Tryz.ntmps285 rfl ?_
 have S:=Ax w
 refine Ac<|Aa rfl<|Ah rfl<|Ae<|Ab<|Ac<|Aa rfl<|Af rfl<|Ak (.as (v':=.bool false) (.bin rfl rfl rfl) (Bt (fun h=>h rfl)))<|Af rfl<|Bd 4 rfl<|Bq rfl rfl<|Ah rfl<|Ae<|Ab<|Bb 3 rfl rfl rfl ?_
 exact⟨rfl,S⟩
set_option maxHeartbeats 1000000 in
theorem AEk(n:Nat)(hn8:1≤n∧n≤8)(A:Ar)(na fa:Option Addr)(nc fc:Nat)(hnc:A.nodes.length≤nc)(hfc:A.free.length≤fc)(t:TbP)(L:List VP)(ps:List Int)(hok:TbOk n A L ps)(w:World)(hA:ArR w na fa A)(hT:TbR t L ps w):
  FC Tryz.prog 265 [arV na fa nc fc A,.agg t.cells.toArray] w (Val (.bool true) w):=by
 have hs:=Vu t (by rw[hT.rn];exact hok.one) hT.sn
 obtain⟨ra,rn,rc,pa,pn,pc,sa,sn,sc⟩:=t
 obtain⟨hl,rfl,hrc,hp,rfl,hsn,rfl,hv⟩:=hT
 simp only[] at hs hl hrc hp hsn hv
 obtain⟨o1,o2,o3,o4,o5⟩:=hok
 obtain⟨p0,hp0⟩:=Ce (l:=L) (i:=0) (by omega)
 have hpm0:=Au hp0
 have han:∀p∈L,p.x.an=ps.length:=fun p hp=>by rw[o4,←(o2 p hp).1.an];exact(hv p hp).2.2.1
 have han0:=han p0 hpm0
 refine As Tryz.func265 rfl Tryz.ntmps265 rfl ?_
 have S:=Ax w
 refine Ac<|Aa rfl<|Bu rfl rfl rfl (fun z E O K c F=>?_);have S:=S.trans F
 have c:Has E z ([.slice na A.nodes.length nc,.slice fa A.free.length fc]) _:=c
 refine Bu rfl rfl rfl (fun g D N J b B=>?_);have S:=S.trans B;have c:=c.sub B
 have b:Has D g ([.slice ra L.length rc,.slice pa ps.length pc,.slice sa 8 sc]) _:=b
 refine Ah rfl<|Ae<|Ab<|Ac<|Ac<|Ev rfl mxo (by kernel_rfl)<|Aw (.loadR ([.slice ra L.length rc,.slice pa ps.length pc,.slice sa 8 sc]) Ef rfl b.row rfl)<|Ji rfl AJb (fun w' s'=>hs w') rfl rfl<|Aw (.not rfl)<|Cf rfl<|Aw (.field0 Nq rfl)<|Aw (.load1 El rfl (b.cell rfl))<|Aw (.len Dd rfl)<|Aw (.field0 Gq rfl)<|Aw (.load1 Nd rfl (b.cell rfl))<|Aw (.indexS Fm rfl rfl (by omega) (hl.is (i:=0) (by simp only[Aj,Al,Am];omega))) ?_;refine Aw (.fieldA Jq rfl)<|Aw (.load1 El rfl ((hl.sub S).rowAt (enc:=VP.cells) (i:=0) hp0 5 _ rfl))<|Aw (.len Dd rfl)<|Aw (.as (v':=.bool false) (.bin rfl rfl rfl) (Bt (by rw[han0];exact fun h=>h rfl)))<|Aw (.pick_f rfl rfl)<|Dq (fun w1 s2=>Ab ?_);have S:=S.trans s2;have c:=c.sub s2;have b:=b.sub s2;refine Bw rfl<|Ao<|Ab<|Ac<|Ac<|Aa rfl<|Av Gq rfl<|Ba Nd rfl b rfl<|Cm Fm rfl<|Af rfl<|Ae<|Ab<|Bh<|Cw (α:=Nat) (fun i=>[(2,.pointer (some ⟨z,0,none⟩)),(3,.pointer (some ⟨g,0,none⟩)),(4,.bool false),(25,.slice ra L.length rc),(26,.int .i64 (L.length:Int)),(27,.int .i64 (i:Int))]) (fun i w3=>i≤L.length∧Has w3 z [.slice na A.nodes.length nc,.slice fa A.free.length fc] 26∧Has w3 g [.slice ra L.length rc,.slice pa ps.length pc,.slice sa 8 sc] 59∧Sub w w3) (fun i=>L.length-i) 0 (Bf (by repeat (first|exact trivial|refine And.intro rfl ?_))) (⟨Nat.zero_le _,c,b,S⟩) (fun i w3 hJ=>?_)
 obtain⟨hi,c,b,S⟩:=hJ
 refine Ac<|Aa rfl<|Bc rfl rfl rfl<|Ae<|Ab<|Ac<|An rfl (fun h4=>?_) (fun h4=>?_)
 ·
  obtain⟨q,hq⟩:=Ce (l:=L) (i:=i) (by omega)
  have hqm:=Au hq
  have hqo:=o2 q hqm
  have hqv:=hv q hqm
  have hqa:=han q hqm
  refine Ao<|Ab<|Ac<|Bh<|Ac<|Aa rfl<|Af rfl<|Ak (.indexS Fm rfl rfl (by omega) (hl.is (i:=0) (by simp only[Aj,Al,Am];omega)))<|Ak (.loadR (q.x.cells) Fs rfl ((hl.sub S).rowAt (enc:=VP.cells) (i:=i) hq) rfl)<|Ay Gx rfl rfl (fun H M s I d o=>?_);have r:=S.le s;have f:=c.ne s;have e:=b.ne s;have S:=S.trans o;have c:=c.sub o;have b:=b.sub o;refine Ah rfl<|At Fs rfl rfl rfl d (fun w5 z5 d a5=>?_);have S:=S.upd a5 r;have c:=c.upd a5 f;have b:=b.upd a5 e
  have d:Has w5 H (q.x.cells) _:=d.now (by kernel_rfl)
  refine Ae<|Ab<|Ac<|Ev rfl mxo (by kernel_rfl)<|Aw (.loadR ([.slice na A.nodes.length nc,.slice fa A.free.length fc]) Cb rfl c.row rfl)<|Aw (.loadR (q.x.cells) Fs rfl d.row rfl)<|Ji rfl AIw (fun w' s'=>ABe n A na fa nc fc hnc hfc q.x q.v (Pg q.V) w' (hA.sub (S.trans s')) (hqv.sub (S.trans s')) hqo.1) rfl rfl<|Aw (.not rfl)<|Cf rfl<|Aw (.field0 Jq rfl)<|Aw (.load1 El rfl (d.cell rfl))<|Aw (.len Dd rfl)<|Aw (.field0 Nq rfl)<|Aw (.load1 El rfl (b.cell rfl))<|Aw (.len Dd rfl)<|Aw (.as (v':=.bool false) (.bin rfl rfl rfl) (Bt (by rw[hqa];exact fun h=>h rfl))) ?_;refine Aw (.pick_f rfl rfl)<|Cf rfl<|Cf rfl<|Aw (.bin rfl rfl rfl)<|Cf rfl<|Fp 48 rfl (fun h6=>?_) (fun h6=>?_)
  ·
   have h48:0<i:=(by have:=h6;omega)
   obtain⟨q',hq'⟩:=Ce (l:=L) (i:=i-1) (by omega)
   have hinc:=o3 (i-1) q' q hq' (by rw[Nat.sub_add_cancel h48];exact hq)
   have hqv':=hv q' (Au hq')
   refine Aw (.field0 Gq rfl)<|Aw (.load1 Nd rfl (b.cell rfl))<|Cf rfl<|Aw (.as (.bin rfl rfl rfl) (Cs (y:=((i-1:Nat):Int)) (by omega) (by omega)))<|Aw (.indexS Fm rfl rfl (by omega) (hl.is (i:=0) (by simp only[Aj,Al,Am];omega)))<|Aw (.fieldA Hy rfl)<|Aw (.load1 sh3 rfl ((hl.sub S).rowAt (enc:=VP.cells) (i:=i-1) hq' 0 _ rfl))<|Aw (.field0 Hy rfl)<|Aw (.load1 sh3 rfl (d.cell rfl))<|Aw (.as (v':=.bool false) (.bin rfl rfl rfl) (Bt (by rw[hqv.1,hqv'.1];omega)))<|Aw (.pick_t rfl rfl)<|Aw (.pick_f rfl rfl)<|Dq (fun w7 s8=>Ab ?_);have S:=S.trans s8;have c:=c.sub s8;have b:=b.sub s8;refine Bw rfl<|Ao<|Ab<|Aa rfl<|Ak (.as (.bin rfl rfl rfl) (Cs (y:=((i+1:Nat):Int)) (by omega) (by omega)))<|Af rfl ?_
   exact Ae (fun a ka=>⟨i+1,⟨by omega,c,b,S⟩,by omega,ka.keep (Bf (by repeat (first|exact trivial|refine And.intro rfl ?_)))⟩)
  ·
   refine Bj<|Bj<|Bj<|Bj<|Bj<|Bj<|Bj<|Bj<|Bj<|Bj<|Aw (.pick_f rfl rfl)<|Aw (.pick_f rfl rfl)<|Dq (fun w9 s10=>Ab ?_);have S:=S.trans s10;have c:=c.sub s10;have b:=b.sub s10;refine Bw rfl<|Ao<|Ab<|Aa rfl<|Ak (.as (.bin rfl rfl rfl) (Cs (y:=((i+1:Nat):Int)) (by omega) (by omega)))<|Af rfl ?_
   exact Ae (fun a ka=>⟨i+1,⟨by omega,c,b,S⟩,by omega,ka.keep (Bf (by repeat (first|exact trivial|refine And.intro rfl ?_)))⟩)
 ·
  refine Co rfl<|Ab<|Ac<|Ac<|Aa rfl<|Av Nq rfl<|Ba El rfl b rfl<|Av AAM rfl<|Ba El rfl b rfl<|Iu (vs:=[_,_]) AAx _ AJT rfl ⟨rfl,rfl,trivial⟩ rfl rfl rfl rfl rfl rfl (fun u m G C k j=>?_);have S:=S.trans j;have b:=b.sub j;refine Az rfl ALG (AEs [⟨ps,pa,pc⟩,⟨Fz,sa,sc⟩] (by simp) (by intro t ht;simp only[List.mem_cons,List.not_mem_nil,or_false] at ht;rcases ht with rfl|rfl;show ps.length≤1000;omega;show Fz.length≤1000;decide) (some ⟨u,0,none⟩) 2 m (Ik (enc:=TriI.v) (l:=[⟨ps,pa,pc⟩,⟨Fz,sa,sc⟩]) k) (by intro t ht;simp only[List.mem_cons,List.not_mem_nil,or_false] at ht;rcases ht with rfl|rfl;exact hp.sub S;exact hsn.sub S)) ?_;rintro _ w11 ⟨s12,a8,c8,rfl,hc⟩;have S:=S.trans s12;have b:=b.sub s12
  obtain⟨W1,S1,hc⟩:∃W,Sub W w11∧Sl W a8 1 ((ps++Fz).map fun x=>[i6 x]):=⟨_,Ax _,by simpa[Kz] using hc⟩
  have hcat:Kz [⟨ps,pa,pc⟩,⟨Fz,sa,sc⟩]=ps++Fz:=(by simp[Kz])
  rw[hcat]
  have hcl:(ps++Fz).length≤16:=(by rw[Ag,Fz,List.length_replicate];omega)
  refine Cm Dd rfl<|Af rfl<|Ae<|Ab<|Bh<|Cw (α:=Nat) (fun i=>[(3,.pointer (some ⟨g,0,none⟩)),(4,.bool false),(67,.slice a8 (ps++Fz).length c8),(68,.int .i64 ((ps++Fz).length:Int)),(69,.int .i64 (i:Int))]) (fun i w13=>i≤(ps++Fz).length∧Has w13 g [.slice ra L.length rc,.slice pa ps.length pc,.slice sa 8 sc] 59∧Sub W1 w13∧Sub w w13) (fun i=>(ps++Fz).length-i) 0 (Bf (by repeat (first|exact trivial|refine And.intro rfl ?_))) (⟨Nat.zero_le _,b,S1,S⟩) (fun i w13 hJ=>?_)
  obtain⟨hi,b,S1,S⟩:=hJ
  refine Ac<|Aa rfl<|Bc rfl rfl rfl<|Ae<|Ab<|Ac<|An rfl (fun h14=>?_) (fun h14=>?_)
  ·
   obtain⟨y,hy⟩:=Ce (l:=ps++Fz) (i:=i) (by omega)
   have hyr : -1≤y∧y≤1099511627776:=(List.mem_append.1 (Au hy)).elim (o5 y) (fun h=>by rw[List.eq_of_mem_replicate h];decide)
   refine Ao<|Ab<|Ac<|Bh<|Ac<|Aa rfl<|Ak (.indexS Dd rfl rfl (by omega) (hc.is (i:=0) (by simp only[Aj,Al,Am];omega)))<|Ak (.load1 sh3 rfl ((hc.sub S1).one (enc:=i6) (i:=i) hy))<|Ah rfl<|Ae<|Ab<|Ac<|Aa rfl<|Af rfl<|Ak (.as (v':=.bool false) (.bin rfl rfl rfl) (Bt (by omega)))<|Af rfl ?_;refine Af rfl<|Ak (.as (v':=.bool false) (.bin rfl rfl rfl) (Bt (by omega)))<|Bq rfl rfl<|Ae<|Ab<|Bw rfl<|Ao<|Ab<|Aa rfl<|Ak (.as (.bin rfl rfl rfl) (Cs (y:=((i+1:Nat):Int)) (by omega) (by omega)))<|Af rfl ?_
   exact Ae (fun a ka=>⟨i+1,⟨by omega,b,S1,S⟩,by omega,ka.keep (Bf (by repeat (first|exact trivial|refine And.intro rfl ?_)))⟩)
  ·
   refine Co rfl<|Ab<|Ac<|Aa rfl<|Av AAM rfl<|Ba El rfl b rfl<|Ak (.func (xs:=[]) (ys:=[_]) rfl rfl)<|Az rfl AIo (FC.asV (Rr 285 ALF [.pointer (some ⟨g,0,none⟩)] (fun _=>false) Fz sa sc _ rfl w13 (fun x hx w' _=>by rw[List.eq_of_mem_replicate hx];exact ACp g w') (hsn.sub S) (by decide)) (congrArg Value.bool (List.any_eq_false.2 fun x hx=>by decide))) ?_;rintro _ w15 ⟨rfl,s16⟩;have S:=S.trans s16;refine Ak (.not rfl)<|Ah rfl<|Ae<|Ab<|Bb 4 rfl rfl rfl ?_
   exact⟨rfl,S⟩
end Go.Proofs.YtbjmllnddanniaaGreat
set_option linter.unusedVariables false
set_option linter.unusedSimpArgs false
set_option maxRecDepth 4000
namespace Go.Proofs.YtbjmllnddanniaaGreat
open Go Go.XL
theorem Yz{α:Type}{p:α→Bool}{l:List α}(h:Ke p l = -1):(l.filter fun x => !p x)=l:=by
 refine List.filter_eq_self.2 fun x hx=>?_
 cases hp:p x with
 |false=>rfl
 |true =>
  unfold Ke at h
  rw[if_pos (List.any_eq_true.2 ⟨x,hx,hp⟩)] at h
  omega
theorem Wm{α:Type}{p:α→Bool}{l:List α}(h:¬Ke p l = -1):∃i x,Ke p l=(i:Nat)∧l[i]?=some x∧p x=true∧((l.take i).filter fun x => !p x)=l.take i:=by
 unfold Ke at h ⊢
 cases ha:l.any p with
 |false=>rw[ha] at h;exact absurd rfl h
 |true =>
  have hlt:l.findIdx p<l.length:=List.findIdx_lt_length_of_exists (by obtain⟨x,hx,hp⟩:=List.any_eq_true.1 ha;exact⟨x,hx,hp⟩)
  refine⟨l.findIdx p,l[l.findIdx p],by rw[if_pos rfl],List.getElem?_eq_getElem hlt,List.findIdx_getElem (w:=hlt),List.filter_eq_self.2 fun x hx=>?_⟩
  obtain⟨j,hj⟩:=List.getElem?_of_mem hx
  have hjl:=Cc hj
  rw[List.length_take] at hjl
  rw[List.getElem?_take_of_lt (by omega)] at hj
  have:=List.not_of_lt_findIdx (p:=p) (xs:=l) (i:=j) (by omega)
  rw[Ex hj] at this
  simpa using this
abbrev iC(x:Int):List Value:=[i6 x]
theorem ABK{l:List Int}:∀r∈l.map iC,r.length=1:=fun r hr=>by obtain⟨x,_,rfl⟩:=List.mem_map.1 hr;rfl
theorem AFl{w:World}{g:Nat}{e:TypeId}{l:List Int}{ex:List (List Value)}(h:Has w g (l.map iC++ex).flatten e):Sl w (some ⟨g,0,none⟩) 1 (l.map iC):=Has.sl (extra:=ex.flatten) (by rw[←List.flatten_append];exact h) ABK
theorem AGB(p:Int→Bool)(l:List Int)(a:Option Addr)(c:Nat)(f:FuncId)(hf:calleeOK Tryz.prog f=true)(us cs:List Value)(w:World)(hs:Sl w a 1 (l.map fun x=>[i6 x]))(hlen:l.length≤1000000)
  (hp:∀x∈l,∀w',Sub w w'→FC Tryz.prog f (us++[i6 x]++cs) w' (Val (.bool (p x)) w')) :
  FC Tryz.prog 286 [.slice a l.length c,.func (.func f) us.toArray cs.toArray] w (Val (.int .i64 (Ke p l)) w):=by
 refine As Tryz.func286 rfl Tryz.ntmps286 rfl ?_
 have S:=Ax w
 refine Ac<|Aa rfl<|Ah rfl<|Ae<|Ab<|Ac<|Ac<|Aa rfl<|Af rfl<|Cm Dd rfl<|Af rfl<|Ae<|Ab<|Bh<|Cw (α:=Nat) (fun i=>[(0,.slice a l.length c),(1,.func (.func f) us.toArray cs.toArray),(7,.int .i64 (l.length:Int)),(8,.int .i64 (i:Int))]) (fun i w1=>i≤l.length∧(∀j x,l[j]?=some x→j<i→p x=false)∧Sub w w1) (fun i=>l.length-i) 0 (Bf (by repeat (first|exact trivial|refine And.intro rfl ?_))) (⟨Nat.zero_le _,fun j x _ h=>absurd h (by omega),S⟩) (fun i w1 hJ=>?_)
 obtain⟨hi,hn,S⟩:=hJ
 refine Ac<|Aa rfl<|Bc rfl rfl rfl<|Ae<|Ab<|Ac<|An rfl (fun h2=>?_) (fun h2=>?_)
 ·
  obtain⟨x,hx⟩:=Ce (l:=l) (i:=i) (by omega)
  refine Ao<|Ab<|Ac<|Bh<|Ac<|Aa rfl<|Af rfl<|Ah rfl<|Ae<|Ab<|Ac<|Aa rfl<|Af rfl<|Af rfl<|Af rfl<|Ak (.indexS Dd rfl rfl (by omega) (hs.is (i:=0) (by simp only[Aj,Al,Am];omega))) ?_;refine Ak (.load1 sh3 rfl ((hs.sub S).one (enc:=i6) (i:=i) hx))<|Dl rfl rfl (us:=us) (cs:=cs) hf (hp x (Au hx) _ S) rfl rfl ?_;rintro _ w3 ⟨rfl,s4⟩;have S:=S.trans s4;refine Ae<|Ab<|Db rfl (fun h5=>?_) (fun h5=>?_)
  ·
   have hv:=h5
   refine Ac<|Aa rfl<|Af rfl<|Ah rfl<|Ae<|Ab<|Bb 4 rfl rfl rfl ?_
   refine⟨?_,S⟩
   show Value.int .i64 _=_
   congr 1
   rw[Ke,if_pos (List.any_eq_true.2 ⟨x,Au hx,hv⟩)]
   congr 1
   symm
   have hlt:=Cc hx
   rw[List.findIdx_eq hlt]
   exact⟨by rw[Ex hx hlt];exact hv,fun j hj=>hn j _ (List.getElem?_eq_getElem (by omega)) hj⟩
  ·
   have hv:=h5
   refine Ao<|Ab<|Aa rfl<|Ak (.as (.bin rfl rfl rfl) (Cs (y:=((i+1:Nat):Int)) (by omega) (by omega)))<|Af rfl ?_
   exact Ae (fun a ka=>⟨i+1,⟨by omega,fun j x hj h=>(Nat.lt_succ_iff_lt_or_eq.1 h).elim (hn j x hj) (fun e=>by subst e;rw[hx] at hj;cases hj;exact hv),S⟩,by omega,ka.keep (Bf (by repeat (first|exact trivial|refine And.intro rfl ?_)))⟩)
 ·
  refine Co rfl<|Ab<|Ac<|Aa rfl<|Ah rfl<|Ae<|Ab<|Bb 4 rfl rfl rfl ?_
  refine⟨?_,S⟩
  show Value.int .i64 _=_
  congr 1
  rw[Ke,if_neg]
  intro hh
  obtain⟨x,hx,hpx⟩:=List.any_eq_true.1 hh
  obtain⟨j,hj,rfl⟩:=List.getElem_of_mem hx
  have:=hn j _ (List.getElem?_eq_getElem hj) (by omega)
  rw[this] at hpx
  cases hpx
set_option maxHeartbeats 1000000 in
theorem AIQ(p:Int→Bool)(l:List Int)(g:Nat)(ex:List (List Value))(hex:∀r∈ex,r.length=1)(hcap:l.length+ex.length≤9223372036854775807)(hll:l.length≤1000000)(f:FuncId)(hf:calleeOK Tryz.prog f=true)(us cs:List Value)(w:World)(hg:Has w g (l.map iC++ex).flatten 3)
  (hp:∀x∈l,∀w',Agr (· = g) w w'→FC Tryz.prog f (us++[i6 x]++cs) w' (Val (.bool (p x)) w')) :
  FC Tryz.prog 272 [.slice (some ⟨g,0,none⟩) l.length (l.length+ex.length),.func (.func f) us.toArray cs.toArray] w (fun u w'=>u=.slice (some ⟨g,0,none⟩) (l.filter fun x => !p x).length (l.length+ex.length)∧(∃ex':List (List Value),(∀r∈ex',r.length=1)∧(l.filter fun x => !p x).length+ex'.length=l.length+ex.length∧Has w' g ((l.filter fun x => !p x).map iC++ex').flatten 3)∧Agr (· = g) w w'):=by
 have hR:∀r∈l.map iC++ex,r.length=1:=fun r hr=>(List.mem_append.1 hr).elim (ABK r) (hex r)
 have hRl:(l.map iC++ex).length=l.length+ex.length:=by rw[Ag,Aj]
 have G:Agr (· = g) w w:=Agr.refl _ _
 refine As Tryz.func272 rfl Tryz.ntmps272 rfl ?_
 refine Ac<|Aa rfl<|Ah rfl<|Ae<|Ab<|Ac<|Aa rfl<|Af rfl<|Af rfl<|Az rfl AFT (AGB p l _ _ f hf us cs w (AFl hg) hll (fun x hx w' s=>hp x hx w' s.agr)) ?_;rintro _ w1 ⟨rfl,s2⟩;have hg:=hg.sub s2;have G:=G.trans s2.agr;refine Ah rfl<|Ae<|Ab<|Ac<|Ac<|Aa rfl<|Af rfl<|Bc rfl rfl rfl<|Ae<|Ab<|An rfl (fun h3=>?_) (fun h3=>?_)
 ·
  have h12:=Yz h3
  refine Ac<|Aa rfl<|Af rfl<|Ah rfl<|Ae<|Ab<|Bb 4 rfl rfl rfl ?_
  rw[h12]
  exact⟨rfl,⟨ex,hex,rfl,hg⟩,G⟩
 ·
  obtain⟨i0,x0,hi0,hx0,hpx0,hf0⟩:=Wm h3
  have hi0l:=Cc hx0
  rw[hi0]
  refine Ao<|Ab<|Ac<|Ac<|Aa rfl<|Af rfl<|Ak (.as (.bin rfl rfl rfl) (Cs (y:=((i0+1:Nat):Int)) (by omega) (by omega)))<|Ah rfl<|Ae<|Ab<|Bh<|Cw (α:=Nat × Nat × List (List Value)) (fun x=>[(0,.slice (some ⟨g,0,none⟩) l.length (l.length+ex.length)),(1,.func (.func f) us.toArray cs.toArray),(5,.int .i64 (x.1:Int)),(6,.int .i64 (x.2.1:Int))]) (fun x w4=>(x.1<x.2.1∧x.2.1≤l.length∧x.1=((l.take x.2.1).filter fun x => !p x).length∧(∀r∈x.2.2,r.length=1)∧x.2.2.length=l.length+ex.length∧x.2.2.take x.1=((l.take x.2.1).filter fun x => !p x).map iC∧x.2.2.drop x.2.1=(l.map iC++ex).drop x.2.1)∧Has w4 g x.2.2.flatten 3∧Agr (· = g) w w4) (fun x=>l.length-x.2.1) (i0,i0+1,l.map iC++ex) (Bf (by repeat (first|exact trivial|refine And.intro rfl ?_))) (⟨⟨by simp only[];omega,by simp only[];omega,by rw[List.take_add_one,hx0];simp[List.filter_append,hf0,hpx0];omega,hR,hRl,by rw[List.take_add_one,hx0];simp[List.filter_append,hf0,hpx0];rw[List.take_append_of_le_length (by rw[Aj];omega)],rfl⟩,hg,G⟩) (fun x w4 hJ=>?_)
  obtain⟨i,j,R⟩:=x;obtain⟨⟨hij,hjl,hi,hR1,hR2,hR3,hR4⟩,hg,G⟩:=hJ;simp only[] at hij hjl hi hR1 hR2 hR3 hR4 hg
  refine Ac<|Ac<|Aa rfl<|Af rfl<|Af rfl<|Cm Dd rfl<|Bc rfl rfl rfl<|Ae<|Ab<|An rfl (fun h5=>?_) (fun h5=>?_)
  ·
   have h19:=h5
   simp only[] at h19
   obtain⟨x,hx⟩:=Ce (l:=l) (i:=j) (by omega)
   have hxm:=Au hx
   have hRj:R[j]?=some [i6 x]:=(by have q:=congrArg (·[0]?) hR4;simp only[List.getElem?_drop,Nat.add_zero] at q;rw[q,List.getElem?_append_left (by rw[Aj];omega),List.getElem?_map,hx];rfl)
   refine Ao<|Ab<|Ac<|Bh<|Ac<|Aa rfl<|Af rfl<|Af rfl<|Ak (.indexO Dd rfl rfl (by omega))<|Ak (.load1 sh3 rfl (hg.cell (by rw[Nat.zero_add,Nat.mul_one,Int.toNat_natCast];exact AJH hR1 hRj)))<|Ah rfl<|Ae<|Ab<|Ac<|Aa rfl<|Af rfl ?_;refine Af rfl<|Dl rfl rfl (us:=us) (cs:=cs) hf (hp x hxm w4 G) rfl rfl ?_;rintro _ w6 ⟨rfl,s7⟩;have hg:=hg.sub s7;have G:=G.trans s7.agr;refine Ak (.not rfl)<|Ae<|Ab<|Db rfl (fun h8=>?_) (fun h8=>?_)
   ·
    have hpx:p x=false:=(by simpa using h8)
    have hnext:((l.take (j+1)).filter fun x => !p x)=((l.take j).filter fun x => !p x)++[x]:=(by rw[List.take_add_one,hx];simp[List.filter_append,hpx])
    refine Ac<|Aa rfl<|Af rfl<|Af rfl<|Af rfl<|Ak (.indexO Dd rfl rfl (by omega))<|Cg sh3 rfl rfl rfl hg (by rw[Cy (sz:=1) _ hR1,hR2];show 0+i*1+1≤_;omega) (by rfl) rfl (fun w9 z9 hg a9=>?_);have G:=G.trans a9
    have hg:=AA8 (sz:=1) (i:=i) (r:=[i6 x]) (by rw[Nat.zero_add] at hg;exact hg) hR1 (by omega) rfl
    refine Ae<|Ab<|Aa rfl<|Af rfl<|Ak (.as (.bin rfl rfl rfl) (Cs (y:=((i+1:Nat):Int)) (by omega) (by omega)))<|Ah rfl<|Ae<|Ab<|Aa rfl<|Af rfl<|Ak (.as (.bin rfl rfl rfl) (Cs (y:=((j+1:Nat):Int)) (by simp only[];omega) (by omega)))<|Ah rfl ?_
    exact Ae (fun a ka=>⟨(i+1,j+1,R.set i [i6 x]),⟨⟨by simp only[];omega,by simp only[];omega,by rw[hnext,Ag,←hi];rfl,fun r hr=>(List.mem_or_eq_of_mem_set hr).elim (hR1 r) (fun e=>e▸rfl),by rw[List.length_set];exact hR2,by rw[hnext,List.map_append,←hR3,List.take_add_one,List.take_set_of_le (Nat.le_refl _),List.getElem?_set_self (by first|omega|(simp only[];omega))];rfl,by rw[List.drop_set_of_lt (by first|omega|(simp only[];omega)),←List.drop_drop,←List.drop_drop,hR4]⟩,hg,G⟩,by simp only[];omega,ka.keep (Bf (by repeat (first|exact trivial|refine And.intro rfl ?_)))⟩)
   ·
    have hpx:p x=true:=(by simpa using h8)
    have hnext:((l.take (j+1)).filter fun x => !p x)=((l.take j).filter fun x => !p x):=(by rw[List.take_add_one,hx];simp[List.filter_append,hpx])
    refine Ao<|Ab<|Aa rfl<|Af rfl<|Ak (.as (.bin rfl rfl rfl) (Cs (y:=((j+1:Nat):Int)) (by simp only[];omega) (by omega)))<|Ah rfl ?_
    exact Ae (fun a ka=>⟨(i,j+1,R),⟨⟨by simp only[];omega,by simp only[];omega,by rw[hnext];exact hi,hR1,hR2,by rw[hnext];exact hR3,by rw[←List.drop_drop,←List.drop_drop,hR4]⟩,hg,G⟩,by simp only[];omega,ka.keep (Bf (by repeat (first|exact trivial|refine And.intro rfl ?_)))⟩)
  ·
   have h19:=h5
   simp only[] at h19
   obtain rfl:j=l.length:=(by omega)
   rw[List.take_length] at hi hR3
   refine Co rfl<|Ab<|Ac<|Aa rfl<|Af rfl<|Af rfl<|Ak (.as (v':=.slice (some ⟨g,i*1,none⟩) (l.length-i) (l.length+ex.length-i)) (.sliceLo Dd rfl rfl (by omega)) (by rw[AC1 (by omega)];congr 1<;>omega))<|Zu (R:=R) (o:=i) (m:=l.length-i) Dd ze3 rfl rfl rfl rfl hg hR1 (by omega) rfl rfl (fun w10 z38 hg a38=>?_);have G:=G.trans a38;refine Ae<|Ab<|Ac<|Aa rfl<|Af rfl<|Af rfl<|Ak (.sliceHi Dd rfl rfl (by omega))<|Ah rfl<|Ae<|Ab<|Bb 4 rfl rfl rfl ?_
   have hb1:=Zp (R:=R) (l:=List.replicate (l.length-i) [Value.int .i64 0]) (o:=i) (by rw[List.length_replicate];omega)
   have hb2:=ABi (R:=R) (l:=List.replicate (l.length-i) [Value.int .i64 0]) (o:=i) (by rw[List.length_replicate];omega)
   have hb3:=Zq (s:=1) (l:=List.replicate (l.length-i) [Value.int .i64 0]) (o:=i) hR1 (fun r hr=>by rw[(List.mem_replicate.1 hr).2];rfl)
   rw[←hi]
   refine⟨rfl,⟨(Li R i (List.replicate (l.length-i) [Value.int .i64 0])).drop i,fun r hr=>hb3 r (List.mem_of_mem_drop hr),by rw[List.length_drop,hb2];omega,?_⟩,G⟩
   rw[←hR3,←hb1.1,List.take_append_drop]
   exact hg
def zRc:List Value:=[.int .i64 0,.int .u64 0,.int .u64 0,.int .u64 0,.int .u64 0,.slice none 0 0,.slice none 0 0]
theorem Ue{w:World}{g:Nat}{e:TypeId}{l:List RcP}{ex:List (List Value)}(h:Has w g (l.map RcP.cells++ex).flatten e):Sl w (some ⟨g,0,none⟩) 7 (l.map RcP.cells):=Has.sl (extra:=ex.flatten) (by rw[←List.flatten_append];exact h) (Yc _)
theorem AHm{w:World}{g:Nat}{e:TypeId}{s:Nat}{R:List (List Value)}{j:Nat}{r:List Value}(h:Has w g R.flatten e)(hR:∀r∈R,r.length=s)(hj:R[j]?=some r):Row w ⟨g,0+(j:Int).toNat*s,none⟩ r:=by
 have:=(Hj h hR).row j r hj
 simp only[Option.getD_some,add_lit] at this
 rw[Int.toNat_natCast]
 exact this
theorem AIJ(p:RcP→Bool)(l:List RcP)(a:Option Addr)(c:Nat)(f:FuncId)(hf:calleeOK Tryz.prog f=true)(us cs:List Value)(w:World)(hs:Sl w a 7 (l.map RcP.cells))(hlen:l.length≤1000000)
  (hp:∀x∈l,∀w',Sub w w'→FC Tryz.prog f (us++[x.val]++cs) w' (Val (.bool (p x)) w')) :
  FC Tryz.prog 123 [.slice a l.length c,.func (.func f) us.toArray cs.toArray] w (Val (.int .i64 (Ke p l)) w):=by
 refine As Tryz.func123 rfl Tryz.ntmps123 rfl ?_
 have S:=Ax w
 refine Ac<|Aa rfl<|Ah rfl<|Ae<|Ab<|Ac<|Ac<|Aa rfl<|Af rfl<|Cm Fm rfl<|Af rfl<|Ae<|Ab<|Bh<|Cw (α:=Nat) (fun i=>[(0,.slice a l.length c),(1,.func (.func f) us.toArray cs.toArray),(7,.int .i64 (l.length:Int)),(8,.int .i64 (i:Int))]) (fun i w1=>i≤l.length∧(∀j x,l[j]?=some x→j<i→p x=false)∧Sub w w1) (fun i=>l.length-i) 0 (Bf (by repeat (first|exact trivial|refine And.intro rfl ?_))) (⟨Nat.zero_le _,fun j x _ h=>absurd h (by omega),S⟩) (fun i w1 hJ=>?_)
 obtain⟨hi,hn,S⟩:=hJ
 refine Ac<|Aa rfl<|Bc rfl rfl rfl<|Ae<|Ab<|Ac<|An rfl (fun h2=>?_) (fun h2=>?_)
 ·
  obtain⟨x,hx⟩:=Ce (l:=l) (i:=i) (by omega)
  refine Ao<|Ab<|Ac<|Bh<|Ac<|Aa rfl<|Af rfl<|Ah rfl<|Ae<|Ab<|Ac<|Aa rfl<|Af rfl<|Af rfl<|Af rfl<|Ak (.indexS Fm rfl rfl (by omega) (hs.is (i:=0) (by simp only[Aj,Al,Am];omega))) ?_;refine Ak (.loadR (x.cells) Fs rfl ((hs.sub S).rowAt (enc:=RcP.cells) (i:=i) hx) rfl)<|Dl rfl rfl (us:=us) (cs:=cs) hf (hp x (Au hx) _ S) rfl rfl ?_;rintro _ w3 ⟨rfl,s4⟩;have S:=S.trans s4;refine Ae<|Ab<|Db rfl (fun h5=>?_) (fun h5=>?_)
  ·
   have hv:=h5
   refine Ac<|Aa rfl<|Af rfl<|Ah rfl<|Ae<|Ab<|Bb 4 rfl rfl rfl ?_
   refine⟨?_,S⟩
   show Value.int .i64 _=_
   congr 1
   rw[Ke,if_pos (List.any_eq_true.2 ⟨x,Au hx,hv⟩)]
   congr 1
   symm
   have hlt:=Cc hx
   rw[List.findIdx_eq hlt]
   exact⟨by rw[Ex hx hlt];exact hv,fun j hj=>hn j _ (List.getElem?_eq_getElem (by omega)) hj⟩
  ·
   have hv:=h5
   refine Ao<|Ab<|Aa rfl<|Ak (.as (.bin rfl rfl rfl) (Cs (y:=((i+1:Nat):Int)) (by omega) (by omega)))<|Af rfl ?_
   exact Ae (fun a ka=>⟨i+1,⟨by omega,fun j x hj h=>(Nat.lt_succ_iff_lt_or_eq.1 h).elim (hn j x hj) (fun e=>by subst e;rw[hx] at hj;cases hj;exact hv),S⟩,by omega,ka.keep (Bf (by repeat (first|exact trivial|refine And.intro rfl ?_)))⟩)
 ·
  refine Co rfl<|Ab<|Ac<|Aa rfl<|Ah rfl<|Ae<|Ab<|Bb 4 rfl rfl rfl ?_
  refine⟨?_,S⟩
  show Value.int .i64 _=_
  congr 1
  rw[Ke,if_neg]
  intro hh
  obtain⟨x,hx,hpx⟩:=List.any_eq_true.1 hh
  obtain⟨j,hj,rfl⟩:=List.getElem_of_mem hx
  have:=hn j _ (List.getElem?_eq_getElem hj) (by omega)
  rw[this] at hpx
  cases hpx
set_option maxHeartbeats 1000000 in
theorem ABZ(p:RcP→Bool)(l:List RcP)(g:Nat)(ex:List (List Value))(hex:∀r∈ex,r.length=7)(hcap:l.length+ex.length≤9223372036854775807)(hll:l.length≤1000000)(f:FuncId)(hf:calleeOK Tryz.prog f=true)(us cs:List Value)(w:World)(hg:Has w g (l.map RcP.cells++ex).flatten 77)
  (hp:∀x∈l,∀w',Agr (· = g) w w'→FC Tryz.prog f (us++[x.val]++cs) w' (Val (.bool (p x)) w')) :
  FC Tryz.prog 268 [.slice (some ⟨g,0,none⟩) l.length (l.length+ex.length),.func (.func f) us.toArray cs.toArray] w (fun u w'=>u=.slice (some ⟨g,0,none⟩) (l.filter fun x => !p x).length (l.length+ex.length)∧(∃ex':List (List Value),(∀r∈ex',r.length=7)∧(l.filter fun x => !p x).length+ex'.length=l.length+ex.length∧Has w' g ((l.filter fun x => !p x).map RcP.cells++ex').flatten 77)∧Agr (· = g) w w'):=by
 have hR:∀r∈l.map RcP.cells++ex,r.length=7:=fun r hr=>(List.mem_append.1 hr).elim (Yc _ r) (hex r)
 have hRl:(l.map RcP.cells++ex).length=l.length+ex.length:=by rw[Ag,Aj]
 have G:Agr (· = g) w w:=Agr.refl _ _
 refine As Tryz.func268 rfl Tryz.ntmps268 rfl ?_
 refine Ac<|Aa rfl<|Ah rfl<|Ae<|Ab<|Ac<|Aa rfl<|Af rfl<|Af rfl<|Az rfl ALx (AIJ p l _ _ f hf us cs w (Ue hg) hll (fun x hx w' s=>hp x hx w' s.agr)) ?_;rintro _ w1 ⟨rfl,s2⟩;have hg:=hg.sub s2;have G:=G.trans s2.agr;refine Ah rfl<|Ae<|Ab<|Ac<|Ac<|Aa rfl<|Af rfl<|Bc rfl rfl rfl<|Ae<|Ab<|An rfl (fun h3=>?_) (fun h3=>?_)
 ·
  have h12:=Yz h3
  refine Ac<|Aa rfl<|Af rfl<|Ah rfl<|Ae<|Ab<|Bb 4 rfl rfl rfl ?_
  rw[h12]
  exact⟨rfl,⟨ex,hex,rfl,hg⟩,G⟩
 ·
  obtain⟨i0,x0,hi0,hx0,hpx0,hf0⟩:=Wm h3
  have hi0l:=Cc hx0
  rw[hi0]
  refine Ao<|Ab<|Ac<|Ac<|Aa rfl<|Af rfl<|Ak (.as (.bin rfl rfl rfl) (Cs (y:=((i0+1:Nat):Int)) (by omega) (by omega)))<|Ah rfl<|Ae<|Ab<|Bh<|Cw (α:=Nat × Nat × List (List Value)) (fun x=>[(0,.slice (some ⟨g,0,none⟩) l.length (l.length+ex.length)),(1,.func (.func f) us.toArray cs.toArray),(5,.int .i64 (x.1:Int)),(6,.int .i64 (x.2.1:Int))]) (fun x w4=>(x.1<x.2.1∧x.2.1≤l.length∧x.1=((l.take x.2.1).filter fun x => !p x).length∧(∀r∈x.2.2,r.length=7)∧x.2.2.length=l.length+ex.length∧x.2.2.take x.1=((l.take x.2.1).filter fun x => !p x).map RcP.cells∧x.2.2.drop x.2.1=(l.map RcP.cells++ex).drop x.2.1)∧Has w4 g x.2.2.flatten 77∧Agr (· = g) w w4) (fun x=>l.length-x.2.1) (i0,i0+1,l.map RcP.cells++ex) (Bf (by repeat (first|exact trivial|refine And.intro rfl ?_))) (⟨⟨by simp only[];omega,by simp only[];omega,by rw[List.take_add_one,hx0];simp[List.filter_append,hf0,hpx0];omega,hR,hRl,by rw[List.take_add_one,hx0];simp[List.filter_append,hf0,hpx0];rw[List.take_append_of_le_length (by rw[Aj];omega)],rfl⟩,hg,G⟩) (fun x w4 hJ=>?_)
  obtain⟨i,j,R⟩:=x;obtain⟨⟨hij,hjl,hi,hR1,hR2,hR3,hR4⟩,hg,G⟩:=hJ;simp only[] at hij hjl hi hR1 hR2 hR3 hR4 hg
  refine Ac<|Ac<|Aa rfl<|Af rfl<|Af rfl<|Cm Fm rfl<|Bc rfl rfl rfl<|Ae<|Ab<|An rfl (fun h5=>?_) (fun h5=>?_)
  ·
   have h19:=h5
   simp only[] at h19
   obtain⟨x,hx⟩:=Ce (l:=l) (i:=j) (by omega)
   have hxm:=Au hx
   have hRj:R[j]?=some x.cells:=(by have q:=congrArg (·[0]?) hR4;simp only[List.getElem?_drop,Nat.add_zero] at q;rw[q,List.getElem?_append_left (by rw[Aj];omega),List.getElem?_map,hx];rfl)
   refine Ao<|Ab<|Ac<|Bh<|Ac<|Aa rfl<|Af rfl<|Af rfl<|Ak (.indexO Fm rfl rfl (by omega))<|Ak (.loadR (x.cells) Fs rfl (AHm hg hR1 hRj) rfl)<|Ay Gx rfl rfl (fun k t h n b d=>?_);have c:=hg.ne h;have hg:=hg.sub d
   have geG_7:=Gi G h
   have G:=G.trans d.agr;refine At Fs rfl rfl rfl b (fun w6 z6 b a6=>?_);have hg:=hg.upd a6 c
   have G:=Dv G a6 geG_7
   have b:Has w6 k (x.cells) _:=b.now (by kernel_rfl)
   refine Ae<|Ab<|Ac<|Aa rfl<|Af rfl<|Ak (.loadR (x.cells) Fs rfl b.row rfl)<|Dl rfl rfl (us:=us) (cs:=cs) hf (hp x hxm w6 G) rfl rfl ?_;rintro _ w7 ⟨rfl,s8⟩;have hg:=hg.sub s8;have G:=G.trans s8.agr;have b:=b.sub s8;refine Ak (.not rfl)<|Ae<|Ab<|Db rfl (fun h9=>?_) (fun h9=>?_)
   ·
    have hpx:p x=false:=(by simpa using h9)
    have hnext:((l.take (j+1)).filter fun x => !p x)=((l.take j).filter fun x => !p x)++[x]:=(by rw[List.take_add_one,hx];simp[List.filter_append,hpx])
    refine Ac<|Aa rfl<|Af rfl<|Af rfl<|Ak (.loadR (x.cells) Fs rfl b.row rfl)<|Ak (.indexO Fm rfl rfl (by omega))<|Cg Fs rfl rfl rfl hg (by rw[Cy (sz:=7) _ hR1,hR2];show 0+i*7+7≤_;omega) (by rfl) rfl (fun w10 z10 hg a10=>?_);have G:=G.trans a10
    have hg:=AA8 (sz:=7) (i:=i) (r:=x.cells) (by rw[Nat.zero_add] at hg;exact hg) hR1 (by omega) rfl
    refine Ae<|Ab<|Aa rfl<|Af rfl<|Ak (.as (.bin rfl rfl rfl) (Cs (y:=((i+1:Nat):Int)) (by omega) (by omega)))<|Ah rfl<|Ae<|Ab<|Aa rfl<|Af rfl<|Ak (.as (.bin rfl rfl rfl) (Cs (y:=((j+1:Nat):Int)) (by simp only[];omega) (by omega)))<|Ah rfl ?_
    exact Ae (fun a ka=>⟨(i+1,j+1,R.set i x.cells),⟨⟨by simp only[];omega,by simp only[];omega,by rw[hnext,Ag,←hi];rfl,fun r hr=>(List.mem_or_eq_of_mem_set hr).elim (hR1 r) (fun e=>e▸rfl),by rw[List.length_set];exact hR2,by rw[hnext,List.map_append,←hR3,List.take_add_one,List.take_set_of_le (Nat.le_refl _),List.getElem?_set_self (by first|omega|(simp only[];omega))];rfl,by rw[List.drop_set_of_lt (by first|omega|(simp only[];omega)),←List.drop_drop,←List.drop_drop,hR4]⟩,hg,G⟩,by simp only[];omega,ka.keep (Bf (by repeat (first|exact trivial|refine And.intro rfl ?_)))⟩)
   ·
    have hpx:p x=true:=(by simpa using h9)
    have hnext:((l.take (j+1)).filter fun x => !p x)=((l.take j).filter fun x => !p x):=(by rw[List.take_add_one,hx];simp[List.filter_append,hpx])
    refine Ao<|Ab<|Aa rfl<|Af rfl<|Ak (.as (.bin rfl rfl rfl) (Cs (y:=((j+1:Nat):Int)) (by simp only[];omega) (by omega)))<|Ah rfl ?_
    exact Ae (fun a ka=>⟨(i,j+1,R),⟨⟨by simp only[];omega,by simp only[];omega,by rw[hnext];exact hi,hR1,hR2,by rw[hnext];exact hR3,by rw[←List.drop_drop,←List.drop_drop,hR4]⟩,hg,G⟩,by simp only[];omega,ka.keep (Bf (by repeat (first|exact trivial|refine And.intro rfl ?_)))⟩)
  ·
   have h19:=h5
   simp only[] at h19
   obtain rfl:j=l.length:=(by omega)
   rw[List.take_length] at hi hR3
   refine Co rfl<|Ab<|Ac<|Aa rfl<|Af rfl<|Af rfl<|Ak (.as (v':=.slice (some ⟨g,i*7,none⟩) (l.length-i) (l.length+ex.length-i)) (.sliceLo Fm rfl rfl (by omega)) (by rw[AC1 (by omega)];congr 1<;>omega))<|Zu (R:=R) (o:=i) (m:=l.length-i) Fm Gx rfl rfl rfl rfl hg hR1 (by omega) rfl rfl (fun w11 z38 hg a38=>?_);have G:=G.trans a38;refine Ae<|Ab<|Ac<|Aa rfl<|Af rfl<|Af rfl<|Ak (.sliceHi Fm rfl rfl (by omega))<|Ah rfl<|Ae<|Ab<|Bb 4 rfl rfl rfl ?_
   have hb1:=Zp (R:=R) (l:=List.replicate (l.length-i) zRc) (o:=i) (by rw[List.length_replicate];omega)
   have hb2:=ABi (R:=R) (l:=List.replicate (l.length-i) zRc) (o:=i) (by rw[List.length_replicate];omega)
   have hb3:=Zq (s:=7) (l:=List.replicate (l.length-i) zRc) (o:=i) hR1 (fun r hr=>by rw[(List.mem_replicate.1 hr).2];rfl)
   rw[←hi]
   refine⟨rfl,⟨(Li R i (List.replicate (l.length-i) zRc)).drop i,fun r hr=>hb3 r (List.mem_of_mem_drop hr),by rw[List.length_drop,hb2];omega,?_⟩,G⟩
   rw[←hR3,←hb1.1,List.take_append_drop]
   exact hg
section
variable {P:Program} {n:Cx} {F:List (Nat × Value)} {w:World} {p:Post} {ops:Array Oper} {rest:List Oper} {d:Option Tmp} {t:TypeId} {pos:String} {af:Array Edge} {g:Option (Nat × Bool)} {kt et:TypeId} {q:IntKind}
theorem _root_.Go.XL.EvOp.lookupM{ty m x z b a}{f:Int→Option Value}(hm:P.underlying ty=some (.map kt et))(hd:P.underlying kt=some (.int q))(hz:zeroOf P et=some z)(hx:XL.ev F m=some (.map (some b)))(hk:XL.ev F x=some (.int q a))(h:HasM w b q f):
  EvOp P F (.lookup ty m x true) w (.tuple #[(f a).getD z,.bool (f a).isSome]):=fun _ _ _ _ _ ρ hρ w' s=>by
 obtain⟨es,c,h1,h2,h3,h4⟩:=h.sub s
 simp only[execOp,hρ m _ hx,hρ x _ hk]
 refine Fj _ ?_
 have hck:=Go.MapKept.run_checkKey (P:=P) (w:=w') (k:=.int q a) hd (by simp[Go.MapKept.IsKey]) es.isEmpty 9999
 rcases Mb (a:=a) h3 h4 with⟨g1,g2,_⟩|⟨j,e,g1,g2,g3,g4⟩
 ·simp[Instr.lookup,Go.run_underlying hm,Go.MapKept.run_getObj_map h1,hck,Go.MapKept.run_findKey hd g1,Result.andThen,Ir hz,g2]
 ·simp[Instr.lookup,Go.run_underlying hm,Go.MapKept.run_getObj_map h1,hck,Go.MapKept.run_findKey hd g1,Result.andThen,g4]
theorem He{ty m x y v b a}{f:Int→Option Value}(hm:P.underlying ty=some (.map kt et))(hd:P.underlying kt=some (.int q))(hx:XL.ev F m=some (.map (some b)))(hk:XL.ev F x=some (.int q a))(hy:XL.ev F y=some v)(hb:HasM w b q f)(hf:f a=none)(hg:Ed ops F g=some true)
  (h:∀w',w'.heap.size=w.heap.size→HasM w' b q (fun i=>if i=a then some v else f i)→Agr (· = b) w w'→RL P n ops rest F w' p):RL P n ops (⟨none,.insert ty m x y,t,pos,af,g⟩::rest) F w p:=by
 obtain⟨es,c,h1,h2,h3,h4⟩:=hb
 have hck:=Go.MapKept.run_checkKey (P:=P) (w:=w) (k:=.int q a) hd (by simp[Go.MapKept.IsKey]) false 9999
 have agr:∀o,Agr (· = b) w {w with heap:=w.heap.setIfInBounds b o}:=fun o=>⟨rfl,rfl,rfl,by simp,fun k _ hk=>(Go.MapKept.heap_set h1).2 k hk⟩
 rcases Mb (a:=a) h3 h4 with⟨g1,g2,g3⟩|⟨j,e,g1,g2,g3,g4⟩
 ·refine Kn hg (w':={w with heap:=w.heap.setIfInBounds b (.map (es.push ⟨.int q a,v,c⟩) (c+1))}) (fun ρ hρ=>?_) (h _ (by simp) ⟨_,_,(Go.MapKept.heap_set h1).1,Go.MapKept.stamped_push h2 g3,?_,?_⟩ (agr _))
  ·simp only[execOp,hρ m _ hx,hρ x _ hk,hρ y _ hy]
   simp[Instr.mapUpdate,Go.run_underlying hm,Go.MapKept.run_getObj_map h1,hck,Go.MapKept.run_findKey hd g1,Go.MapKept.run_setObj_map _ h1,Result.andThen]
  ·intro z hz
   simp only[Array.toList_push,List.mem_append,List.mem_singleton] at hz
   rcases hz with hz|rfl
   ·exact h3 z hz
   ·simp[Go.MapKept.IsKey]
  ·intro i u
   simp only[Array.toList_push,List.mem_append,List.mem_singleton]
   by_cases hi:i=a
   ·subst hi
    simp only[if_true,Option.some.injEq]
    constructor
    ·rintro rfl;exact⟨_,.inr rfl,rfl,rfl⟩
    ·rintro⟨z,hz|rfl,hz2,hz3⟩
     ·exact absurd hz2 (g3 z hz)
     ·exact hz3
   ·rw[if_neg hi,h4]
    constructor
    ·rintro⟨z,hz,hz2⟩;exact⟨z,.inl hz,hz2⟩
    ·rintro⟨z,hz|rfl,hz2,hz3⟩
     ·exact⟨z,hz,hz2,hz3⟩
     ·simp at hz2;exact absurd hz2.symm hi
 ·rw[hf] at g4;cases g4
theorem ACw{ty m x kt' b a}{f:Int→Option Value}(hm:P.underlying ty=some (.map kt et))(hd:P.underlying kt=some (.int q))(hx:XL.ev F m=some (.map (some b)))(hk:XL.ev F x=some (.int q a))(hb:HasM w b q f)(hg:Ed ops F g=some true)(hdn:inB d n=true)
  (h:∀w',w'.heap.size=w.heap.size→HasM w' b q (fun i=>if i=a then none else f i)→Agr (· = b) w w'→RL P n ops rest (upd F d (.tuple #[])) w' p):RL P n ops (⟨d,.call ⟨.builtin .delete,#[m,x],#[ty,kt']⟩,t,pos,af,g⟩::rest) F w p:=by
 obtain⟨es,c,h1,h2,h3,h4⟩:=hb
 have hck:=Go.MapKept.run_checkKey (P:=P) (w:=w) (k:=.int q a) hd (by simp[Go.MapKept.IsKey]) es.isEmpty 9999
 have agr:∀o,Agr (· = b) w {w with heap:=w.heap.setIfInBounds b o}:=fun o=>⟨rfl,rfl,rfl,by simp,fun k _ hk=>(Go.MapKept.heap_set h1).2 k hk⟩
 have go:∀es',(Builtin.delete_ #[ty,kt'] t #[.map (some b),.int q a]).run P w=.ok (.tuple #[]) {w with heap:=w.heap.setIfInBounds b (.map es' c)}→Go.MapKept.Stamped es' c→(∀x∈es'.toList,Go.MapKept.IsKey (.int q) x.key)→(∀i v,(if i=a then none else f i)=some v↔∃x∈es'.toList,x.key=.int q i∧x.val=v) →
   RL P n ops (⟨d,.call ⟨.builtin .delete,#[m,x],#[ty,kt']⟩,t,pos,af,g⟩::rest) F w p:=fun es' hr e1 e2 e3=>by
  refine Kf hg hdn (v:=.tuple #[]) (w':={w with heap:=w.heap.setIfInBounds b (.map es' c)}) (fun ρ hρ=>?_) (h _ (by simp) ⟨_,_,(Go.MapKept.heap_set h1).1,e1,e2,e3⟩ (agr _))
  simp only[execOp,resolve,hρ m _ hx,hρ x _ hk,bind,Sem.bind,pure,invoke,builtin,List.map_toArray,List.map_cons,List.map_nil]
  have:=run_bind (P:=P) (Builtin.delete_ #[ty,kt'] t #[.map (some b),.int q a]) (fun v=>(Sem.pure (Next.value v):Sem Next)) w
  rw[hr] at this
  exact this
 rcases Mb (a:=a) h3 h4 with⟨g1,g2,g3⟩|⟨j,e,g1,g2,g3,g4⟩
 ·refine go es ?_ h2 h3 (fun i v=>?_)
  ·simp[Builtin.delete_,Go.run_underlying hm,Go.MapKept.run_getObj_map h1,hck,Go.MapKept.run_findKey hd g1,Go.MapKept.run_setObj_map _ h1,Result.andThen]
  ·by_cases hi:i=a
   ·subst hi
    rw[if_pos rfl]
    exact⟨fun h=>(by cases h),fun⟨x,hx,hk,_⟩=>absurd hk (g3 x hx)⟩
   ·rw[if_neg hi];exact h4 i v
 ·have hj:j<es.size:=(Array.getElem?_eq_some_iff.1 g2).1
  have he:(es.eraseIdxIfInBounds j).toList=es.toList.eraseIdx j:=by
   unfold Array.eraseIdxIfInBounds
   rw[dif_pos hj,Array.toList_eraseIdx]
  have hmem:∀z,z∈(es.eraseIdxIfInBounds j).toList↔z∈es.toList∧z.key≠.int q a:=by
   intro z
   rw[he,List.mem_eraseIdx_iff_getElem?]
   have hl:j<(es.toList.map (·.key)).length:=by rw[Aj,Array.length_toList];exact hj
   constructor
   ·rintro⟨i,hi,hz⟩
    refine⟨Au hz,fun hk2=>hi ?_⟩
    refine((List.getElem?_inj hl h2.2.2).1 ?_).symm
    simp[g2,hz,g3,hk2]
   ·rintro⟨hz,hk2⟩
    obtain⟨i,hi⟩:=List.getElem?_of_mem hz
    refine⟨i,fun e2=>hk2 ?_,hi⟩
    rw[e2,Array.getElem?_toList,g2] at hi
    cases hi;exact g3
  refine go _ ?_ (Go.MapKept.stamped_erase h2 j) (fun x hx=>h3 x ((hmem x).1 hx).1) (fun i v=>?_)
  ·simp[Builtin.delete_,Go.run_underlying hm,Go.MapKept.run_getObj_map h1,hck,Go.MapKept.run_findKey hd g1,Go.MapKept.run_setObj_map _ h1,Result.andThen]
  ·by_cases hi:i=a
   ·subst hi
    rw[if_pos rfl]
    exact⟨fun h=>(by cases h),fun⟨x,hx,hk,_⟩=>absurd hk ((hmem x).1 hx).2⟩
   ·rw[if_neg hi,h4]
    constructor
    ·rintro⟨z,hz,hz2,hz3⟩;exact⟨z,(hmem z).2 ⟨hz,by rw[hz2];simp[hi]⟩,hz2,hz3⟩
    ·rintro⟨z,hz,hz2⟩;exact⟨z,((hmem z).1 hz).1,hz2⟩
end
end Go.Proofs.YtbjmllnddanniaaGreat
