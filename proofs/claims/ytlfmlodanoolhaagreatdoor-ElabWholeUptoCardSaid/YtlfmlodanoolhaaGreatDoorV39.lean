import Derived.Laws.CopyRow
import Derived.Test.YtlfmlodanoolhaaGreatDoorV37
set_option linter.all false
set_option maxRecDepth 200000
set_option maxHeartbeats 0
namespace Go.Proofs.YtlfmlodanoolhaaGreatDoor
open Go Go.RowKit Go.Proofs.Tryz
attribute [local go_sem] bc
theorem Bi{P:Program}(w:World)(j D ty e:TypeId)(g o d n:Nat)(a:Addr)(f C h:Nat)(c:Array Value)(t:TypeId)(b:List Value)
 (A:P.underlying j=some (.slice e)) (k:(P.info? e).map (·.size)=some h)
 (r:w.heap[g]? =some (.cells c t (0,0))) (x:b.length=Nat.min f d*h)
 (y:∀l v,b[l]? =some v->w.cell? (a.add l)=some v) (q:o+b.length<=c.size) (p:∀v∈b,v.oneCell'=true):
 (Builtin.copy_ #[j,D] ty #[.slice (some ⟨g,o,none⟩) d n,.slice (some a) f C]).run P w=
   .ok (goInt (Nat.min f d)) (w.setRow g (c.toList.take o++b++c.toList.drop (o+b.length)).toArray):=by
 have u:=run_loadCells_list (P:=P) w a b y;have z:=run_storeCells_at P g o t b 0 c w r (by simpa using q) p;cases hq:P.info? e with
 |none=>simp[hq] at k
 |some i=>
  have hi:i.size=h:=by simpa [hq] using k
  simp[Builtin.copy_,run_underlying A,Builtin.lenOf,Builtin.firstCells,sizeOf,typeInfo,hq,hi,<-x,u,z]
theorem sV(n:Nat)(h:n<=1000000000):∃a:Array Value,a.size=n*8/\∀w:World,(Instr.makeSlice 58 (.int .i64 n) (.int .i64 n)).run Tryz.prog w=.ok (.slice (some ⟨w.heap.size,0,none⟩) n n) (w.alloc (.cells a 60)):=by
 obtain⟨f,c,e,d,b⟩:=info_parts lf;refine⟨madeCells (Value.agg #[.int .i64 0,.int .i64 0,.int .u64 0,.int .i64 0,.int .i64 0,.int .i64 0,.int .i64 0,.slice none 0 0]).cells (n*8),size_madeCells _ _,λw=>?_⟩;have:=run_make (P:=Tryz.prog) w 58 60 f _ underlying58 c e .i64 .i64 n n zO (Int.le_refl _) (by rw[b];omega) zO;rw[d] at this;simpa using this
def bG(n:Nat)(a:List Value):List Value:=(List.replicate n a).flatten
theorem eX(n:Nat){a:List Value}(h:a.length=8):(bG n a).length=n*8:=by
 induction n with
 |zero=>rfl
 |succ n ih=>unfold bG at ih⊢;rw[List.replicate_succ,List.flatten_cons,List.length_append,ih,h];omega
theorem ke(n m:Nat)(a:List Value):bG (n+m) a=bG n a++bG m a:=by
 unfold bG;rw[<-List.replicate_append_replicate,List.flatten_append]
theorem yM{n:Nat}{b:List Value}{u:Value}(h:u∈bG n b):u∈b:=by
 unfold bG at h;obtain⟨l,c,a⟩:=List.mem_flatten.1 h;rw[List.eq_of_mem_replicate c] at a;exact a
theorem wO{n k:Nat}{a:List Value}(h:a.length=8)(d:k<n){j:Nat}{u:Value}(b:a[j]? =some u):(bG n a)[k*8+j]? =some u:=by
 have c:j<8:=by rw[<-h];exact(y7t.1 b).1
 have e:n=k+(1+(n - k - 1)):=by omega
 rw[e,ke,ke,List.getElem?_append_right (by rw[eX _ h];omega),eX _ h,Nat.add_sub_cancel_left,List.getElem?_append_left (by rw[eX _ h];omega)];unfold bG;simpa using b
theorem yN{m k:Nat}{b:List Value}(c:m<=k){j:Nat}{u:Value}(a:(bG m b)[j]? =some u):(bG k b)[j]? =some u:=by
 obtain⟨d,rfl⟩:=Nat.exists_eq_add_of_le c;rw[ke,List.getElem?_append_left (List.getElem?_eq_some_iff.1 a).1];exact a
structure RepI(w:World)(g N k:Nat)(ys:List Value)(wr:World):Prop where
 ext:Ext w wr
 row:∃tl:List Value,wr.heap[g]? =some (.cells (bG k ys++tl).toArray 60 (0,0))/\(bG k ys++tl).length=N*8
theorem RepI.copy{w:World}{g b k m d:Nat}{a:List Value}{wr:World}(h:RepI w g b k a wr)(e:a.length=8)(o:w.heap.size<=g)(p:k+m<=b):
 ∃c:Array Value,wr.heap[g]? =some (.cells c 60 (0,0))/\c.size=b*8/\RepI w g b (k+m) a (wr.setRow g (c.toList.take (k*8)++bG m a++c.toList.drop (k*8+(bG m a).length)).toArray):=by
 obtain⟨n,i,j⟩:=h.row;refine⟨_,i,by simpa using j,?_,?_⟩
 ·exact⟨h.ext.os,h.ext.tape,h.ext.output,ad h.ext.size (by simp[World.setRow]),λf l=>(setRow_other wr g f _ zO).trans (h.ext.block f l)⟩
 ·refine⟨(bG k a++n).drop (k*8+(bG m a).length),?_,?_⟩
  ·rw[setRow_heap wr g _ _ _ _ i];simp only[List.toList_toArray];rw[List.take_append_of_le_length (by rw[eX _ e];exact ac _),List.take_of_length_le (by rw[eX _ e];exact ac _),ke]
  ·rw[List.length_append,List.length_drop,j,eX _ e,eX _ e];omega
theorem RepI.cell{w:World}{g c k:Nat}{b:List Value}{wr:World}(h:RepI w g c k b wr){j:Nat}{u:Value}(a:(bG k b)[j]? =some u):wr.cell? ⟨g,j,none⟩=some u:=by
 obtain⟨i,d,f⟩:=h.row;have e:=(y7t.1 a).1;simp only[World.cell?,d,List.getElem?_toArray];rw[List.getElem?_append_left e];exact a
theorem nk{P:Program}{w:World}{ops:Array Oper}{C:List Oper}{o:Oper}{a:Act}{Q:Exit->Act->World->Prop}(J:o.guard=none)(d s:Operand)(l E:TypeId)
 (L:o.op=.call {callee:=.builtin .copy,args:=#[d,s],argTypes:=#[l,E]}) (n:TypeId) (U:P.underlying l=some (.slice n)) (S:(P.info? n).map (·.size)=some 8)
 {w0:World} {g e k:Nat} {b:List Value} (N:RepI w0 g e k b w) (q:b.length=8) (F:∀c,c∈b->c.oneCell'=true) (K:w0.heap.size<=g)
 (A j t:Nat) (f:Addr) (r D:Nat) (H:a.eval d=.slice (some ⟨g,A,none⟩) j t) (M:A=k*8) (O:a.eval s=.slice (some f) r D) (m:Nat) (x:m=Nat.min r j) (u:k+m<=e)
 (R:∀z c,(bG m b)[z]? =some c->w.cell? (f.add z)=some c)
 (h:∀w',RepI w0 g e (k+m) b w'->wpList P ops Q C (a.put o.dst (.int .i64 m)) w'):wpList P ops Q (o::C) a w:=by
 subst M;obtain⟨i,I,T,y⟩:=N.copy (m:=m) (d:=0) q K u;refine wpList_plain J λX G=>?_
 have p:=Bi (P:=P) w l E o.type n g (k*8) j t f r D 8 i _ (bG m b) U S I (by rw[eX _ q,x]) R (by rw[eX _ q,T,<-Nat.add_mul];exact Nat.mul_le_mul_right 8 u) (λv V=>F v (yM V));rw[<-x] at p;obtain⟨w',W⟩:∃w',w'=w.setRow g (i.toList.take (k*8)++bG m b++i.toList.drop (k*8+(bG m b).length)).toArray:=⟨_,rfl⟩;rw[<-W] at p y;unfold Oper.wp;simp[execOp,L,resolve,invoke,builtin,H,O,p,Result.andThen];exact G _ _ (h _ y)
theorem RepI.later{w:World}{g a k:Nat}{e:List Value}{wr d:World}(h:RepI w g a k e wr)(c:Ext wr d):RepI w g a k e d:=by
 obtain⟨i,b,f⟩:=h.row;exact⟨h.ext.trans c,i,(c.heap (y7n.1 b).1).trans b,f⟩
theorem AB(n b o c5:Nat)(g:List Value)(w:World)(u:1<=n)(g6:n<=64)(c8:Cells w b o g)(d3:g.length=8)(c7:∀l,l∈g->l.oneCell'=true):
 Calls Tryz.prog 191 #[.slice (some ⟨b,o,none⟩) 1 c5,.int .i64 n] w λe w'=>e=.returned (.slice (some ⟨w.heap.size,0,none⟩) n n)/\RepI w w.heap.size n n g w':=by
 have d7:=Hd c8;have b9:=Hd c7;obtain⟨c4,e4,g5⟩:=sV n zO;have g7:¬((n:Int)<0):=by omega
 obtain⟨p,j⟩:∃p,p=w.alloc (.cells c4 60):=⟨_,rfl⟩;have e3:=j.symm;have c1:=Hd (show RepI w w.heap.size n 0 g p from⟨by rw[j];exact aE _ _,c4.toList,by rw[j];show(w.heap.push _)[w.heap.size]? =_;simp[bG],by simp[bG,e4]⟩);have c3:=Hd (show Ext w p by rw[j];exact aE _ _);have e1:=Hd (show Calls Tryz.prog 215 #[.int .u64 1,.int .u64 n] w λe w'=>e=.returned (.tuple #[.int .u64 0,.int .u64 n])/\w'=w from by
  have:=Tryz.bits_Mul 1 n zD zO w;rw[show 1*n / 18446744073709551616=0 by omega,show 1*n % 18446744073709551616=n by omega] at this;exact this)
 have g8:¬((n:Int)>9223372036854775807):=by omega
 clear j;clear c8 c7
 go_in
 go_wp2_with fail
 go_at_call 215;refine e1.o.mono ?_;rintro _ w ⟨rfl,rfl⟩
 go_wp2_with (first
  |(refine nk rfl _ _ 58 58 rfl 60 underlying58 zK c1.o d3 b9.o (ac _) 0 n n ⟨b,o,none⟩ 1 c5 rfl rfl rfl 1 (Nat.min_eq_left u).symm u (λz l x=>by rw[fv];exact c3.o.at_ (d7.o z l (by simpa [bG] using x))) ?_;intro e2 d1))
 have d9:=Hd (show RepI w w.heap.size n 1 g e2 from d1);clear d1 c1 e3 c3;go_loopw [8] (λb7 wr=>∃c:Nat,b7=.int .i64 c/\1<=c/\c<=n/\RepI w w.heap.size n c g wr) (λb7 _=>n - (intOf b7).toNat)
 case atStart=>exact⟨1,rfl,ac _,u,d9.o⟩
 case round=>
  obtain⟨c,rfl,e6,g0,d0⟩:=hrel;have c0:=Hd d0;clear d0;by_cases g2:c<n
  ·have e7:(c:Int)<(n:Int):=by omega
   have g1:(c:Int)<=(n:Int):=by omega
   have g9:¬n=c:=by omega
   go_wp2_with fail
   refine wp_region_any zK ?_;refine wpAny_take (i:=0) (v:=.int .i64 c) rfl zK zK zK (λ_ _ _ h=>h) (pf 8 rfl rfl rfl) ?_;simp only[Act.put,List.setIfInBounds_toArray,List.set_cons_zero,List.set_cons_succ];refine ni 7 [0] #[true,false,false,false,false,false,false] (W:=wr) (Ext) (eqG [.int .i64 c,.slice (some ⟨w.heap.size,0,none⟩) n n,.int .i64 c,.slice (some ⟨w.heap.size,c*8,none⟩) (n - c) (n - c),.slice (some ⟨w.heap.size,0,none⟩) n n,.int .i64 c,.slice (some ⟨w.heap.size,0,none⟩) c n]) (λ_ _=>False) (λ_=>true) (bo) zK zK rfl zK zK zK zK (λh=>absurd h zD) ?_ ((bo).drew _ _ (af _)) (λh0 v w w' h f0=>dz h f0) ?_ zK ?_ (λb8 f9 w f e9=>e9.elim) ?_
   ·exact⟨rfl,rfl,rfl,rfl,rfl,rfl,rfl,trivial⟩
   ·refine⟨?_,?_,?_,?_,?_,?_,?_,trivial⟩
    all_goals
     intro b8 f7 y f t;obtain⟨c6,rfl⟩:=ae y;try (have f1:=ab f 1 39 zD rfl;simp[eqG] at f1)
     try (have f2:=ab f 2 40 zD rfl;simp[eqG] at f2)
     try (have f3:=ab f 4 42 zD rfl;simp[eqG] at f3)
     try (have f4:=ab f 5 43 zD rfl;simp[eqG] at f4)
     have f6:=ah t 8 zK;simp at f6;have f5:=ah t 7 zK;simp at f5;clear f t;exact zA
   ·intro z c9 d f;simp at c9;subst c9;obtain rfl:38=d:=by simpa using f
    exact rfl
   ·intro b8 f7 e5;obtain⟨r,rfl,y,q,a⟩:=e5.fin (n:=48) rfl;obtain⟨c6,rfl⟩:=ae y;have A:=a 0 zK;have C:=a 1 zK;have N:=a 2 zK;have Z:=a 3 zK;have a8:=a 4 zK;have b2:=a 5 zK;have b3:=a 6 zK;have b4:=a 7 zK;have b5:=a 8 zK;have b6:=a 9 zK;have D:=a 10 zK;have E:=a 11 zK;have F:=a 12 zK;have G:=a 13 zK;have H:=a 14 zK;have I:=a 15 zK;have J:=a 16 zK;have K:=a 17 zK;have L:=a 18 zK;have M:=a 19 zK;have O:=a 20 zK;have P:=a 21 zK;have Q:=a 22 zK;have R:=a 23 zK;have S:=a 24 zK;have T:=a 25 zK;have U:=a 26 zK;have V:=a 27 zK;have X:=a 28 zK;have Y:=a 29 zK;have a0:=a 30 zK;have a1:=a 31 zK;have a2:=a 32 zK;have a3:=a 33 zK;have a4:=a 34 zK;have a5:=a 35 zK;have a6:=a 36 zK;have a7:=a 37 zK;have a9:=a 45 zK;have b0:=a 46 zK;have b1:=a 47 zK;have d4:r 38=.int .i64 c:=q 0 38 rfl rfl;have d5:r 41=.slice (some ⟨w.heap.size,c*8,none⟩) (n - c) (n - c):=q 3 41 rfl rfl;have d6:r 44=.slice (some ⟨w.heap.size,0,none⟩) c n:=q 6 44 rfl rfl;clear q a;simp at A C N Z a8 b2 b3 b4 b5 b6 D E F G H I J K L M O P Q R S T U V X Y a0 a1 a2 a3 a4 a5 a6 a7 a9 b0 b1;simp only[List.drop_succ_cons,List.drop_zero];simp[List.range,List.range.loop,A,C,N,Z,a8,b2,b3,b4,b5,b6,D,E,F,G,H,I,J,K,L,M,O,P,Q,R,S,T,U,V,X,Y,a0,a1,a2,a3,a4,a5,a6,a7,a9,b0,b1,d4,d5,d6];clear A C N Z a8 b2 b3 b4 b5 b6 D E F G H I J K L M O P Q R S T U V X Y a0 a1 a2 a3 a4 a5 a6 a7 a9 b0 b1 d4 d5 d6;obtain⟨m,k⟩:∃m,m=Nat.min c (n - c):=⟨_,rfl⟩;have g3:1<=m:=by rw[k];exact Nat.le_min.2 ⟨e6,zO⟩
    have e8:m<=c:=by rw[k];exact Nat.min_le_left _ _
    have g4:m<=n - c:=by rw[k];exact Nat.min_le_right _ _
    have c2:=Hd (c0.o.later c6.ext);have d8:=Hd k;clear k
    go_wp2_with (first
     |(refine nk rfl _ _ 58 58 rfl 60 underlying58 zK c2.o d3 b9.o (ac _) (c*8) (n - c) (n - c) ⟨w.heap.size,0,none⟩ c n rfl rfl rfl m d8.o zO (λz l x=>by rw[fv];exact c2.o.cell (yN e8 (by rw[Nat.zero_add];exact x))) ?_;intro f8 d2))
    have e0:=Hd d2;clear d2;go_roundw;case rel=>exact⟨c+m,zN,zO,zO,e0.o⟩
    case measure=>simp[intOf];omega
  ·have e7:¬((c:Int)<(n:Int)):=by omega
   obtain rfl:c=n:=by omega
   go_wp2_with fail
   go_ret;exact⟨rfl,c0.o⟩
def eJ(W:World)(b:List Value)(n:Nat)(c:Int)(vals:List Value)(i:Nat)(v:Value)(w:World):Prop:=
 if i=2 then∃a,v=.slice (some ⟨a,0,none⟩) 1 1/\Blk w a 60 b
 else if i=4 then∃a,v=.slice (some ⟨a,0,none⟩) n n/\W.heap.size<=a/\Blk w a 60 (bG n b)
 else if i=5 then∃a,v=.agg #[.int .i64 7,.int .i64 0,.int .u64 0,.int .i64 0,.int .i64 0,.int .i64 0,.int .i64 0,.slice (some ⟨a,0,none⟩) n n]/\W.heap.size<=a/\Blk w a 60 (bG n b)
 else if i=11 then∃a,v=.agg #[.int .i64 7,.int .i64 0,.int .u64 0,.int .i64 0,.int .i64 0,.int .i64 0,.int .i64 0,.slice (some ⟨a,0,none⟩) n n,.int .i64 c]/\W.heap.size<=a/\Blk w a 60 (bG n b)
 else v=vals.getD i undef
theorem wM{W:World}{g:List Value}{n:Nat}{f:Int}{vals:List Value}{i:Nat}{v:Value}{w w':World}(h:eJ W g n f vals i v w)(e:Ext w w'):eJ W g n f vals i v w':=by
 unfold eJ at h⊢;split
 ·rename_i hi;rw[if_pos hi] at h;obtain⟨a,b,c⟩:=h;exact⟨a,b,c.ext e⟩
 rename_i hi
 rw[if_neg hi] at h;split
 ·rename_i hi;rw[if_pos hi] at h;obtain⟨a,b,c,d⟩:=h;exact⟨a,b,c,d.ext e⟩
 rename_i hi
 rw[if_neg hi] at h;split
 ·rename_i hi;rw[if_pos hi] at h;obtain⟨a,b,c,d⟩:=h;exact⟨a,b,c,d.ext e⟩
 rename_i hi
 rw[if_neg hi] at h;split
 ·rename_i hi;rw[if_pos hi] at h;obtain⟨a,b,c,d⟩:=h;exact⟨a,b,c,d.ext e⟩
 ·rename_i hi;rw[if_neg hi] at h;exact h
theorem RepI.blk{w:World}{g n:Nat}{a:List Value}{wr:World}(h:RepI w g n n a wr)(d:a.length=8):Blk wr g 60 (bG n a):=by
 obtain⟨e,b,c⟩:=h.row;rw[List.length_append,eX _ d] at c;obtain rfl:e=[]:=dl zO;rw[List.append_nil] at b;exact b
theorem uq{Y:Nat->Prop}{w:World}{g n:Nat}{f:DE}{b:List Value}(c:Blk w g 60 (bG n b))(a:RE9 Y w f b)(h:Y g):SlY Y 60 (RE9 Y w) w 8 (List.replicate n f) (.slice (some ⟨g,0,none⟩) n n):=by
 refine⟨_,n,by rw[List.length_replicate],by rw[List.length_replicate];exact ac _,λe d=>?_⟩;have i:e<n:=by rw[List.length_replicate] at d;exact d
 refine⟨g,0,b,rfl,h,c.tag,a.len,λl o j=>?_,λv k=>a.one v k,by rw[List.getElem_replicate];exact a⟩;rw[Nat.zero_add];have:=c.cells (e*8+l) o (wO a.len i j);simpa using this
theorem xz(W0:World)(B N0 mb sb mp:Nat)(vf vs vp vc ve:Value)(m:Mk)(s:Sc)(x:X)(O:List Value)(w:World)(a6:Cx W0 B w)(b9:XOk W0 B x O)(h:MkI w N0 mb vf vs vp vc m)(g2:ScI w sb mp ve s)(f5:Good m.d.sigs s)(c3:x.op=9)(a7:1<x.l.length)
 (f4:∀u,u∈x.l->∀(w':World) (O:List Value),Ext w w'->RX W0 B u O->bv Tryz.prog 150 #[.pointer (some ⟨mb,0,none⟩),.pointer (some ⟨sb,0,none⟩),.agg O.toArray] w' (aC m.d.sigs s u) (ct w') (Ext w')):
 bv Tryz.prog 150 #[.pointer (some ⟨mb,0,none⟩),.pointer (some ⟨sb,0,none⟩),.agg O.toArray] w (aC m.d.sigs s x) (ct w) (Ext w):=by
 have h4:=Hd a6;have h8:=Hd g2;have h5:=Hd f5;obtain⟨r2,rfl,i3⟩:=RX_iff.1 b9.rx;obtain⟨p7,j7,rfl,p0,c2⟩:=i3;have a8:0<x.l.length:=by omega
 obtain⟨i1,j8,q8,i8,i4,j0,b7,j2,a4⟩:=c2 0 a8;obtain⟨l2,p8,q9,i9,i5,j1,b8,j3,a5⟩:=c2 1 a7;subst i8;injection i9 with b4;injection b4 with b4 a2;subst b4;subst a2;have k8:=Hd a4;have k9:=Hd a5;obtain⟨r3,rfl,e2⟩:=RX_iff.1 a4;obtain⟨r4,rfl,e3⟩:=RX_iff.1 a5;simp only[Nat.zero_mul,Nat.add_zero,Nat.one_mul] at b7 b8;have g:=dh (k:=0) a8;have h9:=Hd (b9.part (an a8) a4);have c8:=Hd (λ(w':World) (a9:Ext w w')=>f4 x.l[1] (an a7) w' _ a9 a5);have u0:=e2.oneCell;have u1:=e3.oneCell;obtain⟨c7,c4⟩:∃c7,c7=aI s x.l[0]:=⟨_,rfl⟩;obtain⟨b1,c5⟩:∃b1,b1=aC m.d.sigs s x.l[1]:=⟨_,rfl⟩;have Y:=Hd (show aC m.d.sigs s x=(do let n<-c7;let _<-aU (1<=n/\n<=64) 83;let u<-b1;df (.mk 7 0 0 0 0 0 0 (List.replicate n.toNat u.1),1+n*u.2)) by
  rw[dI,c4,c5];unfold dn;rw[if_neg zO,if_neg zO,if_neg zO,if_neg zO,if_pos c3,g,show(x.l.map (aC m.d.sigs s)).getD 1 (.error 0)=aC m.d.sigs s x.l[1] from by simp[List.getD_eq_getElem?_getD,List.getElem?_eq_getElem a7]])
 obtain⟨f,e4,S,e8⟩:=aV w (.int .i64 9) (.string x.name) (.int .i64 x.n) (.int .i64 x.w) (.int .u64 x.v) (.slice (some ⟨i1,j8,none⟩) x.l.length j7) 40;obtain⟨H,e5,T,c1⟩:=bM f (.int .i64 0) (.int .i64 0) (.int .u64 0) (.int .i64 0) (.int .i64 0) (.int .i64 0) (.int .i64 0) (.slice none 0 0) (.int .i64 0) 203;have o2:=e4.symm;have y:w.heap.size<=f.heap.size:=S.size;have p1:f.heap.size<H.heap.size:=c1.lt;obtain⟨l3,l4,l5,l6,l7,l8⟩:=(e8.ext T).later6;obtain⟨a2,f2⟩:=ae (W:=H) (w:=H) (af _);have o3:=e5.symm.trans f2;have E:=Hd (S.trans T);have V:=Hd c1;have d8:=Hd (λ(w':World) (a9:Ext w w')=>fR W0 B x.l[0] _ sb mp ve s w' (h4.o.later a9) h9.o (h8.o.ext a9) h5.o.env);rw[<-c4] at d8;rw[<-c5] at c8;generalize x.l[0]=x0 at*;generalize x.l[1]=x1 at*;obtain⟨m0,m1,m2,m3,m4,m5⟩:=(b7.ext (a6.ext.trans (S.trans T))).later6;obtain⟨g7,g8,g9,h0,h1,h2⟩:=(b8.ext (a6.ext.trans (S.trans T))).later6;have o7:(0:Int)<(x.l.length:Int):=by omega
 have o8:(1:Int)<(x.l.length:Int):=by omega
 clear f2 e4 e5 S T e8 c1 b9 h g2 a6 f5 f4 c2 a4 a5 e2 e3 j0 j1 i4 i5 b7 b8 j2 j3 g a8 a7 c4 c5;have p4:=@hmf_ Tryz.prog;rw[c3];clear c3
 go_enter_defers func150,ntmps150
 go_wp2_with fail
 go_at_call 71;refine(d8.o _ (E.o.trans (ag _))).mono ?_;rintro e k7 (⟨n,k6,z,rfl,rfl,U⟩|⟨a1,z,rfl,U⟩);rotate_left
 ·have I:=(V.o.ext ((ag a2).trans U)).cell 8;have G:=Hd (show RunsP (aC m.d.sigs s x) (ct w) (Ext w) (.panicked (aR a1)) k7 from .no (by rw[Y.o,z];rfl) ((E.o.trans (ag _)).trans U));exact fA (by simpa using I) zD G.o
 obtain⟨C,rfl⟩:=ae ((ag a2).trans U);have d4:=Hd z;clear z U;by_cases t:1<=n/\n<=64
 rotate_left
 ·have Z:=Hd (ei 83 zD C.w);have I:=(V.o.ext (ag C)).cell 8;have G:=Hd (show RunsP (aC m.d.sigs s x) (ct w) (Ext w) (.panicked (aR 83)) C.w from .no (by rw[Y.o,d4.o];unfold aU;simp only[bind,Except.bind];rw[if_neg t]) (E.o.trans (ag _)));by_cases e0:1<=n
  ·have e1:¬n<=64:=λr=>t ⟨e0,r⟩
   clear t;go_wp2_with fail
   go_at_call 35;rw[show decide (n<=64)=false from decide_eq_false zO];refine Z.o.mono ?_;rintro _ D ⟨rfl,rfl⟩;exact fA (by simpa using I) zD G.o
  ·clear t;go_wp2_with fail
   go_at_call 35;refine Z.o.mono ?_;rintro _ D ⟨rfl,rfl⟩;exact fA (by simpa using I) zD G.o
 obtain⟨b,rfl⟩:=Int.eq_ofNat_of_zero_le (show 0<=n by omega);have e0:=t.1;have e1:=t.2;have Z:=Hd (dZ 83 C.w);have b2:=Hd (show aC m.d.sigs s x=(do let u<-b1;df (.mk 7 0 0 0 0 0 0 (List.replicate b u.1),1+(b:Int)*u.2)) by rw[Y.o,d4.o];unfold aU;simp only[bind,Except.bind];rw[if_pos t];rfl);clear t Y;go_wp2_with (go_at_call 35;refine Z.o.mono ?_;rintro _ D ⟨rfl,rfl⟩)
 go_at_call 150;refine(c8.o _ (E.o.trans (ag _))).mono ?_;rintro e D (⟨u,k6,z,rfl,a1,rfl,J,K,f8,f9⟩|⟨a1,z,rfl,K⟩);rotate_left
 ·have I:=(V.o.ext ((ag C).trans K)).cell 8;have G:=Hd (show RunsP (aC m.d.sigs s x) (ct w) (Ext w) (.panicked (aR a1)) D from .no (by rw[b2.o,z];rfl) ((E.o.trans (ag _)).trans K));exact fA (by simpa using I) zD G.o
 obtain⟨r0,rfl,g3⟩:=RE9_iff.1 J;obtain⟨L,M,rfl⟩:=g3.form;obtain⟨a,j⟩:=u;have h7:=Hd (show RE9 (λr=>C.w.heap.size<=r) D a [.int .i64 a.op,.int .i64 a.w,.int .u64 a.v,.int .i64 a.sig,.int .i64 a.hi,.int .i64 a.lo,.int .i64 a.n,.slice L a.l.length M] from J);have d2:=Hd (show 0<=j/\j<=65537 from⟨f8,f9⟩);have d3:=Hd z;obtain⟨a0,e6,b0,e9⟩:=bM D (.int .i64 a.op) (.int .i64 a.w) (.int .u64 a.v) (.int .i64 a.sig) (.int .i64 a.hi) (.int .i64 a.lo) (.int .i64 a.n) (.slice L a.l.length M) (.int .i64 j) 203;obtain⟨p9,q0,q1,q2,q3,q4,q5,q6,q7⟩:=e9.later9;obtain⟨i2,f3⟩:=ae (W:=a0) (w:=a0) (af _);have o4:=e6.symm.trans f3;have b3:=Hd (show Ext H a0 from((ag C).trans K).trans b0);have l0:=Hd (K.trans b0);have d5:=Hd (h7.o.ext b0);clear J g3 z f8 f9 K b0 e9 e6 f3;have o9:((b:Int)).toNat=b:=rfl;have p2:0<=(b:Int)*j:=Int.mul_nonneg zO d2.o.1;have p3:(b:Int)*j<=4194368:=by
  have:=d2.o
  calc (b:Int)*j<=64*j:=Int.mul_le_mul_of_nonneg_right e1 this.1
   _<=4194368:=by omega
 go_wp2_with fail
 refine bD 12 (W:=a0) (Ext) (eJ H [.int .i64 a.op,.int .i64 a.w,.int .u64 a.v,.int .i64 a.sig,.int .i64 a.hi,.int .i64 a.lo,.int .i64 a.n,.slice L a.l.length M] b (1+(b:Int)*j) [.pointer (some ⟨D.heap.size,0,none⟩),.agg #[.int .i64 a.op,.int .i64 a.w,.int .u64 a.v,.int .i64 a.sig,.int .i64 a.hi,.int .i64 a.lo,.int .i64 a.n,.slice L a.l.length M],undef,.int .i64 b,undef,undef,.int .i64 b,.pointer (some ⟨D.heap.size,8,none⟩),.int .i64 j,.int .i64 ((b:Int)*j),.int .i64 (1+(b:Int)*j),undef]) (λ_ _=>False) (λ_=>true) zK (bo) zK zK ?_ (ag i2) (λp6 v w w' h j5=>wM h j5) ?_ (λA l9 w c j4=>j4.elim) ?_
 ·exact⟨rfl,rfl,rfl,rfl,rfl,rfl,rfl,rfl,rfl,rfl,rfl,rfl,trivial⟩
 ·refine⟨?_,?_,?_,?_,?_,?_,?_,?_,?_,?_,?_,?_,trivial⟩;rotate_left 2
  ·intro A F g c q;obtain⟨i,rfl⟩:=ae g;have g8:=ab c 1 94 zK rfl;simp[eJ] at g8;obtain⟨l1,e7,g5,f0⟩:=de i.w (.int .i64 a.op) (.int .i64 a.w) (.int .u64 a.v) (.int .i64 a.sig) (.int .i64 a.hi) (.int .i64 a.lo) (.int .i64 a.n) (.slice L a.l.length M) 60;have o5:=e7.symm;have d1:=Hd (aq g5 f0);clear e7 g5 f0;clear c q;go_simp;first|exact⟨_,rfl,d1.o.1,_,rfl,d1.o.2⟩
  rotate_left 1
  ·intro A F g c q;obtain⟨i,rfl⟩:=ae g;obtain⟨d9,g9,R⟩:=ab c 2 95 zK rfl;simp at g9;have h6:=Hd R;clear R;have h0:=ab c 3 96 zK rfl;simp[eJ] at h0;clear c q;go_simp;refine(AB b d9 0 1 [.int .i64 a.op,.int .i64 a.w,.int .u64 a.v,.int .i64 a.sig,.int .i64 a.hi,.int .i64 a.lo,.int .i64 a.n,.slice L a.l.length M] i.w zO zO h6.o.cells rfl (d5.o.one)).mono ?_;rintro _ r1 ⟨rfl,g0⟩;have d6:=Hd g0;clear g0;go_simp;first|exact⟨_,rfl,d6.o.ext,_,rfl,ad b3.o.size i.ext.size,d6.o.blk rfl⟩
  ·intro A F g c q;obtain⟨i,rfl⟩:=ae g;obtain⟨b5,h1,f6⟩:=ab c 4 97 zK rfl;simp at h1;have c9:=Hd f6;clear f6;clear c q;go_simp;first|exact⟨_,rfl,af _,b5,rfl,c9.o⟩|exact⟨af _,b5,rfl,c9.o⟩
  rotate_left 3
  ·intro A F g c q;obtain⟨i,rfl⟩:=ae g;have k0:=ab c 6 99 zK rfl;simp[eJ] at k0;have k2:=ab c 8 101 zK rfl;simp[eJ] at k2;clear c q;go_simp;simp(disch:=omega) only[IntWalk.i64_in];exact zF
  ·intro A F g c q;obtain⟨i,rfl⟩:=ae g;have k3:=ab c 9 102 zK rfl;simp[eJ] at k3;clear c q;go_simp;simp(disch:=omega) only[IntWalk.i64_in];exact zF
  ·intro A F g c q;obtain⟨i,rfl⟩:=ae g;obtain⟨b6,h2,f7⟩:=ab c 5 98 zK rfl;simp at h2;have d0:=Hd f7;clear f7;have j9:=ab c 10 103 zK rfl;simp[eJ] at j9;clear c q;go_simp;first|exact⟨_,rfl,af _,b6,rfl,d0.o⟩|exact⟨af _,b6,rfl,d0.o⟩
  all_goals
   intro A F g c q;obtain⟨i,rfl⟩:=ae g;try (have g7:=ab c 0 93 zD rfl;simp[eJ] at g7)
   try (have k1:=ab c 7 100 zD rfl;simp[eJ] at k1)
   have k5:=ah q 13 zK;simp at k5;have k4:=ah q 12 zK;simp at k4;clear c q;exact zA
 ·intro A F i7;obtain⟨m6,rfl,g,f1,g1⟩:=i7.fin (n:=133) rfl;obtain⟨i,rfl⟩:=ae g;have c6:=g1 6 zK;obtain⟨a3,g6,i6,R⟩:=f1 11 104 rfl rfl;clear f1 g1;simp at c6;simp only[List.drop_succ_cons,List.drop_zero];simp[List.range,List.range.loop,c6,g6];clear c6 g6;have J:RE9 (λr=>H.heap.size<=r) i.w (.mk 7 0 0 0 0 0 0 (List.replicate b a)) [.int .i64 7,.int .i64 0,.int .u64 0,.int .i64 0,.int .i64 0,.int .i64 0,.int .i64 0,.slice (some ⟨a3,0,none⟩) b b]:=RE9_iff.2 ⟨_,rfl,uq R ((d5.o.ext (ag i)).imp (λr _ c0=>ad (ag C).size c0)) i6⟩;have Q:=V.o.ext (b3.o.trans (ag i));have g4:=E.o.trans (b3.o.trans (ag i));obtain⟨n6,n7,d9,n8,b5,b6,n9,o0,o1⟩:=Q.get9;obtain⟨m7,m8,m9,n0,n1,n2,n3,n4,n5⟩:=Q.free9;obtain⟨N,P⟩:∃N,N=((((((((i.w.setCell ⟨f.heap.size,0,none⟩ (.int .i64 7)).setCell ⟨f.heap.size,1,none⟩ (.int .i64 0)).setCell ⟨f.heap.size,2,none⟩ (.int .u64 0)).setCell ⟨f.heap.size,3,none⟩ (.int .i64 0)).setCell ⟨f.heap.size,4,none⟩ (.int .i64 0)).setCell ⟨f.heap.size,5,none⟩ (.int .i64 0)).setCell ⟨f.heap.size,6,none⟩ (.int .i64 0)).setCell ⟨f.heap.size,7,none⟩ (.slice (some ⟨a3,0,none⟩) b b)).setCell ⟨f.heap.size,8,none⟩ (.int .i64 (1+(b:Int)*j)):=⟨_,rfl⟩;have o6:=P.symm;have h3:=Hd (show Blk N f.heap.size 203 [.int .i64 7,.int .i64 0,.int .u64 0,.int .i64 0,.int .i64 0,.int .i64 0,.int .i64 0,.slice (some ⟨a3,0,none⟩) b b,.int .i64 (1+(b:Int)*j)] by rw[P];exact Q.store9 _ _ _ _ _ _ _ _ _);have d7:=Hd (show Ext w N by rw[P];exact((((((((g4.setCell y _).setCell y _).setCell y _).setCell y _).setCell y _).setCell y _).setCell y _).setCell y _).setCell y _);have i0:=Hd (show RE9 (λr=>w.heap.size<=r) N (.mk 7 0 0 0 0 0 0 (List.replicate b a)) [.int .i64 7,.int .i64 0,.int .u64 0,.int .i64 0,.int .i64 0,.int .i64 0,.int .i64 0,.slice (some ⟨a3,0,none⟩) b b] by
   rw[P];refine RE9.turn (X:=λr=>r=f.heap.size) ?_ (λr c0 j6=>⟨λe=>?_,ad E.o.size j6⟩) _ _ J
   ·exact((((((((dk (X:=λr=>r=f.heap.size) (bg _ i.w) (p:=⟨f.heap.size,0,none⟩) rfl _).setCell (p:=⟨f.heap.size,1,none⟩) rfl _).setCell (p:=⟨f.heap.size,2,none⟩) rfl _).setCell (p:=⟨f.heap.size,3,none⟩) rfl _).setCell (p:=⟨f.heap.size,4,none⟩) rfl _).setCell (p:=⟨f.heap.size,5,none⟩) rfl _).setCell (p:=⟨f.heap.size,6,none⟩) rfl _).setCell (p:=⟨f.heap.size,7,none⟩) rfl _).setCell (p:=⟨f.heap.size,8,none⟩) rfl _
   ·exact absurd (c0.one (e▸Q.tag)) zD)
  clear Q g4 P J R;go_wp2_with fail
  refine fK rfl h3.o (λt=>?_) (λt=>?_)
  ·exact .ok (by rw[b2.o,d3.o];exact jM t) ⟨_,rfl,i0.o,d7.o,(show(0:Int)<=1+(b:Int)*j by omega),(show 1+(b:Int)*j<=65537 by have p5:1+(b:Int)*j<=65536:=t;omega)⟩
  ·exact .no (by rw[b2.o,d3.o];exact jZ t) d7.o
theorem xC(W0:World)(B N0 mb sb mp:Nat)(vf vs vp vc ve:Value)(m:Mk)(s:Sc)(k:Good m.d.sigs s):∀x:X,MayX x->∀(a:List Value) (w:World),Cx W0 B w->XOk W0 B x a->MkI w N0 mb vf vs vp vc m->ScI w sb mp ve s->
 bv Tryz.prog 150 #[.pointer (some ⟨mb,0,none⟩),.pointer (some ⟨sb,0,none⟩),.agg a.toArray] w (aC m.d.sigs s x) (ct w) (Ext w):=by
 intro x;induction x using X.ind with
 |h x ih=>
  intro z a w e b c f;obtain⟨⟨C,-,-,-⟩,A⟩:=MayX_iff.1 z;have o:x.l.length<=1000000000:=by
   have n:=aw al x.l cR;have i:=b.size;rw[dJ] at i;omega
  have j:∀g,g∈x.l->∀(w':World) (a:List Value),Ext w w'->RX W0 B g a->bv Tryz.prog 150 #[.pointer (some ⟨mb,0,none⟩),.pointer (some ⟨sb,0,none⟩),.agg a.toArray] w' (aC m.d.sigs s g) (ct w') (Ext w'):=
   λg q w' y p D=>ih g q (A g q) y w' (e.later p) (b.part q D) (c.ext p) (f.ext p)
  unfold eg at C;by_cases n:x.op=1
  ·exact xu W0 B _ _ m.d.sigs s x a w b.rx n
  by_cases i:x.op=2
  ·exact xw W0 B N0 mb sb mp vf vs vp vc ve m s x a w e b c f k i
  by_cases t:x.op=3
  ·exact xx W0 B N0 mb sb mp vf vs vp vc ve m s x a w e b c f k t zO
  by_cases u:x.op=4
  ·exact xy W0 B N0 mb sb mp vf vs vp vc ve m s x a w e b c f u o j
  by_cases v:x.op=9
  ·exact xz W0 B N0 mb sb mp vf vs vp vc ve m s x a w e b c f k v zO j
  by_cases r:x.op=10
  ·exact zW W0 B N0 mb sb mp vf vs vp vc ve m s x a w e b c f k r zO o j
  exact xB W0 B N0 mb sb mp vf vs vp vc ve m s x a w e b c f n i t u v r o j
def CntM(m m':Mk):Prop:=∃n,m'={m with count:=n}/\m.count<=n/\n<=65536
theorem CntM.refl{m:Mk}(h:m.count<=65536):CntM m m:=⟨m.count,rfl,Int.le_refl _,h⟩
theorem CntM.trans{a b c:Mk}(h:CntM a b)(k:CntM b c):CntM a c:=by
 obtain⟨n,rfl,d,i⟩:=h;obtain⟨g,rfl,e,f⟩:=k;exact⟨g,rfl,Int.le_trans d e,f⟩
theorem CntM.d{m m':Mk}(h:CntM m m'):m'.d=m.d:=by obtain⟨n,rfl,-⟩:=h;rfl
theorem ee{n:Int}{m m':Mk}(h:aW n m=.ok m')(a:0<=n):CntM m m':=by
 unfold aW at h;split at h
 ·injection h with h;exact⟨m.count+n,h.symm,zO,by assumption⟩
 ·cases h
structure StC(W0:World)(B N0 mb sb mp:Nat)(vf vs vp vc ve:Value)(m:Mk)(s:Sc)(w:World):Prop where
 cx:Cx W0 B w
 mk_:MkI w N0 mb vf vs vp vc m
 sc:ScI w sb mp ve s
 gd:Good m.d.sigs s
 c0:0<=m.count
 c1:m.count<=65536
 lo:W0.heap.size<=mb
section
variable {W0 w w' : World} {B N0 mb sb mp : Nat} {vf vs vp vc ve : Value} {m m' : Mk} {s : Sc}
theorem ScI.frS(h:ScI w sb mp ve s)(a:FrS mb w w')(b:Tag w mb 99):ScI w' sb mp ve s:=
 ⟨a.blk h.blk (λe=>absurd (h.blk.tag.one (show Tag w sb _ from(show sb=mb from e)▸b)) zD),h.env.keep (.inr (.inr rfl)) (FrS.kp a b) (λ_ _ _ h=>h),h.map.of_eq (a.block mp h.map.lt (λe=>h.map.noTag (show Tag w mp _ from(show mp=mb from e)▸b)))⟩
theorem StC.frS(h:StC W0 B N0 mb sb mp vf vs vp vc ve m s w)(c:FrS mb w w')(a:MkI w' N0 mb vf vs vp vc m')(b:CntM m m'):StC W0 B N0 mb sb mp vf vs vp vc ve m' s w':=by
 have j:=b.d;obtain⟨n,rfl,f,g⟩:=b;have e:=h.c0;exact⟨⟨h.cx.tabs,h.cx.hB,c.ext h.cx.ext (λi a=>(show i=mb from a)▸h.lo)⟩,a,h.sc.frS c h.mk_.blk.tag,h.gd,Int.le_trans e f,g,h.lo⟩
theorem StC.ext(h:StC W0 B N0 mb sb mp vf vs vp vc ve m s w)(a:Ext w w'):StC W0 B N0 mb sb mp vf vs vp vc ve m s w':=
 ⟨h.cx.later a,h.mk_.ext a,h.sc.ext a,h.gd,h.c0,h.c1,h.lo⟩
end
def WhR(N0 mb:Nat)(vf vs vp vc:Value)(m:Mk)(w:World)(b:DE×Mk)(v:Value)(w':World):Prop:=
 SlY (λa=>w.heap.size<=a) 60 (RE9 (λa=>w.heap.size<=a) w') w' 8 [b.1] v/\MkI w' N0 mb vf vs vp vc b.2/\FrS mb w w'/\CntM m b.2
theorem ir(W0:World)(B N0 mb sb mp:Nat)(vf vs vp vc ve:Value)(m:Mk)(s:Sc)(x:X)(O:List Value)(w:World)(h:StC W0 B N0 mb sb mp vf vs vp vc ve m s w)(u:XOk W0 B x O)(b1:MayX x):
 bv Tryz.prog 110 #[.pointer (some ⟨mb,0,none⟩),.pointer (some ⟨sb,0,none⟩),.agg O.toArray] w (aG s x m) (WhR N0 mb vf vs vp vc m w) (FrS mb w):=by
 have Y:=Hd h;have d2:=h.mk_.blk.lt;have a8:=h.c0;have a9:=h.c1;obtain⟨b9,rfl,Q⟩:=RX_iff.1 u.rx;have d4:=Q.oneCell;obtain⟨c2,i,c9,W,b5,c3,c4,c5,c6,c7,c8⟩:=cA w (.int .i64 x.op) (.string x.name) (.int .i64 x.n) (.int .i64 x.w) (.int .u64 x.v) b9 40;have g:=Hd W;have a7:=Hd (λ(w':World) (E:Ext w w')=>xC W0 B N0 mb sb mp vf vs vp vc ve m s h.gd x b1 _ w' (h.cx.later E) u (h.mk_.ext E) (h.sc.ext E));have t:=Hd (show aG s x m=(do let r<-aC m.d.sigs s x;let m'<-aW r.2 m;return(r.1,m')) from rfl);clear h u Q W b5;go_enter func110,ntmps110;go_wp2_with fail
 go_at_call 150;refine(a7.o _ (g.o.trans i.ext)).mono ?_;rintro e G (⟨r,b8,c,rfl,N,rfl,D,j,C,b3⟩|⟨N,c,rfl,j⟩);rotate_left
 ·exact⟨rfl,.no (by rw[t.o,c];rfl) (((g.o.trans i.ext).trans j).chg)⟩
 obtain⟨f3,rfl,V⟩:=RE9_iff.1 D;obtain⟨J,K,rfl⟩:=V.form;obtain⟨a,I⟩:=r;obtain⟨M,R,F,z⟩:=bM G (.int .i64 a.op) (.int .i64 a.w) (.int .u64 a.v) (.int .i64 a.sig) (.int .i64 a.hi) (.int .i64 a.lo) (.int .i64 a.n) (.slice J a.l.length K) (.int .i64 I) 203;obtain⟨d5,d6,d7,d8,d9,e0,e1,e2,e3⟩:=z.get9;have d0:=R.symm;have p:=Hd (((g.o.trans i.ext).trans j).trans F);have Z:=Hd z;have d3:w.heap.size<=G.heap.size:=((g.o.trans i.ext).trans j).size;have a3:=Hd (show RE9 (λb=>w.heap.size<=b) M a [.int .i64 a.op,.int .i64 a.w,.int .u64 a.v,.int .i64 a.sig,.int .i64 a.hi,.int .i64 a.lo,.int .i64 a.n,.slice J a.l.length K] from(D.imp (λb _ y=>ad (g.o.trans i.ext).size y)).ext F);have L:=Hd c;have a6:=Hd (ej N0 mb vf vs vp vc m I M (Y.o.mk_.ext p.o) a8 a9 C zO);have b2:0<=I:=C;clear R F z D V c j C b3;go_wp2_with fail
 go_at_call 75;refine a6.o.mono ?_;rintro e H (⟨m',b8,c,rfl,rfl,U,f⟩|⟨N,c,rfl,f⟩);rotate_left
 ·exact⟨rfl,.no (by rw[t.o,L.o];simp only[bind,Except.bind];rw[c]) (p.o.chg.trans f)⟩
 have b4:G.heap.size≠mb:=by omega
 have T:=f.blk Z.o b4;obtain⟨e4,e5,e6,e7,e8,e9,f0,f1,f2⟩:=T.get9;obtain⟨k,S,q,A⟩:=de H (.int .i64 a.op) (.int .i64 a.w) (.int .u64 a.v) (.int .i64 a.sig) (.int .i64 a.hi) (.int .i64 a.lo) (.int .i64 a.n) (.slice J a.l.length K) 60;have d1:=S.symm;have a4:=Hd (show aG s x m=.ok (a,m') by rw[t.o,L.o];simp only[bind,Except.bind];rw[c];rfl);have a1:=Hd (show FrS mb w k from(p.o.chg.trans f).trans q.chg);have a5:=Hd (show SlY (λb=>w.heap.size<=b) 60 (RE9 (λb=>w.heap.size<=b) k) k 8 [a] (.slice (some ⟨H.heap.size,0,none⟩) 1 1) from by
  have P:RE9 (λb=>w.heap.size<=b) k a _:=(RE9.turn f (λb _ y=>⟨λe=>by have:b=mb:=e;omega,y⟩) a _ a3.o).ext q;refine⟨_,1,rfl,ac _,λb7 b0=>?_⟩;obtain rfl:b7=0:=by simp at b0;omega
  exact⟨H.heap.size,0,_,rfl,ad p.o.size f.size,A.tag,rfl,A.cells,λv b6=>P.one v b6,P⟩)
 have a2:=Hd (U.ext q);have a0:=Hd (ee c b2);clear S q A T f U c;go_wp2_with fail
 go_ret;exact .ok a4.o ⟨a5.o,a2.o,a1.o,a0.o⟩
theorem Chg.trans_new{X Y:Nat->Prop}{a b d:World}(h:Chg X a b)(k:Chg Y b d)(e:∀c,Y c->a.heap.size<=c):Chg X a d:=
 ⟨k.os.trans h.os,k.tape.trans h.tape,k.output.trans h.output,ad h.size k.size,λc hi f=>(k.block c (aQ hi h.size) (λg=>absurd (e c g) zO)).trans (h.block c hi f)⟩
theorem MkI.back{X:Nat->Prop}{w b a:World}{N0 mb:Nat}{vf vs vp vc:Value}{m m':Mk}(h:MkI w N0 mb vf vs vp vc m)(f:FrS mb w a)(g:MkI b N0 mb vf vs vp vc m')(d:Chg X b a)(c:¬X mb)(e:CntM m m'):MkI a N0 mb vf vs vp vc m':=by
 obtain⟨n,rfl,-⟩:=e;exact h.count f n (d.blk g.blk c)
def StR(N0 mb:Nat)(vf vs vp vc:Value)(m:Mk)(w:World)(a:DT×Mk)(v:Value)(w':World):Prop:=
 ∃b,v=.agg b.toArray/\RT9 (λc=>w.heap.size<=c) w' a.1 b/\MkI w' N0 mb vf vs vp vc a.2/\FrS mb w w'/\CntM m a.2
theorem ob(W0:World)(B N0 mb sb mp:Nat)(vf vs vp vc ve:Value)(m:Mk)(s:Sc)(A:Bool)(t x:X)(c4 c5:List Value)(w:World)(h:StC W0 B N0 mb sb mp vf vs vp vc ve m s w)(Z:XOk W0 B t c4)(a0:XOk W0 B x c5)(g8:t.op=3\/t.op=4->0<t.l.length)(g9:MayX x):
 bv Tryz.prog 108 #[.pointer (some ⟨mb,0,none⟩),.pointer (some ⟨sb,0,none⟩),.agg c4.toArray,.agg c5.toArray,.bool A] w (cG s A t x m) (StR N0 mb vf vs vp vc m w) (FrS mb w):=by
 have b5:=Hd h;have j9:=h.mk_.blk.lt;have f0:=Hd Z;have f1:=Hd a0;obtain⟨h7,rfl,c6⟩:=RX_iff.1 Z.rx;obtain⟨h8,rfl,c7⟩:=RX_iff.1 a0.rx;have l3:=c6.oneCell;have l4:=c7.oneCell;obtain⟨K,c8,d4,a1⟩:=aV w (.int .i64 t.op) (.string t.name) (.int .i64 t.n) (.int .i64 t.w) (.int .u64 t.v) h7 40;obtain⟨a,c9,a9,a2⟩:=aV K (.int .i64 x.op) (.string x.name) (.int .i64 x.n) (.int .i64 x.w) (.int .u64 x.v) h8 40;obtain⟨W,d0,U,a3⟩:=aV a (.int .i64 0) (.int .i64 0) (.int .i64 0) (.int .i64 0) (.slice none 0 0) (.slice none 0 0) 73;have j2:=c8.symm;have j3:=c9.symm;have j4:=d0.symm;have L:=Hd ((d4.trans a9).trans U);have e0:=Hd (a1.ext (a9.trans U));have e1:=Hd (a2.ext U);have e2:=Hd a3;have m1:w.heap.size<K.heap.size:=a1.lt;have m2:K.heap.size<a.heap.size:=a2.lt;have m3:a.heap.size<W.heap.size:=a3.lt;have f2:=Hd (ej N0 mb vf vs vp vc m 1 W (h.mk_.ext L.o) h.c0 h.c1 zD zD);clear c8 c9 d0 d4 a9 U a1 a2 a3 h Z a0 c6 c7;have J:=Hd (show cG s A t x m=(do let H<-aW 1 m;let b0<-cJ H.d.sigs s A t;let C<-aG s x H;return(eb b0 C.1,C.2)) from rfl);go_enter func108,ntmps108;go_wp2_with fail
 go_at_call 75;refine f2.o.mono ?_;rintro e b2 (⟨H,b1,f,rfl,rfl,F,c⟩|⟨c3,f,rfl,c⟩);rotate_left
 ·exact⟨rfl,.no (by rw[J.o,f];rfl) (L.o.chg.trans c)⟩
 have Y:=ee f zD;have D:=Hd ((b5.o.ext L.o).frS c F Y);have b3:=Hd (L.o.chg.trans c);have e4:=Hd Y;have V:=Hd f;have m4:W.heap.size<=b2.heap.size:=c.size;have b7:=c.blk e0.o (show¬w.heap.size=mb by omega);have b8:=c.blk e1.o (show¬K.heap.size=mb by omega);have E:=c.blk e2.o (show¬a.heap.size=mb by omega);obtain⟨f6,f7,f8,f9,g0,g1⟩:=b7.get6;have d6:=Hd b8;have d7:=Hd E;have f3:=Hd (pa W0 B N0 mb sb mp vf vs vp vc ve H s A t _ b2 D.o.cx f0.o D.o.mk_ D.o.sc D.o.gd g8);clear c F f b7 b8 E Y;go_wp2_with fail
 go_at_call 148;refine f3.o.mono ?_;rintro e b (⟨b0,b1,f,rfl,rfl,j⟩|⟨c3,f,rfl,j⟩);rotate_left
 ·exact⟨rfl,.no (by rw[J.o,V.o];simp only[bind,Except.bind];rw[f]) (b3.o.trans j.chg)⟩
 obtain⟨k,q,r⟩:=b0;have b6:=Hd f;obtain⟨f5,d1,d5,S⟩:=aV b (.int .i64 0) (.int .i64 0) (.int .i64 0) (.int .i64 0) (.slice none 0 0) (.slice none 0 0) 73;have j8:=d1.symm;obtain⟨k1,k2,k3,k4,k5,k6⟩:=S.get6;obtain⟨k7,k8,k9,l0,l1,l2⟩:=S.free6;obtain⟨u,O⟩:∃u,u=(((((f5.setCell ⟨b.heap.size,0,none⟩ (.int .i64 1)).setCell ⟨b.heap.size,1,none⟩ (.int .i64 k)).setCell ⟨b.heap.size,2,none⟩ (.int .i64 q)).setCell ⟨b.heap.size,3,none⟩ (.int .i64 r)).setCell ⟨b.heap.size,4,none⟩ (.slice none 0 0)).setCell ⟨b.heap.size,5,none⟩ (.slice none 0 0):=⟨_,rfl⟩;have j5:=O.symm;have a4:Blk u b.heap.size 73 [.int .i64 1,.int .i64 k,.int .i64 q,.int .i64 r,.slice none 0 0,.slice none 0 0]:=by rw[O];exact S.store6 _ _ _ _ _ _
 have G:Ext b u:=by rw[O];exact(((((d5.setCell (ac _) _).setCell (ac _) _).setCell (ac _) _).setCell (ac _) _).setCell (ac _) _).setCell (ac _) _
 obtain⟨g2,g3,g4,g5,g6,g7⟩:=(d6.o.ext (j.trans G)).get6;have e3:=Hd a4;have d8:=Hd (d7.o.ext (j.trans G));have m5:b2.heap.size<=b.heap.size:=j.size;have m6:b.heap.size<u.heap.size:=a4.lt;have d9:=Hd (D.o.ext (j.trans G));have b4:=Hd (b3.o.trans (j.trans G).chg);have f4:=Hd (ir W0 B N0 mb sb mp vf vs vp vc ve H s x _ u d9.o f1.o g9);clear d1 d5 S O j G a4 f f6 f7 f8 f9 g0 g1;go_wp2_with fail
 go_at_call 110;refine f4.o.mono ?_;rintro e I (⟨C,b1,f,rfl,a8,F,c,d3⟩|⟨c3,f,rfl,c⟩);rotate_left
 ·exact⟨rfl,.no (by rw[J.o,V.o];simp only[bind,Except.bind];rw[b6.o];simp only;rw[f]) (b4.o.trans c)⟩
 obtain⟨i,ec,h0⟩:=a8.form;obtain rfl:b1=.slice i 1 ec:=h0;have N:=c.blk e3.o (show¬b.heap.size=mb by omega);have E:=c.blk d8.o (show¬a.heap.size=mb by omega);have m7:u.heap.size<=I.heap.size:=c.size;have h9:=N.cell 4;have m8:=N.frozen 4;simp only[List.getElem?_cons_succ,List.getElem?_cons_zero] at h9;obtain⟨y,P⟩:∃y,y=I.setCell ⟨b.heap.size,4,none⟩ (.slice i 1 ec):=⟨_,rfl⟩;have j6:=P.symm;have b9:Blk y b.heap.size 73 [.int .i64 1,.int .i64 k,.int .i64 q,.int .i64 r,.slice i 1 ec,.slice none 0 0]:=by rw[P];simpa using N.set_ 4 (.slice i 1 ec)
 have a5:Chg (λg=>g=b.heap.size) I y:=by rw[P];exact dk (X:=λg=>g=b.heap.size) (bg _ I) (p:=⟨b.heap.size,4,none⟩) rfl _
 have M:=a5.blk E (show¬a.heap.size=b.heap.size by omega);obtain⟨l5,l6,l7,l8,l9,m0⟩:=b9.get6;obtain⟨i0,i1,i2,i3,i4,i5⟩:=M.free6;obtain⟨i6,i7,i8,i9,j0,j1⟩:=M.get6;obtain⟨z,Q⟩:∃z,z=(((((y.setCell ⟨a.heap.size,0,none⟩ (.int .i64 1)).setCell ⟨a.heap.size,1,none⟩ (.int .i64 k)).setCell ⟨a.heap.size,2,none⟩ (.int .i64 q)).setCell ⟨a.heap.size,3,none⟩ (.int .i64 r)).setCell ⟨a.heap.size,4,none⟩ (.slice i 1 ec)).setCell ⟨a.heap.size,5,none⟩ (.slice none 0 0):=⟨_,rfl⟩;have j7:=Q.symm;have c2:Blk z a.heap.size 73 [.int .i64 1,.int .i64 k,.int .i64 q,.int .i64 r,.slice i 1 ec,.slice none 0 0]:=by rw[Q];exact M.store6 _ _ _ _ _ _
 have d2:Chg (λg=>g=a.heap.size) y z:=by
  rw[Q];exact(((((dk (X:=λg=>g=a.heap.size) (bg _ y) (p:=⟨a.heap.size,0,none⟩) rfl _).setCell (p:=⟨a.heap.size,1,none⟩) rfl _).setCell (p:=⟨a.heap.size,2,none⟩) rfl _).setCell (p:=⟨a.heap.size,3,none⟩) rfl _).setCell (p:=⟨a.heap.size,4,none⟩) rfl _).setCell (p:=⟨a.heap.size,5,none⟩) rfl _
 have T:Chg (λg=>g=b.heap.size\/g=a.heap.size) I z:=(a5.mono (λ_ _ h=>.inl h)).trans (d2.mono (λ_ _ h=>.inr h));have a7:FrS mb w z:=(b4.o.trans c).trans_new T (λg R=>by rcases R with rfl|rfl<;>omega);have a6:=e4.o.trans d3;have e7:=Hd (b5.o.mk_.back a7 F T (λR=>by rcases R with rfl|rfl<;>omega) a6);have e9:=Hd (show SlE9 (λg=>w.heap.size<=g) z [C.1] (.slice i 1 ec) from SlE9.turn a8 T (λg R k0=>⟨λe=>by rcases e with rfl|rfl<;>omega,zO⟩));have e6:=Hd a7;have e8:=Hd (show cG s A t x m=.ok (eb (k,q,r) C.1,C.2) by rw[J.o,V.o];simp only[bind,Except.bind];rw[b6.o];simp only;rw[f];rfl);have e5:=Hd a6;obtain⟨h1,h2,h3,h4,h5,h6⟩:=c2.get6;clear a8 F c d3 f N E P b9 a5 M Q c2 d2 T a7 a6 g2 g3 g4 g5 g6 g7;go_wp2_with fail
 refine bodyPost_ret (v:=.agg #[.int .i64 1,.int .i64 k,.int .i64 q,.int .i64 r,.slice i 1 ec,.slice none 0 0]) ?_ rfl (.ok e8.o ⟨[.int .i64 1,.int .i64 k,.int .i64 q,.int .i64 r,.slice i 1 ec,.slice none 0 0],rfl,RT9_iff.2 ⟨_,_,rfl,e9.o,SlY.nil⟩,e7.o,e6.o,e5.o⟩);simp[results,results108,go_sem,h1,h2,h3,h4,h5,h6]
theorem kB:(Tryz.prog.info? 73).map (λi=>(i.zero,i.size,i.bytes))=some (some (.agg #[.int .i64 0,.int .i64 0,.int .i64 0,.int .i64 0,.slice none 0 0,.slice none 0 0]),6,80):=by kernel_rfl
def SlK(W0:World)(B mb:Nat)(w:World)(l:List S)(v:Value):Prop:=
 ∃d e,v=.slice d l.length e/\l.length<=e/\∀c,(g:c<l.length)->∃a o b,d=some ⟨a,o,none⟩/\a<w.heap.size/\a≠mb/\b.length=4/\Cells w a (o+c*4) b/\(∀f,f∈b->f.oneCell'=true)/\RS W0 B l[c] b
theorem SlK.frS{W0 w w':World}{B mb:Nat}{l:List S}{v:Value}(h:SlK W0 B mb w l v)(d:FrS mb w w'):SlK W0 B mb w' l v:=by
 obtain⟨i,j,z,r,x⟩:=h;refine⟨i,j,z,r,λg t=>?_⟩;obtain⟨b,o,k,ha,c,e,u,p,n,q⟩:=x g t;exact⟨b,o,k,ha,aQ c d.size,e,u,λf A y=>(ek (a:=⟨b,o+g*4+f,none⟩) (d.block b c e)).trans (p f A y),n,q⟩
theorem SlK.of{W0 w:World}{B mb:Nat}{l:List S}{v:Value}(h:Sl (RS W0 B) W0 B 4 l v)(a:Ext W0 w)(t:B<=W0.heap.size)(x:W0.heap.size<=mb):SlK W0 B mb w l v:=by
 obtain⟨b,d,q,j,p⟩:=h;refine⟨b,d,q,j,λr k=>?_⟩;obtain⟨c,o,e,ha,u,n,g,f,i⟩:=p r k;exact⟨c,o,e,ha,by have:=a.size;omega,zO,n,g.ext a,f,i⟩
theorem SlK.oneCell{W0 w:World}{B mb:Nat}{l:List S}{v:Value}(h:SlK W0 B mb w l v):v.oneCell'=true:=by obtain⟨a,b,rfl,-⟩:=h;rfl
def RSK(W0:World)(B mb:Nat)(w:World)(x:S)(c:List Value):Prop:=
 ∃a b,c=[.int .i64 x.op,.string x.name,a,b]/\Sl (RX W0 B) W0 B 6 x.x a/\SlK W0 B mb w x.l b
theorem RSK.of{W0 w:World}{B mb:Nat}{x:S}{a:List Value}(h:RS W0 B x a)(g:Ext W0 w)(e:B<=W0.heap.size)(f:W0.heap.size<=mb):RSK W0 B mb w x a:=by
 obtain⟨i,j,b,c,d⟩:=RS_iff.1 h;exact⟨i,j,b,c,SlK.of d g e f⟩
def dG(W0:World)(B N0 mb:Nat)(vf vs vp vc:Value)(c:Bool)(f:FuncId)(b:S->Sc->Mk->Rs (DT×Mk))(x:S):Prop:=
 ∀(sb mp:Nat) (ve:Value) (m:Mk) (s:Sc) (w:World) (a:List Value),StC W0 B N0 mb sb mp vf vs vp vc ve m s w->s.env.length+ao x<=1000000->RSK W0 B mb w x a->
  bv Tryz.prog f #[.pointer (some ⟨mb,0,none⟩),.pointer (some ⟨sb,0,none⟩),.agg a.toArray,.bool c] w (b x s m) (StR N0 mb vf vs vp vc m w) (FrS mb w)
def StsR(N0 mb:Nat)(vf vs vp vc:Value)(m:Mk)(w:World)(a:List DT×Mk)(v:Value)(w':World):Prop:=
 SlT9 (λb=>w.heap.size<=b) w' a.1 v/\MkI w' N0 mb vf vs vp vc a.2/\FrS mb w w'/\CntM m a.2
def cd{α:Type}(a:List α):List (Mk->Rs (α×Mk))->Mk->Rs (List α×Mk)
 |[],m=>.ok (a,m)
 |f::fs,m=>do
  let y<-f m
  cd (a++[y.1]) fs y.2
theorem un{α:Type}(fs:List (Mk->Rs (α×Mk))):∀a m,cd a fs m=(do let z<-bB fs m;return(a++z.1,z.2)):=by
 induction fs with
 |nil=>intro a m;simp[cd,bB,bind,Except.bind,pure,Except.pure]
 |cons f fs ih=>
  intro a m;simp only[cd,bB,bind,Except.bind,pure,Except.pure];cases f m with
  |error e=>rfl
  |ok y=>
   simp only[];rw[ih];cases bB fs y.2 with
   |error e=>rfl
   |ok z=>simp[bind,Except.bind,pure,Except.pure]
theorem jR{α:Type}(fs:List (Mk->Rs (α×Mk)))(m:Mk):cd [] fs m=bB fs m:=by
 rw[un];cases bB fs m with
 |error e=>rfl
 |ok z=>rfl
theorem io(W0:World)(B N0 mb sb mp:Nat)(vf vs vp vc ve:Value)(m:Mk)(s:Sc)(j:Bool)(l:List S)(b4:Value)(w:World)(h:StC W0 B N0 mb sb mp vf vs vp vc ve m s w)(Y:SlK W0 B mb w l b4)
 (a4:∀x,x∈l->dG W0 B N0 mb vf vs vp vc j 149 (aK j) x) (a8:s.env.length+aa ao l<=1000000):
 bv Tryz.prog 109 #[.pointer (some ⟨mb,0,none⟩),.pointer (some ⟨sb,0,none⟩),b4,.bool j] w (bC j s l m) (StsR N0 mb vf vs vp vc m w) (FrS mb w):=by
 have F:=Hd h;have b9:=Hd a4;have c4:=Hd Y;have h2:=h.mk_.blk.lt;have e6:=h.c1;have h1:l.length<=1000000:=by
  have:=aw ao l da;omega
 have c6:=Hd a8;obtain⟨f7,f9,rfl,g8,E⟩:=Y;obtain⟨k,A⟩:∃k,k=l.map (λx=>aK j x s):=⟨_,rfl⟩;obtain⟨n,f⟩:∃n,n=bC j s l m:=⟨_,rfl⟩;rw[<-f];have T:=Hd (show n=cd [] (k.drop 0) m from by rw[List.drop_zero,jR,f,A];rfl);have c3:=Hd A;have a7:k.length=l.length:=by rw[A,List.length_map]
 clear E a4 A f h a8;go_enter func109,ntmps109;go_wp2_with fail
 go_loopw [8,13] (λf6 P wr=>∃(t:Nat) (a:List DT) (m':Mk),t<=l.length/\P=.int .i64 t/\a.length=t/\FrS mb w wr/\MkI wr N0 mb vf vs vp vc m'/\CntM m m'/\OwnT w.heap.size a f6 wr/\n=cd a (k.drop t) m') (λ_ P _=>l.length - (intOf P).toNat)
 case atStart=>exact⟨0,[],m,aA _,rfl,rfl,bg _ _,F.o.mk_,CntM.refl e6,OwnT.none_,T.o⟩
 case round=>
  obtain⟨t,a,m',h0,rfl,rfl,c,i,g,D,f⟩:=hrel;clear T;have v:=Hd c;have R:=Hd g;have G:=Hd D;have b7:=Hd (F.o.frS c i g);have c5:=Hd (c4.o.frS c);obtain⟨b0,b1,rfl⟩:=D.form;by_cases C:a.length<l.length
  ·rw[List.drop_eq_getElem_cons (by rw[a7];exact C),List.getElem_of_eq c3.o,List.getElem_map] at f;have h3:=ay ao l l[a.length] (an C);obtain⟨f8,g0,e4,-,E⟩:=c5.o;obtain⟨d,o,g1,e9,g7,g5,g9,X,e8,I⟩:=E _ C;injection e4 with e0 e1 e2;subst e0;subst e9;obtain⟨f4,f5,rfl,H,U⟩:=RS_iff.1 I;have h4:=H.oneCell;have h5:=U.oneCell;obtain⟨d6,d7,d8,d9⟩:=X.get4;obtain⟨d4,Z,O,a1⟩:=bK wr (.int .i64 l[a.length].op) (.string l[a.length].name) f4 f5 177;have g3:=Z.symm;obtain⟨f0,f1,f2,f3⟩:=a1.get4;have u:=Hd (b7.o.ext O);have g6:=c6.o;have d3:=Hd (b9.o l[a.length] (an C) sb mp ve m' s d4 _ u.o zO (RSK.of I u.o.cx.ext u.o.cx.hB u.o.lo));have p:=Hd O;generalize l[a.length]=x at*;have y:=Hd f;clear Z O a1 X I f D i g H U E e8 e1 e2 c;go_wp2_with fail
   go_at_call 149;refine d3.o.mono ?_;rintro e b5 (⟨b,h8,M,rfl,d5,rfl,N,i,c,g⟩|⟨d5,M,rfl,c⟩);rotate_left
   ·exact⟨rfl,.no (by rw[y.o,cd,M];rfl) ((v.o.trans p.o.chg).trans c)⟩
   obtain⟨b2,b3,rfl,V,W⟩:=RT9_iff.1 N;have h6:=V.oneCell;have h7:=W.oneCell;obtain⟨z,a0,r,a2⟩:=aV b5 (.int .i64 b.1.op) (.int .i64 b.1.sig) (.int .i64 b.1.hi) (.int .i64 b.1.lo) b2 b3 73;have g4:=a0.symm;have K:=((v.o.trans p.o.chg).trans c).trans r.chg;have c0:=Hd K;have d0:=Hd ((G.o.chg ((p.o.chg).trans c) (λd q=>by have:d=mb:=q;omega)).later r);have b8:=Hd a2
   have d2:=Hd (show RT9 (λd=>w.heap.size<=d/\(Value.slice b0 a.length b1).ownBlock≠some d) z b.1 [.int .i64 b.1.op,.int .i64 b.1.sig,.int .i64 b.1.hi,.int .i64 b.1.lo,b2,b3] from
    (N.imp (λd _ q=>⟨ad (ad v.o.size p.o.size) q,λe=>by
      have g2:=(G.o.lt d e).2;have H:=p.o.size;omega⟩)).ext r)
   have c7:=Hd (i.ext r);have Q:=Hd (R.o.trans g);have e5:w.heap.size<=z.heap.size:=K.size;clear a0 r a2 K V W N i c g d6 d7 d8 d9 f0 f1 f2 f3
   go_wp2_with (first
    |(at_builtin;go_loud (
      refine uU rfl _ _ 68 rfl w.heap.size _ 80 kB underlying68 rfl zD a b.1 (.slice b0 a.length b1) rfl d0.o b5.heap.size 1 _ rfl b8.o d2.o zO e5 ?_;intro h9 b6 a9 a5 a6;have d1:=Hd a9;have J:Chg (λd=>w.heap.size<=d) z b6:=Chg.grown (bg _ z) a5 (λe3 e7 _=>a6 e3 e7);have L:FrS mb w b6:=c0.o.trans_new J (λd q=>q);have c2:=Hd L;have c8:=Hd (F.o.mk_.back L c7.o J zO Q.o)
      clear a9 a5 a6 J L)))
   go_roundw;case rel=>exact⟨a.length+1,a++[b.1],b.2,zO,zN,zS,c2.o,c8.o,Q.o,d1.o,by rw[y.o,cd,M];rfl⟩
   case measure=>simp[intOf];omega
  ·have a3:k.drop a.length=[]:=by rw[List.drop_eq_nil_iff,a7];omega
   rw[a3] at f;have y:=Hd (show n=.ok (a,m') from f);have c9:=Hd i;clear f a3 c i g D;go_wp2_with fail
   go_ret;exact .ok y.o ⟨G.o.slY,c9.o,v.o,R.o⟩
theorem gT(w:World)(g:Nat)(u0 u1 u2 u3 u4 u5:Value):Chg (λb=>b=g) w ((((((w.setCell ⟨g,0,none⟩ u0).setCell ⟨g,1,none⟩ u1).setCell ⟨g,2,none⟩ u2).setCell ⟨g,3,none⟩ u3).setCell ⟨g,4,none⟩ u4).setCell ⟨g,5,none⟩ u5):=
 (((((dk (X:=λb=>b=g) (bg _ w) (p:=⟨g,0,none⟩) rfl _).setCell (p:=⟨g,1,none⟩) rfl _).setCell (p:=⟨g,2,none⟩) rfl _).setCell (p:=⟨g,3,none⟩) rfl _).setCell (p:=⟨g,4,none⟩) rfl _).setCell (p:=⟨g,5,none⟩) rfl _
theorem dD(w:World)(g i:Nat)(u:Value):Chg (λb=>b=g) w (w.setCell ⟨g,i,none⟩ u):=dk (X:=λb=>b=g) (bg _ w) (p:=⟨g,i,none⟩) rfl _
theorem XOk.of{W0:World}{B:Nat}{l:List X}{x:X}{a:List Value}(b:x∈l)(d:RX W0 B x a)(e:aa al l<=1000000000)(f:∀c,c∈l->VX c):XOk W0 B x a:=⟨d,ad (ay al l x b) e,f x b⟩
theorem tj(W0:World)(B N0 mb:Nat)(vf vs vp vc:Value)(A:Bool)(x:S)(j1:∀u,u∈x.x->VX u)
 (i1:∀u,u∈x.l->dG W0 B N0 mb vf vs vp vc A 149 (aK A) u):dG W0 B N0 mb vf vs vp vc A 186 (cz A) x:=by
 intro sb mp ve m s w r0 i i5 p;have b7:=Hd i;have t5:=i.mk_.blk.lt;have t0:=i.c1;have t6:1+aa al x.x+aa ao x.l<=1000000:=by rw[<-bW];omega
 have o0:s.env.length+aa ao x.l<=1000000:=by rw[bW] at i5;omega
 have t4:x.x.length<=1000000:=by have:=aw al x.x cR;omega
 obtain⟨w4,e8,rfl,Z,d9⟩:=p;have v1:=d9.oneCell;have l1:=Hd d9;obtain⟨f9,g8,rfl,t1,i7⟩:=Z;have l8:=Hd i7;have l7:=Hd j1;have k9:=Hd i1;obtain⟨g,h2,j2,D⟩:=bK w (.int .i64 x.op) (.string x.name) (.slice f9 x.x.length g8) e8 177;obtain⟨c7,h3,Z,L⟩:=aV g (.int .i64 0) (.int .i64 0) (.int .i64 0) (.int .i64 0) (.slice none 0 0) (.slice none 0 0) 73;have n4:=h2.symm;have n5:=h3.symm;have c8:=Hd (j2.trans Z);have b9:=Hd (D.ext Z);have a5:=Hd L;have v9:w.heap.size<g.heap.size:=D.lt;have w0:g.heap.size<c7.heap.size:=L.lt;have c6:=Hd (ej N0 mb vf vs vp vc m 1 c7 (i.mk_.ext c8.o) i.c0 i.c1 zD zD);have V:=Hd (show cz A x s m=(do let U<-aW 1 m;let u<-bB (x.x.map λl=>eu s l) U;let z<-bC A s x.l u.2;return(.mk 4 0 0 0 u.1 z.1,z.2)) by rw[jF];unfold jC bC;simp only[List.map_map];rfl);clear h2 h3 j2 Z D L i d9 i7 j1 i1 i5;go_enter func186,ntmps186;go_wp2_with fail
 go_at_call 75;refine c6.o.mono ?_;rintro e d (⟨U,e7,f,rfl,rfl,k,b⟩|⟨d1,f,rfl,b⟩);rotate_left
 ·exact⟨rfl,.no (by rw[V.o,f];rfl) (c8.o.chg.trans b)⟩
 obtain⟨m5,h6,j4,b3⟩:=aV d (.int .i64 0) (.int .i64 0) (.int .i64 0) (.int .i64 0) (.slice none 0 0) (.slice none 0 0) 73;have n8:=h6.symm;obtain⟨o9,p0,a3,p1,p2,p3⟩:=b3.get6;obtain⟨p4,p5,p6,p7,p8,p9⟩:=b3.free6;obtain⟨j,b1⟩:∃j,j=(((((m5.setCell ⟨d.heap.size,0,none⟩ (.int .i64 4)).setCell ⟨d.heap.size,1,none⟩ (.int .i64 0)).setCell ⟨d.heap.size,2,none⟩ (.int .i64 0)).setCell ⟨d.heap.size,3,none⟩ (.int .i64 0)).setCell ⟨d.heap.size,4,none⟩ (.slice none 0 0)).setCell ⟨d.heap.size,5,none⟩ (.slice none 0 0):=⟨_,rfl⟩;have n6:=b1.symm;have M:Blk j d.heap.size 73 [.int .i64 4,.int .i64 0,.int .i64 0,.int .i64 0,.slice none 0 0,.slice none 0 0]:=by rw[b1];exact b3.store6 _ _ _ _ _ _
 have a0:Ext d j:=by rw[b1];exact(((((j4.setCell (ac _) _).setCell (ac _) _).setCell (ac _) _).setCell (ac _) _).setCell (ac _) _).setCell (ac _) _
 have w1:c7.heap.size<=d.heap.size:=b.size;have w2:d.heap.size<j.heap.size:=M.lt;have c2:=Hd ((b.blk b9.o (show¬w.heap.size=mb by omega)).ext a0);have f2:=Hd ((b.blk a5.o (show¬g.heap.size=mb by omega)).ext a0);have f3:=Hd M;have a7:=Hd f;have k8:=Hd ((c8.o.chg.trans b).trans a0.chg);have l2:=Hd (k.ext a0);have k6:=Hd (ee f zD);obtain⟨g4,g5,g6,g7⟩:=c2.o.get4;obtain⟨C,b4⟩:∃C,C=x.x.map (λl=>eu s l):=⟨_,rfl⟩;obtain⟨I,p⟩:∃I,I=bB C U:=⟨_,rfl⟩;have f7:=Hd (show I=cd [] (C.drop 0) U from by rw[List.drop_zero,jR,p]);have a8:=Hd (show I=bB (x.x.map λl=>eu s l) U from by rw[p,b4]);have l0:=Hd b4;have i4:C.length=x.x.length:=by rw[b4,List.length_map]
 clear h6 j4 b3 b1 M a0 b k f b4 p;go_wp2_with fail
 clear g4 g5 g6 g7 n4 n5 n8 n6 o9 p0 a3 p1 p2 p3 p4 p5 p6 p7 p8 p9
 go_loopw [19] (λe5 wr=>∃(a2:Nat) (c:List DE) (m':Mk) (e9:Value),a2<=x.x.length/\e5=.int .i64 a2/\c.length=a2/\FrS mb w wr/\j.heap.size<=wr.heap.size/\MkI wr N0 mb vf vs vp vc m'/\CntM m m'/\OwnE j.heap.size c e9 wr/\
  Blk wr w.heap.size 177 [.int .i64 x.op,.string x.name,.slice f9 x.x.length g8,e8]/\Blk wr g.heap.size 73 [.int .i64 0,.int .i64 0,.int .i64 0,.int .i64 0,.slice none 0 0,.slice none 0 0]/\
  Blk wr d.heap.size 73 [.int .i64 4,.int .i64 0,.int .i64 0,.int .i64 0,e9,.slice none 0 0]/\I=cd c (C.drop a2) m') (λe5 _=>x.x.length - (intOf e5).toNat)
 case atStart=>exact⟨0,[],U,_,aA _,rfl,rfl,k8.o,ac _,l2.o,k6.o,OwnE.none_,c2.o,f2.o,f3.o,f7.o⟩
 case round=>
  obtain⟨a2,c,m',e9,t3,rfl,rfl,b,o2,k,N,b5,D,L,M,p⟩:=hrel;clear f7 c2 f2 f3;have W:=Hd b;have f4:=Hd N;have f5:=Hd b5;have q9:=Hd k;have a4:=Hd (b7.o.frS b k N);have b9:=Hd D;have a5:=Hd L;have c3:=Hd M;obtain⟨E,F,rfl⟩:=b5.form;by_cases e0:c.length<x.x.length
  ·rw[List.drop_eq_getElem_cons (by rw[i4];exact e0),List.getElem_of_eq l0.o,List.getElem_map] at p;obtain⟨a,o,u0,u1,u2,u3,u4,u5,rfl,s9,h1,h0,t8,t9,v0,v2,v3,v4⟩:=l8.o.open6 e0;obtain⟨m7,m8,m9,n0,n1,n2⟩:=(h0.ext a4.o.cx.ext).get6;have l9:=Hd (XOk.of (an e0) h1 zO l7.o);generalize x.x[c.length]=u at*;have Q:=Hd p;obtain⟨m6,h4,e3,h7⟩:=aV wr u0 u1 u2 u3 u4 u5 40;have s6:=h4.symm;obtain⟨q0,q1,q2,q3,q4,q5⟩:=h7.get6;have f1:=Hd (a4.o.ext e3);have m1:=Hd (oW W0 B u _ sb mp ve s m6 f1.o.cx l9.o f1.o.sc zO);have c9:=Hd e3;clear h4 e3 h7 h0 h1 p b5 k N b D L M;go_wp2_with fail
   go_at_call 106;refine m1.o.mono ?_;rintro e y (⟨z,e7,f,rfl,rfl,a1⟩|⟨d1,f,rfl,a1⟩);rotate_left
   ·exact⟨rfl,.no (by rw[V.o,a7.o];simp only[bind,Except.bind];rw[<-a8.o,Q.o,cd];unfold eu;rw[f];rfl) (W.o.trans (c9.o.trans a1).chg)⟩
   obtain⟨O,P⟩:=z;have f6:=Hd f;obtain⟨f8,h5,j3,d2⟩:=dd y (.int .i64 O) (.int .u64 P) 161;have s7:=h5.symm;have k4:=Hd d2;have t2:y.heap.size<f8.heap.size:=d2.lt;have X:=Hd ((c9.o.trans a1).trans j3);have b8:=Hd (a4.o.ext X.o);have c6:=Hd (ej N0 mb vf vs vp vc m' 1 f8 b8.o.mk_ b8.o.c0 b8.o.c1 zD zD);have t7:wr.heap.size<=y.heap.size:=(c9.o.trans a1).size;clear h5 j3 d2 a1 f m7 m8 m9 n0 n1 n2 q0 q1 q2 q3 q4 q5;go_wp2_with fail
   go_at_call 75;refine c6.o.mono ?_;rintro e j6 (⟨j5,e7,f,rfl,rfl,k,b⟩|⟨d1,f,rfl,b⟩);rotate_left
   ·exact⟨rfl,.no (by rw[V.o,a7.o];simp only[bind,Except.bind];rw[<-a8.o,Q.o,cd];unfold eu;rw[f6.o];simp only[bind,Except.bind];rw[f]) ((W.o.trans X.o.chg).trans b)⟩
   have g1:=b.blk k4.o (show¬y.heap.size=mb by omega);obtain⟨q6,q7⟩:=g1.get2;have n:=b.blk (c3.o.ext X.o) (show¬d.heap.size=mb by omega);have e6:=n.cell 4;simp only[List.getElem?_cons_succ,List.getElem?_cons_zero] at e6;obtain⟨h,K,b6,h8⟩:=de j6 (.int .i64 1) (.int .i64 O) (.int .u64 P) (.int .i64 0) (.int .i64 0) (.int .i64 0) (.int .i64 0) (.slice none 0 0) 60;have n7:=K.symm;have g9:=((W.o.trans X.o.chg).trans b).trans b6.chg;have c4:=Hd g9;have T:FrS mb wr h:=(X.o.chg.trans b).trans b6.chg;have l3:=Hd (f5.o.chg T (λa r=>by have:a=mb:=r;omega));have k5:=Hd h8;have j8:=Hd (T.blk b9.o (show¬w.heap.size=mb by omega));have k0:=Hd (T.blk a5.o (show¬g.heap.size=mb by omega));have k2:=Hd (T.blk c3.o (show¬d.heap.size=mb by omega));have c5:=Hd (k.ext b6);have a6:=Hd (f4.o.trans (ee f zD));have i8:j.heap.size<=h.heap.size:=ad o2 T.size;have l5:=Hd (show I=cd (c++[bR O P]) (C.drop (c.length+1)) j5 from by
    rw[Q.o,cd];unfold eu;rw[f6.o];simp only[bind,Except.bind];rw[f]
    rfl)
   have m0:=Hd (RE9.leaf (Y:=λa=>j.heap.size<=a/\(Value.slice E c.length F).ownBlock≠some a) (w:=h) 1 O P 0 0 0 0);clear K b6 h8 g9 T k b f g1 n
   go_wp2_with (first
    |(at_builtin;go_loud (
      refine nr rfl _ _ 58 rfl j.heap.size _ 80 lf underlying58 rfl zD c (bR O P) (.slice E c.length F) rfl l3.o j6.heap.size 1 _ rfl k5.o m0.o zO i8 ?_;intro w5 f0 e1 i2 i3;obtain⟨d0,a3,j0⟩:=e1.form;rw[show(c++[bR O P]).length=c.length+1 from by simp] at j0;subst j0;have d4:Chg (λa=>j.heap.size<=a) h f0:=Chg.grown (bg _ h) i2 (λn3 n9 _=>i3 n3 n9);have n:=d4.blk k2.o zO;have e6:=n.cell 4;have r5:=n.frozen 4;simp only[List.getElem?_cons_succ,List.getElem?_cons_zero] at e6;obtain⟨J,b0⟩:∃J,J=f0.setCell ⟨d.heap.size,4,none⟩ (.slice d0 (c.length+1) a3):=⟨_,rfl⟩;have s5:=b0.symm;have d3:Chg (λa=>a=d.heap.size) f0 J:=by rw[b0];exact dD _ _ _ _
      have q:Chg (λa=>j.heap.size<=a\/a=d.heap.size) h J:=(d4.mono (λ_ _ i=>.inl i)).trans (d3.mono (λ_ _ i=>.inr i));have k1:=Hd (show Blk J d.heap.size 73 [.int .i64 4,.int .i64 0,.int .i64 0,.int .i64 0,.slice d0 (c.length+1) a3,.slice none 0 0] by rw[b0];simpa using n.set_ 4 (.slice d0 (c.length+1) a3));have j7:=Hd (q.blk j8.o zO);have j9:=Hd (q.blk k0.o zO);have d7:FrS mb w J:=c4.o.trans_new q (λa r=>by omega);have k3:=Hd d7;have m3:=Hd (b7.o.mk_.back d7 c5.o q zO a6.o);have m4:=Hd (e1.chg d3 (λa r=>by omega));have o1:j.heap.size<=J.heap.size:=ad i8 q.size
      clear e1 i2 i3 d4 b0 d3 q d7 n)))
   go_roundw;case rel=>exact⟨c.length+1,c++[bR O P],j5,_,zO,zN,zS,k3.o,o1,m3.o,a6.o,m4.o,j7.o,j9.o,k1.o,l5.o⟩
   case measure=>simp[intOf];omega
  ·have i0:C.drop c.length=[]:=by rw[List.drop_eq_nil_iff,i4];omega
   rw[i0] at p;have Q:=Hd (show I=.ok (c,m') from p);obtain⟨g4,g5,g6,g7⟩:=D.get4;have m2:=Hd (io W0 B N0 mb sb mp vf vs vp vc ve m' s A x.l e8 wr a4.o (l1.o.frS b) k9.o o0);clear p i0 b k N b5 D L M;go_wp2_with fail
   go_at_call 109;refine m2.o.mono ?_;rintro e y (⟨z,e7,f,rfl,e2,k,b,N⟩|⟨d1,f,rfl,b⟩);rotate_left
   ·exact⟨rfl,.no (by rw[V.o,a7.o];simp only[bind,Except.bind];rw[<-a8.o,Q.o];simp only;rw[f]) (W.o.trans b)⟩
   obtain⟨G,H,i9⟩:=e2.form;obtain⟨t,i6⟩:∃t,t=z.1.length:=⟨_,rfl⟩;rw[<-i6] at i9;subst i9;have n:=b.blk c3.o (show¬d.heap.size=mb by omega);have g0:=b.blk a5.o (show¬g.heap.size=mb by omega);have q8:=n.cell 5;have r7:=n.frozen 5;simp only[List.getElem?_cons_succ,List.getElem?_cons_zero] at q8;have w3:wr.heap.size<=y.heap.size:=b.size;obtain⟨R,b2⟩:∃R,R=y.setCell ⟨d.heap.size,5,none⟩ (.slice G t H):=⟨_,rfl⟩;have s8:=b2.symm;have g2:Blk R d.heap.size 73 [.int .i64 4,.int .i64 0,.int .i64 0,.int .i64 0,.slice E c.length F,.slice G t H]:=by rw[b2];simpa using n.set_ 5 (.slice G t H)
   have d5:Chg (λa=>a=d.heap.size) y R:=by rw[b2];exact dD _ _ _ _
   have a9:=d5.blk g0 (show¬g.heap.size=d.heap.size by omega);obtain⟨q6,q7,v5,v6,v7,v8⟩:=g2.get6;obtain⟨r1,r2,r3,r4,r6,r8⟩:=a9.free6;obtain⟨r9,s0,s1,s2,s3,s4⟩:=a9.get6;obtain⟨h,K⟩:∃h,h=(((((R.setCell ⟨g.heap.size,0,none⟩ (.int .i64 4)).setCell ⟨g.heap.size,1,none⟩ (.int .i64 0)).setCell ⟨g.heap.size,2,none⟩ (.int .i64 0)).setCell ⟨g.heap.size,3,none⟩ (.int .i64 0)).setCell ⟨g.heap.size,4,none⟩ (.slice E c.length F)).setCell ⟨g.heap.size,5,none⟩ (.slice G t H):=⟨_,rfl⟩;have n7:=K.symm;have g3:Blk h g.heap.size 73 [.int .i64 4,.int .i64 0,.int .i64 0,.int .i64 0,.slice E c.length F,.slice G t H]:=by rw[K];exact a9.store6 _ _ _ _ _ _
   have h9:Chg (λa=>a=g.heap.size) R h:=by rw[K];exact gT _ _ _ _ _ _ _ _
   have q:Chg (λa=>a=d.heap.size\/a=g.heap.size) y h:=(d5.mono (λ_ _ i=>.inl i)).trans (h9.mono (λ_ _ i=>.inr i));have d8:FrS mb w h:=(W.o.trans b).trans_new q (λa r=>by rcases r with rfl|rfl<;>omega);have d6:=f4.o.trans N;have c5:=Hd (b7.o.mk_.back d8 k q (λr=>by rcases r with rfl|rfl<;>omega) d6);have l6:=Hd (show SlT9 (λa=>w.heap.size<=a) h z.1 (.slice G t H) from SlT9.turn e2 q (λa r e4=>⟨λe=>by rcases e with rfl|rfl<;>omega,zO⟩));have k7:=Hd (show SlE9 (λa=>w.heap.size<=a) h c (.slice E c.length F) from SlE9.turn (SlE9.turn f5.o.slY b (Y':=λa=>j.heap.size<=a) (λa r e4=>⟨λe=>by have:a=mb:=e;omega,e4⟩)) q (λa r e4=>⟨λe=>by rcases e with rfl|rfl<;>omega,zO⟩));have c4:=Hd d8;have a6:=Hd d6;have l4:=Hd (show cz A x s m=.ok (.mk 4 0 0 0 c z.1,z.2) by rw[V.o,a7.o];simp only[bind,Except.bind];rw[<-a8.o,Q.o];simp only;rw[f];rfl);obtain⟨o3,o4,o5,o6,o7,o8⟩:=g3.get6;clear e2 k b N f n g0 b2 g2 d5 a9 K g3 h9 q d8 d6 i6;go_wp2_with fail
   refine bodyPost_ret (v:=.agg #[.int .i64 4,.int .i64 0,.int .i64 0,.int .i64 0,.slice E c.length F,.slice G t H]) ?_ rfl (.ok l4.o ⟨[.int .i64 4,.int .i64 0,.int .i64 0,.int .i64 0,.slice E c.length F,.slice G t H],rfl,RT9_iff.2 ⟨_,_,rfl,k7.o,l6.o⟩,c5.o,c4.o,a6.o⟩);simp[results,results186,go_sem,o3,o4,o5,o6,o7,o8]
def dF{σ:Type}(c:σ->Mk)(d:σ->Mk->σ)(b:Int->σ->Rs σ):Nat->Int->σ->Rs σ
 |0,_,a=>.ok a
 |n+1,v,a=>do
  let m1<-aW 1 (c a)
  let a'<-b v (d a m1)
  dF c d b n (v+1) a'
structure PassI{σ:Type}(W0:World)(B N0 mb sb mp:Nat)(s:Sc)(J:σ->World->Prop)(mk:σ->Mk)(st:σ->Mk->σ)(Bad:World->Prop):Prop where
 ctx:∀a w,J a w->∃vf vs vp vc ve,StC W0 B N0 mb sb mp vf vs vp vc ve (mk a) s w
 ext:∀a w w',J a w->Ext w w'->J a w'
 cnt:∀a w w' vf vs vp vc m',J a w->MkI w N0 mb vf vs vp vc (mk a)->MkI w' N0 mb vf vs vp vc m'->FrS mb w w'->CntM (mk a) m'->J (st a m') w'
 bad:∀a w w',J a w->FrS mb w w'->Bad w'
theorem oC{σ:Type}(W0:World)(B N0 mb sb mp:Nat)(s:Sc)(x:σ->World->Prop)(q:σ->Mk)(r:σ->Mk->σ)(H:World->Prop)(J:PassI W0 B N0 mb sb mp s x q r H)(j:Int->σ->Rs σ)(O:FuncId)(a5:Array Value)(a9:Enters Tryz.prog O)
 (b0:∀v a w,bU v->x a w->Calls Tryz.prog O (#[.int .i64 v]++a5) w (RunsP (j v a) (λa' u w'=>u=aO/\x a' w') H))
 (f:List X) (b5:Value) (l:σ) (w:World) (R:x l w) (d8:Sl (RX W0 B) W0 B 6 f b5) (h2:f.length=2) (V:aa al f<=1000000000) (Y:∀b7,b7∈f->VX b7):
 bv Tryz.prog 112 #[.pointer (some ⟨mb,0,none⟩),.pointer (some ⟨sb,0,none⟩),b5,.func (.func O) #[] a5] w
  (do let a<-aI s (xAt f 0);let c<-aI s (xAt f 1);dF q r j (c - a).toNat a l) (λa' u w'=>u=aO/\x a' w') H:=by
 have b8:=Hd b0;have g3:=a9.o;obtain⟨vf,vs,vp,vc,ve,d⟩:=J.ctx l w R;have I:=Hd d;obtain⟨h0,h1,rfl,g6,U⟩:=d8;have E:0<f.length:=by omega
 have D:1<f.length:=by omega
 obtain⟨f8,h3,h5,e3,a8,e5,P,e9,S⟩:=U 0 E;obtain⟨f9,h4,h6,e4,d9,e6,Q,f0,T⟩:=U 1 D;subst e3;injection e4 with p;injection p with p d7;subst p;subst d7;have c5:=Hd (XOk.of (an E) S V Y);have c6:=Hd (XOk.of (an D) T V Y);obtain⟨i0,rfl,a6⟩:=RX_iff.1 S;obtain⟨i1,rfl,a7⟩:=RX_iff.1 T;simp only[Nat.zero_mul,Nat.add_zero,Nat.one_mul] at P Q;rw[dh (k:=0) E,dh (k:=1) D];generalize f[0]=x0 at*;generalize f[1]=x1 at*;have u0:=a6.oneCell;have u1:=a7.oneCell;obtain⟨d1,d2,d3,d4,d5,d6⟩:=(P.ext d.cx.ext).later6;obtain⟨f2,f3,f4,f5,f6,f7⟩:=(Q.ext d.cx.ext).later6;obtain⟨N,z⟩:=ae (W:=w) (w:=w) (af _);have c8:=Hd (fR W0 B x0 _ sb mp ve s N.w (z▸d.cx) c5.o (z▸d.sc) d.gd.env);have c9:=Hd (λ(w':World) (b3:Ext w w')=>fR W0 B x1 _ sb mp ve s w' (I.o.cx.later b3) c6.o (I.o.sc.ext b3) I.o.gd.env);have g4:(0:Int)<(f.length:Int):=by omega
 have g5:(1:Int)<(f.length:Int):=by omega
 have K:=Hd R;have t:=Hd J;obtain⟨y,h⟩:∃y,y=(do let a<-aI s x0;let c<-aI s x1;dF q r j (c - a).toNat a l:Rs σ):=⟨_,rfl⟩;rw[<-h];have i:=Hd h;clear h b0 U S T a6 a7 e5 e6 a8 d9 P Q e9 f0 a9 R J d E D h2 V Y;have a2:=Hd (show Ext w N.w from N.ext);rw[z];clear z;go_enter func112,ntmps112;go_wp2_with fail
 go_at_call 71;refine c8.o.mono ?_;rintro e h7 (⟨a,u,b,rfl,rfl,F⟩|⟨g,b,rfl,F⟩);rotate_left
 ·exact⟨rfl,.no (by rw[i.o,b];rfl) (t.o.bad l w _ K.o (a2.o.trans F).chg)⟩
 have e1:=hV b;have M:=Hd b;obtain⟨p,rfl⟩:=ae (a2.o.trans F);clear b F;go_wp2_with fail
 go_at_call 71;refine(c9.o p.w p.ext).mono ?_;rintro e h8 (⟨c,u,b,rfl,rfl,G⟩|⟨g,b,rfl,G⟩);rotate_left
 ·exact⟨rfl,.no (by rw[i.o,M.o];simp only[bind,Except.bind];rw[b]) (t.o.bad l w _ K.o (p.ext.trans G).chg)⟩
 have e2:=hV b;have a3:=Hd (show y=dF q r j (c - a).toNat a l from by rw[i.o,M.o];simp only[bind,Except.bind];rw[b]);have a0:=Hd (t.o.ext _ _ _ K.o (p.ext.trans G));obtain⟨g0,g1⟩:=e1;obtain⟨a8,g2⟩:=e2;clear b G d1 d2 d3 d4 d5 d6 f2 f3 f4 f5 f6 f7 M i;go_wp2_with fail
 go_loopw [10] (λZ wr=>∃(v:Int) (g:σ),Z=.int .i64 v/\a<=v/\(v<=c\/v=a)/\x g wr/\y=dF q r j (c - v).toNat v g) (λZ _=>(c - intOf Z).toNat)
 case atStart=>exact⟨a,l,rfl,Int.le_refl _,.inr rfl,a0.o,a3.o⟩
 case round=>
  obtain⟨v,g,rfl,g8,g9,C,h⟩:=hrel;clear a3 a0;have L:=Hd C;by_cases g7:v<c
  ·obtain⟨n,e7⟩:∃n,(c - v).toNat=n+1:=⟨(c - v).toNat - 1,zO⟩;rw[e7,dF] at h;have i:=Hd h;obtain⟨vf,vs,vp,vc,ve,d⟩:=t.o.ctx g wr C;have c7:=Hd (ej N0 mb vf vs vp vc (q g) 1 wr d.mk_ d.c0 d.c1 zD zD);have c3:=Hd d.mk_;clear h C d;go_wp2_with fail
   go_at_call 75;refine c7.o.mono ?_;rintro e b6 (⟨b4,u,b,rfl,rfl,b2,A⟩|⟨d0,b,rfl,A⟩);rotate_left
   ·exact⟨rfl,.no (by rw[i.o,b];rfl) (t.o.bad g wr _ L.o A)⟩
   have b9:=Hd (t.o.cnt g wr b6 _ _ _ _ b4 L.o c3.o b2 A (ee b zD));have a1:=Hd (show y=(do let a'<-j v (r g b4);dF q r j n (v+1) a') by rw[i.o,b];rfl);clear b b2 A;go_wp2_with fail
   refine(b8.o v _ b6 ⟨zO,zO⟩ b9.o).mono ?_;rintro e h9 (⟨a4,u,b,rfl,rfl,b1⟩|⟨d0,b,rfl,e0⟩);rotate_left
   ·exact⟨rfl,.no (by rw[a1.o,b];rfl) e0⟩
   have c2:=Hd b1;have c4:=Hd (show y=dF q r j n (v+1) a4 by rw[a1.o,b];rfl);have e8:(c - (v+1)).toNat=n:=by omega
   clear b b1;go_wp2_with fail
   go_roundw;case rel=>exact⟨v+1,a4,zN,zO,zO,c2.o,by rw[e8];exact c4.o⟩
   case measure=>simp[intOf];omega
  ·have f1:(c - v).toNat=0:=by omega
   rw[f1,dF] at h;have i:=Hd h;clear h C;go_wp2_with fail
   go_end0
   exact .ok i.o ⟨rfl,L.o⟩
def eqS(S:List Nat)(vals:List Value)(i:Nat)(v:Value)(_:World):Prop:=if S.contains i=true then True else v=vals.getD i undef
def fh(W:World)(mp:Nat)(b:ByteArray)(env:List (ByteArray×Int))(vals:List Value)(i:Nat)(v:Value)(w:World):Prop:=
 if i=6 then∃ve,v=.agg #[ve,.map (some mp),.string b]/\SlT 85 RNm w 2 env ve
 else if i=7 then∃a,v=.pointer (some ⟨a,0,none⟩)/\W.heap.size<=a/\Blk w a 126 [.slice none 0 0,.map none,.string ⟨#[]⟩]
 else v=vals.getD i undef
theorem vi{W:World}{mp:Nat}{d:ByteArray}{env:List (ByteArray×Int)}{vals:List Value}{i:Nat}{v:Value}{w w':World}(h:fh W mp d env vals i v w)(c:Ext w w'):fh W mp d env vals i v w':=by
 unfold fh at h⊢;split
 ·rename_i hi;rw[if_pos hi] at h;obtain⟨ve,a,b⟩:=h;exact⟨ve,a,b.keep (.inr (.inr rfl)) c.kp (λ_ _ _ h=>h)⟩
 rename_i hi
 rw[if_neg hi] at h;split
 ·rename_i hi;rw[if_pos hi] at h;obtain⟨e,a,b,f⟩:=h;exact⟨e,a,b,f.ext c⟩
 ·rename_i hi;rw[if_neg hi] at h;exact h
structure LpI(w0:World)(N N0 mb sb gm gs gx gt gk gr:Nat)(vf vs vp vc:Value)(clk:Bool)(x:S)(v2 v3:Value)(m:Mk)(a:List DT×Mk)(w:World):Prop where
 fr:FrS mb w0 w
 mk_:MkI w N0 mb vf vs vp vc a.2
 cn:CntM m a.2
 bm:Blk w gm 97 [.pointer (some ⟨mb,0,none⟩)]
 bs:Blk w gs 100 [.pointer (some ⟨sb,0,none⟩)]
 bx:Blk w gx 177 [.int .i64 x.op,.string x.name,v2,v3]
 bk:Blk w gk 4 [.bool clk]
 row:∃v5,Blk w gt 73 [.int .i64 5,.int .i64 0,.int .i64 0,.int .i64 0,.slice none 0 0,v5]/\OwnT N a.1 v5 w
 sz:N<=w.heap.size
 len:(a.1.length:Int)<=a.2.count
 br:Blk w gr 73 [.int .i64 0,.int .i64 0,.int .i64 0,.int .i64 0,.slice none 0 0,.slice none 0 0]
def fD(b:Rs (List DT×Mk))(N0 mb:Nat)(vf vs vp vc:Value)(m:Mk)(W:World)(u:Value)(w:World):Prop:=
 ∃a,b=.ok a/\SlT9 (λc=>W.heap.size<=c) w a.1 u/\MkI w N0 mb vf vs vp vc a.2/\FrS mb W w/\CntM m a.2
theorem StC.con{W0 w w':World}{B N0 mb sb mp g:Nat}{vf vs vp vc ve d:Value}{m:Mk}{s:Sc}(h:StC W0 B N0 mb sb mp vf vs vp vc ve m s w)(l:Ext w w'){b:ByteArray}{v:Int}(f:Blk w' g 126 [d,.map (some mp),.string s.path])(i:SlT 85 RNm w' 2 (s.env++[(b,v)]) d)(k:bU v)(j:s.env.length+1<=1000000):
 StC W0 B N0 mb g mp vf vs vp vc d m (s.con b v) w':=by
 have c:=h.ext l;refine⟨c.cx,c.mk_,⟨f,i,c.sc.map⟩,⟨h.gd.at_,h.gd.w,by show(s.env++[(b,v)]).length<=_;rw[List.length_append];exact j,λe a=>?_⟩,h.c0,h.c1,h.lo⟩;rcases y8e.1 (show e∈s.env++[(b,v)] from a) with a|a
 ·exact h.gd.const e a
 ·rw[List.mem_singleton.1 a];exact k
theorem MkI.one{w:World}{N0 mb:Nat}{vf vs vp vc d g f c:Value}{m m':Mk}(h:MkI w N0 mb vf vs vp vc m)(k:MkI w N0 mb d g f c m'):d=vf/\g=vs/\f=vp/\c=vc:=by
 have e:=h.blk.symm.trans k.blk;injection e with e;injection e with e;have e:=List.cons.inj (Array.mk.inj e);have a:=List.cons.inj e.2;have b:=List.cons.inj a.2;have i:=List.cons.inj b.2;exact⟨e.1.symm,a.1.symm,b.1.symm,i.1.symm⟩
theorem yk{W0 w0:World}{B b N0 mb sb mp c gs e d gk gr:Nat}{vf vs vp vc ve:Value}{l:Bool}{x:S}{p q:Value}{m:Mk}{s:Sc}(h:StC W0 B N0 mb sb mp vf vs vp vc ve m s w0)(v:mb<w0.heap.size)
 (j:w0.heap.size<=c/\c<b) (h2:w0.heap.size<=gs/\gs<b) (h3:w0.heap.size<=e/\e<b) (r:w0.heap.size<=d/\d<b) (t:w0.heap.size<=gk/\gk<b) (u:w0.heap.size<=gr/\gr<b):PassI W0 B N0 mb sb mp s (LpI w0 b N0 mb sb c gs e d gk gr vf vs vp vc l x p q m) Prod.snd (λa m'=>(a.1,m')) (FrS mb w0) where
 ctx a w hj:=⟨vf,vs,vp,vc,ve,h.frS hj.fr hj.mk_ hj.cn⟩
 ext a w w' hj hx:=by
  obtain⟨i,f,g⟩:=hj.row;exact⟨hj.fr.trans hx.chg,hj.mk_.ext hx,hj.cn,hj.bm.ext hx,hj.bs.ext hx,hj.bx.ext hx,hj.bk.ext hx,⟨i,f.ext hx,g.later hx⟩,ad hj.sz hx.size,hj.len,hj.br.ext hx⟩
 cnt a w w' vf' vs' vp' vc' m' hj hk hk' hf hc:=by
  obtain⟨rfl,rfl,rfl,rfl⟩:=hj.mk_.one hk;obtain⟨i,f,g⟩:=hj.row;have z:=hj.len;have y:a.2.count<=m'.count:=by obtain⟨n,j,h2,-⟩:=hc;rw[j];exact h2
  exact⟨hj.fr.trans hf,hk',hj.cn.trans hc,hf.blk hj.bm (show¬c=mb by omega),hf.blk hj.bs (show¬gs=mb by omega),hf.blk hj.bx (show¬e=mb by omega),hf.blk hj.bk (show¬gk=mb by omega),
   ⟨i,hf.blk f (show¬d=mb by omega),g.chg hf (λk o=>by have:k=mb:=o;omega)⟩,ad hj.sz hf.size,by show(a.1.length:Int)<=m'.count;omega,hf.blk hj.br (show¬gr=mb by omega)⟩
 bad a w w' hj hf:=hj.fr.trans hf
theorem qb{body:Int->Mk->Rs (List DT×Mk)}:∀(n:Nat) (v:Int) (b:List DT) (m:Mk),dF (σ:=List DT×Mk) Prod.snd (λa m'=>(a.1,m')) (λv a=>do let y<-body v a.2;return(a.1++y.1,y.2)) n v (b,m)=(do let z<-eQ body n v m;return(b++z.1,z.2))
 |0,v,b,m=>by simp[dF,eQ,bind,Except.bind,pure,Except.pure]
 |n+1,v,b,m=>by
  simp only[dF,eQ,bind,Except.bind,pure,Except.pure];cases aW 1 m with
  |error e=>rfl
  |ok m1=>
   simp only[];cases body v m1 with
   |error e=>rfl
   |ok y=>
    simp only[];have:=qb (body:=body) n (v+1) (b++y.1) y.2;simp only[bind,Except.bind,pure,Except.pure] at this;rw[this];cases eQ body n (v+1) y.2 with
    |error e=>rfl
    |ok z=>simp
theorem yU(W0 w0:World)(B j N0 mb sb mp G gs y d gk gr:Nat)(vf vs vp vc ve:Value)(r:Bool)(m:Mk)(s:Sc)(x:S)(b3 Z:Value)(h:StC W0 B N0 mb sb mp vf vs vp vc ve m s w0)(c1:SlK W0 B mb w0 x.l Z)(g2:s.env.length+ao x<=1000000)
 (f9:∀z,z∈x.l->dG W0 B N0 mb vf vs vp vc r 149 (aK r) z)
 (b9:w0.heap.size<=G/\G<j) (h2:w0.heap.size<=gs/\gs<j) (h3:w0.heap.size<=y/\y<j) (f1:w0.heap.size<=d/\d<j) (k4:w0.heap.size<=gk/\gk<j) (n2:w0.heap.size<=gr/\gr<j) (b:G≠d/\gs≠d/\y≠d/\gk≠d/\gr≠d) (n7:b3.oneCell'=true)
 (v:Int) (g4:bU v) (a:List DT×Mk) (w:World) (H:LpI w0 j N0 mb sb G gs y d gk gr vf vs vp vc r x b3 Z m a w):
 Calls Tryz.prog 185 #[.int .i64 v,.pointer (some ⟨gs,0,none⟩),.pointer (some ⟨y,0,none⟩),.pointer (some ⟨d,0,none⟩),.pointer (some ⟨G,0,none⟩),.pointer (some ⟨gk,0,none⟩)] w
  (RunsP (do let z<-bC r (s.con x.name v) x.l a.2;return(a.1++z.1,z.2)) (λj8 e3 w'=>e3=aO/\LpI w0 j N0 mb sb G gs y d gk gr vf vs vp vc r x b3 Z m j8 w') (FrS mb w0)):=by
 have i4:=Hd h;have i9:=Hd c1;have i6:=Hd f9;have k:=Hd H;have n4:=h.mk_.blk.lt;have l6:=H.sz;obtain⟨o1,f6,c7⟩:=H.row;obtain⟨b1,b2,rfl⟩:=c7.form;have e6:=Hd f6;have e9:=Hd c7;have M:=Hd (h.frS H.fr H.mk_ H.cn);have l5:s.env.length+1+aa ao x.l<=1000000:=by rw[bW] at g2;omega
 have k7:=Hd g4;have n8:=c1.oneCell;have o0:=M.o.sc.env.oneCell;have j9:=cellAt (H.bs.cell 0);have k0:=cellAt (H.bx.cell 1);have k1:=cellAt (M.o.sc.blk.cell 0);have k2:=cellAt (M.o.sc.blk.cell 1);have k3:=cellAt (M.o.sc.blk.cell 2);have j6:=Hd (λ(w':World) (l7:Ext w w')=>iz s ve (.map (some mp)) x.name v w' ((M.o.ext l7).sc.env) rfl zO);clear h c1 f9 H f6 c7 g2 g4
 go_in
 go_wp2_with fail
 refine bD 8 (W:=w) (Ext) (fh w mp s.path (s.env++[(x.name,v)]) [.pointer (some ⟨sb,0,none⟩),.pointer (some ⟨sb,0,none⟩),.agg #[ve,.map (some mp),.string s.path],.pointer (some ⟨y,1,none⟩),.string x.name,.int .i64 v,undef,undef]) (λ_ _=>False) (λ_=>true) zK (bo) zK zK ?_ (af _) (λn6 v w w' h d0=>vi h d0) ?_ (λF b7 w b c9=>c9.elim) ?_
 ·exact⟨rfl,rfl,rfl,rfl,rfl,rfl,rfl,rfl,trivial⟩
 ·refine⟨?_,?_,?_,?_,?_,?_,?_,?_,trivial⟩;rotate_left 6
  ·intro F g R b f;obtain⟨u,rfl⟩:=ae R;have d8:=ab b 2 10 zK rfl;simp[fh] at d8;have e0:=ab b 4 12 zK rfl;simp[fh] at e0;have e1:=ab b 5 13 zK rfl;simp[fh] at e1;clear b f;go_simp;refine(j6.o u.w u.ext).mono ?_;rintro e e4 ⟨L,rfl,E,g7⟩;have b6:=Hd E;clear E;go_simp;first|exact⟨_,rfl,g7,L,rfl,b6.o⟩|exact⟨g7,L,rfl,b6.o⟩|exact⟨_,rfl,L,rfl,b6.o⟩
  ·intro F g R b f;obtain⟨u,rfl⟩:=ae R;clear b f;obtain⟨N,O,g6,f5⟩:=eS u.w (.slice none 0 0) (.map none) (.string ⟨#[]⟩) 126;have k5:=O.symm;have e8:=Hd (aq g6 f5);clear O g6 f5;go_simp;first|exact⟨_,rfl,e8.o.1,_,rfl,u.ext.size,e8.o.2⟩
  all_goals
   intro F g R b f;obtain⟨u,rfl⟩:=ae R;try (have d7:=ab b 0 8 zD rfl;simp[fh] at d7)
   try (have m2:=ab b 1 9 zD rfl;simp[fh] at m2)
   try (have d9:=ab b 3 11 zD rfl;simp[fh] at d9)
   have m4:=ah f 1 zK;simp at m4;have e2:=ah f 2 zK;simp at e2;have m3:=ah f 0 zK;simp at m3;clear b f;exact zA
 ·intro F g c6;obtain⟨b8,rfl,R,Y,D⟩:=c6.fin (n:=24) rfl;obtain⟨u,rfl⟩:=ae R;have d2:=D 0 zK;have d3:=D 1 zK;have d4:=D 2 zK;have U:=D 3 zK;have d5:=D 4 zK;have d6:=D 5 zK;obtain⟨L,g9,c4⟩:=Y 6 14 rfl rfl;obtain⟨t,h5,a7,a4⟩:=Y 7 7 rfl rfl;clear Y D;simp at d2 d3 d4 U d5 d6;simp only[List.drop_succ_cons,List.drop_zero];simp[List.range,List.range.loop,d2,d3,d4,U,d5,d6,g9,h5];clear d2 d3 d4 U d5 d6 g9 h5;obtain⟨o6,o7,o8⟩:=a4.free3;obtain⟨o3,o4,o5⟩:=a4.get3;obtain⟨q,a2⟩:∃q,q=((u.w.setCell ⟨t,0,none⟩ L).setCell ⟨t,1,none⟩ (.map (some mp))).setCell ⟨t,2,none⟩ (.string s.path):=⟨_,rfl⟩;have n3:=a2.symm;have d1:Ext w q:=by rw[a2];exact((u.ext.setCell a7 _).setCell a7 _).setCell a7 _
  have f3:Blk q t 126 [L,.map (some mp),.string s.path]:=by rw[a2];exact a4.store3 _ _ _
  have f7:Chg (λc=>c=t) u.w q:=by rw[a2];exact(((dk (X:=λc=>c=t) (bg _ u.w) (p:=⟨t,0,none⟩) rfl _).setCell (p:=⟨t,1,none⟩) rfl _).setCell (p:=⟨t,2,none⟩) rfl _)
  have f8:SlT 85 RNm q 2 (s.env++[(x.name,v)]) L:=c4.keep (.inr (.inr rfl)) (f7.kp (λc P _=>⟨_,P▸a4.tag,by unfold dx;decide⟩)) (λ_ _ _ h=>h);have n9:=c4.oneCell;have i5:=Hd (M.o.con d1 f3 f8 k7.o zO);have a0:=Hd d1;clear a2 d1 f3 f7 f8 a4 c4 a7;go_wp2_with fail
  clear j9 k0 k1 k2 k3;refine eO 7 (eqS [6] [.pointer (some ⟨d,5,none⟩),.slice b1 a.1.length b2,.pointer (some ⟨mb,0,none⟩),.pointer (some ⟨y,3,none⟩),Z,.bool r,undef]) (phJ 6 21 (λb4=>Ext q b4) (fD (bC r (s.con x.name v) x.l a.2) N0 mb vf vs vp vc a.2 q)) (λb7 b4=>∃a1,(do let z<-bC r (s.con x.name v) x.l a.2;return(a.1++z.1,z.2):Rs (List DT×Mk))=.error a1/\b7=aR a1/\FrS mb q b4) zK (λ_ _ _ _ h=>h) zK zK ?_ ((af _).drew) ?_ (λF b7 b4 b c9=>by
   obtain⟨a1,C,rfl,d0⟩:=c9;obtain⟨tA,n0⟩:=F;simp only at b;subst b;exact⟨rfl,.no C ((k.o.fr.trans a0.o.chg).trans d0)⟩) ?_
  ·simp[GuardsMet]
  ·refine⟨?_,?_,?_,?_,?_,?_,?_,trivial⟩;rotate_left 6
   ·refine StepI.turn rfl zK ?_;intro F g K b f;have d8:=ab b 2 17 zK rfl;simp[eqS] at d8;have m8:=ah f 7 zK;simp at m8;have e0:=ab b 4 19 zK rfl;simp[eqS] at e0;have e1:=ab b 5 20 zK rfl;simp[eqS] at e1;clear b f;have j7:=Hd (io W0 B N0 mb t mp vf vs vp vc L a.2 (s.con x.name v) r x.l Z g (i5.o.ext K) ((i9.o.frS k.o.fr).frS (a0.o.trans K).chg) i6.o (by show(s.env++[(x.name,v)]).length+_<=_;rw[List.length_append];exact l5));have b5:=Hd K;clear K;go_simp;refine j7.o.mono ?_;rintro e e4 (⟨i,e3,C,rfl,E,a5,Q,V⟩|⟨a1,C,rfl,Q⟩);rotate_left
    ·exact⟨rfl,a1,by rw[C];rfl,rfl,b5.o.chg.trans Q⟩
    have j3:=Hd (show fD (bC r (s.con x.name v) x.l a.2) N0 mb vf vs vp vc a.2 q e3 e4 from⟨i,C,SlT9.turn E (bg (λ_=>False) e4) (λc _ g8=>⟨id,ad b5.o.size g8⟩),a5,b5.o.chg.trans Q,V⟩);clear C E a5 Q V;go_simp;first|exact⟨_,rfl,trivial,j3.o⟩
   all_goals
    refine StepI.plain (S:=[6]) (T:=[21]) (I:=FrS mb q) gP (hR (λ_ h=>h.chg) (λ_ _ h=>by obtain⟨i,b9,h2,h3,f1,k4⟩:=h;exact f1)) zD zD ?_;intro F g f2 b f;try (have d7:=ab b 0 15 zD rfl;simp[eqS] at d7)
    try (have d9:=ab b 3 18 zD rfl;simp[eqS] at d9)
    have m5:=ah f 3 zK;simp at m5;have m6:=ah f 4 zK;simp at m6;have e2:=ah f 2 zK;simp at e2;have m7:=ah f 5 zK;simp at m7;clear b f;have a3:FrS mb w g:=a0.o.chg.trans f2;have l8:=(a3.blk e6.o (show¬d=mb by omega)).cell 5;have l9:=(a3.blk k.o.bm (show¬G=mb by omega)).cell 0;have m0:=(a3.blk k.o.bx (show¬y=mb by omega)).cell 3;have m1:=(a3.blk k.o.bk (show¬gk=mb by omega)).cell 0;try simp only[List.getElem?_cons_succ,List.getElem?_cons_zero] at l8 l9 m0 m1
    clear f2 a3;exact zB
  ·intro F g c6;obtain⟨b8,rfl,Y,D,K⟩:=c6.fin (n:=24) rfl;replace K:(fD (bC r (s.con x.name v) x.l a.2) N0 mb vf vs vp vc a.2 q) (b8 21) g:=K;have U:=D 3 zK;have h0:b8 16=.slice b1 a.1.length b2:=Y 1 16 rfl rfl;clear Y D;obtain⟨i,C,E,a5,Q,V⟩:=K;obtain⟨h6,h7,a8⟩:=E.form;obtain⟨a9,l4⟩:∃a9,a9=i.1.length:=⟨_,rfl⟩;rw[<-l4] at a8;have h1:=a8;rw[a8] at E;clear a8;have A:FrS mb w g:=a0.o.chg.trans Q;have n5:w.heap.size<=q.heap.size:=a0.o.size;have j2:=Hd (e9.o.chg A (λc P=>by have:c=mb:=P;omega));have i2:=Hd (A.blk e6.o (show¬d=mb by omega));have h9:=Hd (A.blk k.o.bm (show¬G=mb by omega));have i1:=Hd (A.blk k.o.bs (show¬gs=mb by omega));have i3:=Hd (A.blk k.o.bx (show¬y=mb by omega));have h8:=Hd (A.blk k.o.bk (show¬gk=mb by omega));have i0:=Hd (A.blk k.o.br (show¬gr=mb by omega));have j5:=Hd (show SlT9 (λc=>j<=c/\(Value.slice b1 a.1.length b2).ownBlock≠some c) g i.1 (.slice h6 a9 h7) from SlT9.turn E (bg (λ_=>False) g) (λc P g8=>⟨id,zO,λe=>by have:=(e9.o.lt c e).2;omega⟩));have j1:=Hd a5;have e7:=Hd (k.o.cn.trans V);have i7:=Hd (k.o.fr.trans A);have j4:=Hd (show(do let z<-bC r (s.con x.name v) x.l a.2;return(a.1++z.1,z.2):Rs (List DT×Mk))=.ok (a.1++i.1,i.2) by rw[C];rfl);have f4:j<=g.heap.size:=ad l6 A.size;have k8:=k.o.len;have k9:=yZ C;have l0:=M.o.c0;have l1:i.2.count<=65536:=by obtain⟨n,b9,-,h2⟩:=V;rw[b9];exact h2
   have l2:a.1.length<=1000000000:=by omega
   have l3:i.1.length<=1000000000:=by omega
   have j0:=Hd (show((a.1++i.1).length:Int)<=i.2.count by rw[List.length_append];omega);clear k8 k9 l0 l1;clear C E a5 V A Q;simp at U;simp only[List.drop_succ_cons,List.drop_zero];simp[List.range,List.range.loop,U,h0,h1];clear U h0 h1
   go_wp2_with (first
    |(at_builtin;go_loud (
      refine uX rfl _ _ 68 rfl j _ 80 kB underlying68 rfl zD a.1 i.1 (.slice b1 a.1.length b2) (.slice h6 a9 h7) rfl j2.o rfl j5.o l2 l3 f4 ?_;intro o2 e5 c8 g0 g1;have c2:Chg (λc=>j<=c) g e5:=Chg.grown (bg _ g) g0 (λt k6 _=>g1 t k6);have a6:=c2.blk i2.o zO;have m9:=a6.cell 5;have n1:=a6.frozen 5;simp only[List.getElem?_cons_succ,List.getElem?_cons_zero] at m9;obtain⟨f0,h4,g5⟩:=c8.form;obtain⟨b0,g3⟩:∃b0,b0=(a.1++i.1).length:=⟨_,rfl⟩;rw[<-g3] at g5;subst g5;obtain⟨N,O⟩:∃N,N=e5.setCell ⟨d,5,none⟩ (.slice f0 b0 h4):=⟨_,rfl⟩;have k5:=O.symm;have c3:Chg (λc=>c=d) e5 N:=by rw[O];exact dD _ _ _ _
      have J:Chg (λc=>j<=c\/c=d) g N:=(c2.mono (λ_ _ h=>.inl h)).trans (c3.mono (λ_ _ h=>.inr h));have c5:FrS mb w0 N:=i7.o.trans_new J (λc P=>by omega)
      have i8:=Hd (show LpI w0 j N0 mb sb G gs y d gk gr vf vs vp vc r x b3 Z m (a.1++i.1,i.2) N from
       ⟨c5,i4.o.mk_.back c5 j1.o J zO e7.o,e7.o,J.blk h9.o zO,J.blk i1.o zO,J.blk i3.o zO,J.blk h8.o zO,
        ⟨_,by rw[O];simpa using a6.set_ 5 (.slice f0 b0 h4),c8.chg c3 (λc P=>by have:c=d:=P;omega)⟩,ad f4 J.size,j0.o,J.blk i0.o zO⟩)
      clear c8 g0 g1 c2 a6 O c3 J c5 g3)))
   go_end0
   exact .ok j4.o ⟨rfl,i8.o⟩
