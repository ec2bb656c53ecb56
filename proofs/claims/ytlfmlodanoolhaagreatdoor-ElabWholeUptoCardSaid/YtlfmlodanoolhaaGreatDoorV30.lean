import Derived.Test.YtlfmlodanoolhaaGreatDoorV29
import Derived.Test.YtlfmlodanoolhaaGreatDoorV28
set_option linter.all false
set_option maxRecDepth 200000
set_option maxHeartbeats 0
namespace Go.Proofs.YtlfmlodanoolhaaGreatDoor
open Go Go.RowKit Go.Proofs.Tryz
attribute [local go_sem] bc
theorem rg(m:Mdl)(h:aa aj m.items<=10000000):(cg m).length<=10000000:=by
 have a:=rk (bX m.items) [];have b:=rK (bJ m.items);rw[qc] at b;have c:=rM m.items;unfold cg;simp only[List.length_nil] at a;omega
theorem AK:Enters Tryz.prog 101:=⟨λ_ _=>by kernel_rfl⟩
theorem wj(b:ByteArray->Prop)(s:ByteArray)(p:Addr)(mp:Nat)(w:World)(h:w.cell? p=some (.map (some mp)))(c:SetB w mp b):
 Calls Tryz.prog 101 #[.string s,.pointer (some p)] w λe g=>e=.returned (.bool (yes (¬b s)))/\Ext w g:=by
 have d:=c.ask underlying119 underlying9 iZ s;by_cases a:b s
 ·rw[yes_iff.2 a] at d;rw[yes_no.2 (show¬¬b s from λf=>f a)];clear a c
  go_in
  go_wp2
  go_ret;exact⟨rfl,af _⟩
 ·rw[yes_no.2 a] at d;rw[yes_iff.2 a];clear a c
  go_in
  go_wp2
  go_ret;exact⟨rfl,af _⟩
theorem BD:Enters Tryz.prog 100:=⟨λ_ _=>by kernel_rfl⟩
theorem yH(B:Nat)(m:Mdl)(a:List ByteArray)(p:Addr)(mp:Nat)(w:World)(D:List Value)(J:w.cell? p=some (.map (some mp)))(q:p.block<w.heap.size)(j:SetB w mp (λs=>s∈a))(F:RM w B m D)(E:B<=w.heap.size)
 (t:aa aj m.items<=10000000):Calls Tryz.prog 100 #[.agg D.toArray,.pointer (some p)] w λe u=>e=.returned (.bool (yes (ew a m)))/\Ext w u:=by
 have A:=Hd F;have a4:=rg m t;obtain⟨T,U,V,rfl,K,L,H⟩:=F;have a6:=K.oneCell;have a7:=L.oneCell;have a8:=H.oneCell;obtain⟨Y,i,a3,N,S,Z,a0,a1,a2⟩:=en w (.string m.name) T U V 30;have b:=Hd (N.trans i.ext);have R:i.w.cell? p=some (.map (some mp)):=(b.o.cell q).trans J;have r:SetB i.w mp (λs=>s∈a):=j.kept b.o.gr zS;have G:=r.ask underlying119 underlying9 iZ m.name;have O:=Hd r;have z:=Hd (aq R (aQ q b.o.size));have a5:=@hmf_ Tryz.prog;have y:=Hd (rf B m i.w _ (A.o.ext b.o E) (ad E b.o.size) t);clear K L H N S j J q r A t;by_cases c:m.name∈a
 ·rw[yes_iff.2 c] at G;rw[yes_no.2 (show¬ew a m from λf=>f.1 c)];clear c
  go_in
  go_wp2
  go_ret;exact⟨rfl,b.o⟩
 ·rw[yes_no.2 c] at G
  go_in
  go_wp2_with fail
  go_at_call 62;refine y.o.mono ?_;rintro _ W ⟨v,rfl,I,k⟩
  have h:=Hd (kQ 101 AK (λs=>¬s∈a) (.pointer (some p)) (cg m) W
   (λx _ u M=>wj (λs=>s∈a) x p mp u (((k.trans M).cell z.o.2).trans z.o.1) (O.o.kept (k.trans M).gr zS)) v (SStr.of_row I) zO)
  have C:=Hd (b.o.trans k);clear I k y;by_cases d:∃s,s∈cg m/\¬s∈a
  ·rw[yes_iff.2 d] at h;have n:=Hd (yes_no.2 (show¬ew a m from λf=>by obtain⟨s,P,Q⟩:=d;exact Q (f.2 s P)));clear d c;go_wp2_with fail
   go_at_call 61;refine h.o.mono ?_;rintro _ X ⟨rfl,g⟩;have l:=Hd (C.o.trans g);clear g
   go_wp2
   go_ret;exact⟨by rw[n.o];rfl,l.o⟩
  ·rw[yes_no.2 d] at h;have n:=Hd (yes_iff.2 (show ew a m from⟨c,λs j=>Classical.byContradiction λf=>d ⟨s,j,f⟩⟩));clear d c;go_wp2_with fail
   go_at_call 61;refine h.o.mono ?_;rintro _ X ⟨rfl,g⟩;have l:=Hd (C.o.trans g);clear g
   go_wp2
   go_ret;exact⟨by rw[n.o];rfl,l.o⟩
theorem vb{P:Program}{w:World}{ops:Array Oper}{l:List Oper}{o:Oper}{a:Act}{Q:Exit->Act->World->Prop}(C:o.guard=none)(s x:Operand)(t:TypeId)
 (F:o.op=.call {callee:=.builtin .append,args:=#[s,x],argTypes:=#[t,t]})
 (base:Nat) (e:TypeId) (i:TypeInfo) (z:Value) (size bytes:Nat) (ht:P.underlying t=some (.slice e)) (hi:P.info? e=some i) (M:i.zero=some z)
 (J:i.size=size) (A:i.bytes=bytes) (N:z.cells.size=size) (K:0<size) (u:bytes<=1000)
 (v:Value) (n:Nat) (xs:List Value) (I:a.eval s=v) (G:w.ownsRow base e size v n xs)
 (g:Addr) (j:Nat) (b:List Value) (L:a.eval x=.slice (some g) 1 j) (D:b.length=1*size) (E:∀k d,b[k]? =some d->w.cell? (g.add k)=some d) (m:∀d∈b,d.oneCell'=true)
 (R:n<=1000000000) (y:base<=w.heap.size)
 (h:∀f c,c.ownsRow base e size f (n+1) (xs++b)->w.grownBy c v.ownBlock->wpList P ops Q l (a.put o.dst f) c):wpList P ops Q (o::l) a w:=
 wpList_plain C λ_ r=>by
  subst J;have B:(n+1)*bytes<=140737488355328:=by
   calc (n+1)*bytes<=1000000001*1000:=Nat.mul_le_mul zO u
    _<=140737488355328:=by decide
  obtain⟨f,c,H,p,q,O⟩:=run_append_own (P:=P) w base t o.type e i z i.size bytes ht hi M rfl A N K v n xs G g 1 j b D E m (by simp only[maxLen];omega) B y;unfold Oper.wp execOp;simp only[F,resolve,invoke,builtin,Sem.run_bind,Sem.run_pure,Result.andThen_ok,List.map_toArray,List.map_cons,List.map_nil,I,L,H];exact r _ _ (h f c p q)
theorem mF{X:World}{base k:Nat}{a:Value}{xs:List Value}(h:X.ownsRow base 9 1 a k xs):∃b c,a=.slice b k c:=by
 rcases h.2 with⟨rfl,d⟩|⟨g,e,f,rfl,_⟩
 ·exact⟨none,0,by rw[d]⟩
 ·exact⟨_,_,rfl⟩
theorem oc{X:World}{lb base k:Nat}{t:TypeId}{a:Value}{b xs:List Value}(ht:t≠9)(g:Blk X lb t b)(h:X.ownsRow base 9 1 a k xs):some lb≠a.ownBlock:=by
 rcases im h with c|⟨j,i,d,f⟩
 ·rw[c];simp
 ·intro e;rw[d] at e;cases e;have:=(show X.heap[_]? =_ from g).symm.trans f;simp at this;exact ht this.2
theorem oJ{X:World}{mp base k:Nat}{b:ByteArray->Prop}{a:Value}{xs:List Value}(i:SetB X mp b)(h:X.ownsRow base 9 1 a k xs):some mp≠a.ownBlock:=by
 obtain⟨m,j,g,-⟩:=i;rcases im h with c|⟨n,l,d,f⟩
 ·rw[c];simp
 ·intro e;rw[d] at e;cases e;have:=g.symm.trans f;cases this
theorem kf{X:World}{lb mp:Nat}{t:TypeId}{b:List Value}{a:ByteArray->Prop}(d:Blk X lb t b)(f:SetB X mp a):some mp≠some lb:=by
 intro e;cases e;obtain⟨h,g,c,-⟩:=f;have:=c.symm.trans (show X.heap[_]? =_ from d);cases this
structure OInv(w:World)(fb db mp:Nat)(vf:Value)(out:List ByteArray)(N:ByteArray->Prop)(v:Value)(X:World):Prop where
 row:X.ownsRow w.heap.size 9 1 v out.length (out.map .string)
 fbk:Blk X fb 24 [vf]
 dbk:Blk X db 119 [.map (some mp)]
 set:SetB X mp N
 ext:Ext w X
theorem Ba{X Y:World}{base k:Nat}{v:Value}{xs:List Value}(h:X.ownsRow base 9 1 v k xs)(c:Ext X Y):Y.ownsRow base 9 1 v k xs:=by
 refine h.kept c.gr ?_;rcases im h with a|⟨e,d,b,-⟩
 ·exact .inl a
 ·right;rw[b];simp
theorem OInv.later{w X Y:World}{d c mp:Nat}{f:Value}{e:List ByteArray}{b:ByteArray->Prop}{v:Value}(h:OInv w d c mp f e b v X)(a:Ext X Y):OInv w d c mp f e b v Y:=
 ⟨Ba h.row a,h.fbk.ext a,h.dbk.ext a,h.set.kept a.gr zS,h.ext.trans a⟩
theorem OInv.push{w X Y:World}{d c mp:Nat}{j:Value}{b:List ByteArray}{g:ByteArray->Prop}{v i:Value}{s:ByteArray}(h:OInv w d c mp j b g v X)(a:X.grownBy Y v.ownBlock)
 (m:Y.ownsRow w.heap.size 9 1 i (b.length+1) (b.map .string++[.string s])):OInv w d c mp j (b++[s]) g i Y:=by
 refine⟨by rw[List.length_append,List.map_append];exact m,(a.block d h.fbk.lt (oc zD h.fbk h.row)).trans h.fbk,(a.block c h.dbk.lt (oc zD h.dbk h.row)).trans h.dbk,h.set.kept a (oJ h.set h.row).symm,h.ext.grown a λn e=>?_⟩;rcases h.row.2 with⟨f,_⟩|⟨k,o,p,f,l,_⟩
 ·rw[f] at e;cases e
 ·rw[f] at e;obtain rfl:k=n:=by simpa [Value.ownBlock] using e
  exact l
theorem OInv.add{w X:World}{c b mp:Nat}{f:Value}{d:List ByteArray}{g N':ByteArray->Prop}{v:Value}(h:OInv w c b mp f d g v X)(i:w.heap.size<=mp)(o:Obj)(j:SetB (aH X mp o) mp N'):OInv w c b mp f d N' v (aH X mp o):=by
 have a:=gl X mp o;exact⟨h.row.kept a (.inr (oJ h.set h.row).symm),(a.block c h.fbk.lt (kf h.fbk h.set).symm).trans h.fbk,(a.block b h.dbk.lt (kf h.dbk h.set).symm).trans h.dbk,j,h.ext.grown a λk e=>by cases e;exact i⟩
theorem jH{f:List Mdl}{b:List ByteArray}{i:Nat}(h:i<f.length)(c:ew b f[i])(h2:∀a,∀e:a<f.length,a<i->¬ew b f[a]):dq f b=some f[i]:=by
 unfold dq;rw[List.find?_eq_some_iff_getElem];exact⟨yes_iff.2 c,i,h,rfl,λa d=>by rw[yes_no.2 (h2 a zO d)];rfl⟩
theorem ua{f:List Mdl}{a:List ByteArray}(h:∀x,x∈f->¬ew a x):dq f a=none:=by
 unfold dq;exact List.find?_eq_none.2 λx c b=>h x c (yes_iff.1 b)
theorem yA(B:Nat)(f:List Mdl)(w:World)(b9:Value)(Z:Sl (RM w B) w B 4 f b9)(V:B<=w.heap.size)(d2:f.length<=1000000000)(a8:∀u,u∈f->aa aj u.items<=10000000):
 Calls Tryz.prog 64 #[.agg #[b9]] w λe y=>∃v,e=.returned v/\y.ownsRow w.heap.size 9 1 v (cY f).length ((cY f).map .string)/\Ext w y:=by
 have U:=Hd Z;obtain⟨l,m,rfl,c8,b1⟩:=Z;have D:=Hd b1;obtain⟨c,a0,O,a2⟩:=aL w (.slice l f.length m) 24;obtain⟨b,p⟩:∃b,b=c.alloc (.map #[] 0):=⟨_,rfl⟩;have P:Ext c b:=by rw[p];exact aE _ _
 have b2:SetB b c.heap.size (λ_=>False):=by rw[p];exact SetB.new c
 obtain⟨c2,a1,b8,r⟩:=aL b (.map none) 119;have f1:=r.get1;have f2:=r.free1;obtain⟨k,q⟩:∃k,k=c2.setCell ⟨b.heap.size,0,none⟩ (.map (some c.heap.size)):=⟨_,rfl⟩;have a3:Blk k b.heap.size 119 [.map (some c.heap.size)]:=by rw[q];exact r.store1 _
 have t:Ext b k:=by rw[q];exact b8.setCell (ac _) _
 have d1:w.heap.size<=c.heap.size:=O.size;obtain⟨d8,e4⟩:∃n,n=w.heap.size:=⟨_,rfl⟩
 have S:=Hd (show OInv w w.heap.size b.heap.size c.heap.size (.slice l f.length m) [] (λs=>s∈([]:List ByteArray)) (.slice none 0 0) k from
  ⟨World.ownsRow_nil _ _ _ _,(a2.ext P).ext t,a3,(b2.kept t.gr zS).congr (λs=>by simp),(O.trans P).trans t⟩)
 have d9:=a0.symm;have e0:=p.symm;have e1:=a1.symm;have e2:=q.symm;have R:=Hd a8;have e8:=@run_makeMap Tryz.prog;have e7:=@hmf_ Tryz.prog;clear c8 b1 O a2 P b2 b8 r a3 t a0 p a1 q a8
 go_in
 go_wp2_with fail
 go_loopw [3] (λv wr=>∃a,OInv w w.heap.size b.heap.size c.heap.size (.slice l f.length m) a (λs=>s∈a) v wr/\Ordered f a/\dH f (f.length - a.length) a=cY f) (λv _=>match v with|.slice _ n _=>f.length - n|_=>0)
 case atStart=>exact⟨[],S.o,oX f,rfl⟩
 case round=>
  obtain⟨a,hinv,K,a6⟩:=hrel;obtain⟨d5,d6,rfl⟩:=mF hinv.row;have C:=Hd K;have A:=Hd a6;have e6:=K.le;have c7:=hinv.fbk.get1;have a5:=hinv.dbk.get1;have h:=Hd hinv;have a9:=hinv.dbk.lt
  have E:=Hd (oh 100 BD (λu=>ew a u) (.pointer (some ⟨b.heap.size,0,none⟩)) B f wr
   (λx g y c3 N J c5=>yH B x a ⟨b.heap.size,0,none⟩ c.heap.size y c3 (N.at_ a5) (aQ a9 N.size) (h.o.set.kept N.gr zS) J c5 (R.o x g))
   (.slice l f.length m) (U.o.extRM h.o.ext V) (ad V h.o.ext.size) d2)
  clear hinv K a6 a9 U R S;go_wp2_with fail
  go_at_call 65;refine E.o.mono ?_;rintro _ g7 ⟨g,(⟨Q,G,j,H,rfl⟩|⟨j,rfl⟩)⟩
  ·obtain⟨F,rfl⟩:=ae g;obtain⟨d7,o,f8,f9,g1,g3,rfl,e3,J,Y,f3,f4,f5,f6⟩:=D.o.open4 G;obtain⟨g0,g2,g4,a4,-,-,-⟩:=J;simp only[List.cons.injEq,and_true] at a4;obtain⟨rfl,rfl,rfl,rfl⟩:=a4;have I:=Hd (λ(X:World) (c6:Ext w X)=>(Y.ext c6).get4.1);have c4:=I.o F.w (h.o.ext.trans g);have d:=Hd (h.o.later g);have c9:=d.o.fbk.get1;have L:=C.o.step (jH G j H);have d0:=L.le;rw[List.length_append,List.length_singleton] at d0;have T:=Hd (aq L ((Av C.o (jH G j H)).symm.trans A.o));have e9:decide ((Q:Int)<0)=false:=decide_eq_false zO;have e5:(Q:Int)<(f.length:Nat):=by omega
   obtain⟨d4,b5,b7,b6,b4⟩:=info_parts nz;clear Y g j H E D C A L;generalize f[Q].name=nm at*;go_wp2_with (at_builtin;refine vb rfl _ _ 104 rfl w.heap.size 9 d4 (.string ⟨#[]⟩) 1 16 underlying104 b5 b7 b6 b4 rfl zD zD (.slice d5 a.length d6) a.length (a.map .string) rfl (d.o.row.alloc _) ⟨F.w.heap.size,0,none⟩ 1 [.string nm] rfl rfl (cell_one_new _ _ _) zV zO (by have:=d.o.ext.size;simp;omega) ?_;intro f7 z M a7)
   obtain⟨g5,g6,rfl⟩:=mF M;have i:=Hd ((d.o.later (aE F.w _)).push a7 M);have g8:=λe:Later z=>e.ext.at_ i.o.dbk.get1
   have g9:=λe:Later z=>e.ext.at_ i.o.fbk.get1
   have h0:=λe:Later z=>I.o e.w (i.o.ext.trans e.ext)
   clear M a7 I b5 b7 b6 b4 d h a5 c7 c4 c9;refine fc (W:=z) zK rfl zK zK (af _) ?_;dsimp only[List.dropLast]
   repeat (go_big_quiet_step (fail))
   refine wpQuiet_nil ?_;intro e;obtain⟨d3,f0,b3⟩:=(i.o.set.kept e.ext.gr zS).add underlying119 underlying9 nm;have c1:=Hd ((i.o.later e.ext).add d1 d3 (b3.congr (N':=λs=>s∈a++[nm]) (λs=>by simp)));clear b3 i;go_wp2_with fail
   go_roundw;case rel=>exact⟨a++[nm],c1.o,T.o.1,T.o.2⟩
   case measure=>simp only;omega
  ·have b0:=ua j;have c0:=Hd (show a=cY f from by rw[<-A.o,Au _ b0]);have d:=Hd (h.o.later g);clear b0 j g E D;go_wp2_with fail
   go_ret;exact⟨_,rfl,by rw[<-c0.o];exact d.o.row,d.o.ext⟩
