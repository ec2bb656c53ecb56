import Derived.Defers
import Derived.Recover
import Derived.Test.YtlfmlodanoolhaaGreatDoorV18
set_option linter.all false
set_option maxRecDepth 200000
set_option maxHeartbeats 0
namespace Go.Proofs.YtlfmlodanoolhaaGreatDoor
open Go Go.RowKit Go.Proofs.Tryz
theorem jv(p:Addr)(x:Bool)(b:List PanicEntry)(w:World)(c:w.cell? p=some (.bool x))(h:w.frozen? p=false)(a:p.block<w.heap.size):
 CallsD Tryz.prog 92 #[.pointer (some p)] (.panicking (gy::b)) w λe j k=>
  e=.returned (.tuple #[])/\j=.panicking ({gy with recovered:=true}::b)/\k=(w.alloc (.cells #[] 146)).setCell p (.bool false):=by
 have d:(w.alloc (.cells #[] 146)).cell? p=some (.bool x):=(aE w _).cell a|>.trans c;have i:(w.alloc (.cells #[] 146)).frozen? p=false:=(aE w _).frozen a|>.trans h;have f:∀w:World,(Instr.typeAssert (.iface 146 (.agg #[])) 20 146 true).run Tryz.prog w=.ok (.tuple #[.agg #[],.bool true]) w:=λ_=>by kernel_rfl
 unfold gy;refine callsD_of_wpS func92 rfl λm l g=>?_
 apply wpS_seq;apply wpS_region;simp[wpOpsS,go_sem,recoverD,g,ntmps92,Exit.thenS,f];apply wpS_seq;apply wpS_region;simp[wpOpsS,go_sem,Exit.thenS];refine wpS_cond (t:=true) (by simp[Act.eval,Array.replicate]) ?_;simp only[if_true];apply wpS_region;simp[wpOpsS,go_sem,d,i,bodyPostS,results,results92]
theorem zz(p:Addr)(w:World):
 CallsD Tryz.prog 92 #[.pointer (some p)] .returning w λe d f=>e=.returned (.tuple #[])/\d=.returning/\f=w.alloc (.cells #[] 146):=by
 have b:∀w:World,(Instr.typeAssert .nilIface 20 146 true).run Tryz.prog w=.ok (.tuple #[.agg #[],.bool false]) w:=λ_=>by kernel_rfl
 refine callsD_of_wpS func92 rfl λa g c=>?_
 apply wpS_seq;apply wpS_region;simp[wpOpsS,go_sem,recoverD,c,ntmps92,Exit.thenS,b];apply wpS_seq;apply wpS_region;simp[wpOpsS,go_sem,Exit.thenS];refine wpS_cond (t:=false) (by simp[Act.eval,Array.replicate]) ?_;simp only[Bool.false_eq_true,if_false];refine wpS_of_wp (wp_skip ?_);cases a
 simp_all [bodyPostS,results,results92]
attribute [local go_sem] bc
def bI(m:Mdl):List ByteArray:=m.params.map Bnd.name++m.ports.map Prt.name
theorem zZ{m:Mdl}{k:Nat}(a:k<m.params.length)(h:k<(bI m).length):(bI m)[k]=m.params[k].name:=by
 have:(bI m)[k]? =some m.params[k].name:=by
  unfold bI;rw[List.getElem?_append_left (by simpa using a),List.getElem?_map,List.getElem?_eq_getElem a];rfl
 exact(List.getElem_eq_iff h).2 this
theorem xM{m:Mdl}{k:Nat}(a:k<m.ports.length)(h:m.params.length+k<(bI m).length):(bI m)[m.params.length+k]=m.ports[k].name:=by
 have:(bI m)[m.params.length+k]? =some m.ports[k].name:=by
  unfold bI;rw[List.getElem?_append_right zS,List.length_map,Nat.add_sub_cancel_left,List.getElem?_map,List.getElem?_eq_getElem a];rfl
 exact(List.getElem_eq_iff h).2 this
theorem oy{l:List ByteArray}{k:Nat}(g:k<l.length):(l.take (k+1)).Nodup↔(l.take k).Nodup/\¬l[k]∈l.take k:=by
 rw[List.take_succ_eq_append_getElem g,List.nodup_append];constructor
 ·rintro⟨a,-,f⟩;exact⟨a,λc=>f _ c _ zS rfl⟩
 ·rintro⟨a,d⟩;exact⟨a,zS,λh ha i b e=>by simp at b;subst b;exact d (e▸ha)⟩
theorem ox{l:List ByteArray}{k:Nat}(h:l.Nodup):(l.take k).Nodup:=by
 rw[<-List.take_append_drop k l,List.nodup_append] at h;exact h.1
theorem rightM_iff{m:Mdl}:dV m↔(bI m).Nodup/\TOK (λs=>s∈bI m) m.items/\bf (λs=>s∈bI m\/s∈ap m.items) m.items:=by
 have n:∀s,s∈hu m↔s∈bI m\/s∈ap m.items:=λs=>by
  unfold hu bI;simp only[List.mem_append];constructor
  ·rintro(a|a|a)
   ·exact .inr a
   ·exact .inl (.inr a)
   ·exact .inl (.inl a)
  ·rintro((a|a)|a)
   ·exact .inr (.inr a)
   ·exact .inr (.inl a)
   ·exact .inl a
 unfold dV;rw[ij n m.items];have o:(hu m).Nodup↔(ap m.items).Nodup/\(bI m).Nodup/\∀s,s∈ap m.items->¬s∈bI m:=by
  unfold hu bI;rw[List.nodup_append,List.nodup_append,List.nodup_append];constructor
  ·rintro⟨c,⟨d,f,g⟩,b⟩;exact⟨c,⟨f,d,λh ha j i e=>g j i h ha e.symm⟩,λs k l=>by
    rcases y8e.1 l with a|a
    ·exact b s k s (List.mem_append_right _ a) rfl
    ·exact b s k s (List.mem_append_left _ a) rfl⟩
  ·rintro⟨c,⟨d,f,g⟩,b⟩;exact⟨c,⟨f,d,λh ha j i e=>g j i h ha e.symm⟩,λh ha j i e=>b h ha (by
    rw[e];rcases y8e.1 i with a|a
    ·exact List.mem_append_right _ a
    ·exact List.mem_append_left _ a)⟩
 rw[o];unfold TOK;constructor
 ·rintro⟨c,⟨d,f,g⟩,b⟩;exact⟨f,⟨c,d,g⟩,b⟩
 ·rintro⟨f,⟨c,d,g⟩,b⟩;exact⟨c,⟨d,f,g⟩,b⟩
theorem yI(B:Nat)(m:Mdl)(w:World)(c7:List Value)(h1:RM w B m c7)(b3:B<=w.heap.size)(i1:ar m<=1000000000):
 Calls Tryz.prog 60 #[.agg c7.toArray] w λe k8=>e=.returned (.bool (yes (dV m)))/\Ext w k8:=by
 obtain⟨m6,m7,c1,rfl,d2,d4,hi⟩:=h1;have m2:=d2.oneCell;have m3:=d4.oneCell;have m4:=hi.oneCell;have c2:=Hd hi;obtain⟨k4,k5,rfl,-,d3⟩:=d2;obtain⟨k6,k7,rfl,-,d5⟩:=d4;have h8:ar m=1+aa au m.params+aa aJ m.ports+aa aj m.items:=rfl;have h9:=aw au m.params du;have i0:=aw aJ m.ports gQ;obtain⟨l0,a,l3,b8,i2,c3,c4,c5,c6⟩:=en w (.string m.name) (.slice k4 m.params.length k5) (.slice k6 m.ports.length k7) c1 30;obtain⟨n,Y⟩:∃n,n=a.w.alloc (.cells #[.bool false] 4):=⟨_,rfl⟩;have C:Ext a.w n:=by rw[Y];exact aE _ _
 have J:Blk n a.w.heap.size 4 [.bool false]:=by rw[Y];exact ax _ _ [_]
 obtain⟨b2,d0⟩:=ae (af n);have l4:=Y.symm.trans d0;have F:=a.ext.trans C;have c0:=b8.trans F;have c3:=am c3 F;have c4:=am c4 F;have c5:=am c5 F;have c6:=am c6 F;have U:=J.later1;have V:=J.laterFree1;have a0:=J.lt;have G:=Hd (λ(e:Later n)=>J.ext e.ext);have e2:w.heap.size<=a.w.heap.size:=ad b8.size a.ext.size;have b4:B<=n.heap.size:=ad b3 c0.size;have q:=Hd c0;have l5:=@hmf_ Tryz.prog;have d9:=Hd d3;have e0:=Hd d5;have k9:=Hd (rightM_iff (m:=m));have e6:=Hd (rU B (aa aj m.items) m.items (ac _) zO);have e3:=Hd (tE B (aa aj m.items) m.items (ac _) zO);have l6:m.params.length<=1000000000:=by omega
 have l7:m.ports.length<=1000000000:=by omega
 have h0:(bI m).length=m.params.length+m.ports.length:=by simp[bI]
 clear Y C J d0 F c0 b8 d3 d5 hi h8 h9 i0 i1 i2;have T:w.heap.size<=a.w.heap.size:=e2
 go_enter_defers func60,ntmps60
 go_wp2_with fail
 go_at_call 93;refine(ix b2.w none [] rfl (λc8 N=>by cases N)).mono ?_;rintro _ m9 ⟨X,k,rfl,l,d6,h6,h7⟩;obtain⟨f9,rfl⟩:=ae (b2.ext.trans d6);have Z:n.heap.size<=k:=ad b2.ext.size h6;have e5:=Hd (l.congr (N':=λx=>x∈(bI m).take 0) (λs=>by simp));clear l d6;have c9:B<=k:=ad b4 Z;go_wp2_with fail
 go_loopw [13] (λD wr=>∃(b:Nat) (h:Later n),b<=m.params.length/\D=.int .i64 b/\wr=h.w/\ScA wr (some ⟨X,0,none⟩) [⟨X,k,λx=>x∈(bI m).take b⟩]/\((bI m).take b).Nodup/\k<wr.heap.size) (λD _=>m.params.length - (intOf D).toNat)
 case atStart=>exact⟨0,f9,aA _,rfl,rfl,e5.o,zS,h7⟩
 case round=>
  obtain⟨b,h,h5,rfl,rfl,j,p,E⟩:=hrel;by_cases O:b<m.params.length
  ·obtain⟨f0,o,u0,u1,u2,u3,u4,u5,u6,rfl,h4,b5,I,j7,j8,j9,k0,k1,k2,k3⟩:=d9.o.open7 O;obtain⟨f1,M,-⟩:=b5;simp only[List.cons.injEq] at M;obtain⟨rfl,-⟩:=M;obtain⟨f2,f3,f4,f5,f6,f7,f8⟩:=(I.ext (q.o.trans h.ext)).get7;have A:b<(bI m).length:=by omega
   have Q:(bI m)[b]=m.params[b].name:=zZ O A;have H:=Hd (oy A);have y:=Hd Q;have b1:=Hd (List.take_succ_eq_append_getElem A);have a7:=Hd p;have a4:=Hd j;clear I p j Q;generalize m.params[b].name=nm at*;obtain⟨e7,e8,h2,⟨i3,i4,i5,i6,i7,i8,i9⟩,⟨j0,j1,j2,j3,j4,j5,j6⟩,h3,K,v,b9⟩:=varB h.w (.string nm) u1 u2 u3 u4 u5 u6;obtain⟨ec,rfl⟩:=ae (h.ext.trans v);obtain⟨g0,g1,g2,g3,g4,g5,g6⟩:=K.get7;have a6:=Hd (a4.o.ext v);have b7:k<ec.w.heap.size:=aQ E v.size;clear K v b9;go_wp2_with fail
   go_at_call 94;refine(eV ec.w _ _ _ nm a6.o).mono ?_;rintro _ W (⟨P,rfl,l,g⟩|⟨r,rfl,rfl⟩)
   ·replace g:ec.w.grownBy W (some k):=g;obtain⟨d,rfl⟩:=ae (dy ec.ext g Z);have b0:=Hd (H.o.2 ⟨a7.o,λc=>P (inC_cons.2 (.inl (by rw[y.o] at c;exact c)))⟩);have a9:=Hd (l.congr (N':=λx=>x∈(bI m).take (b+1)) (λs=>by rw[b1.o,y.o,List.mem_append,List.mem_singleton]));have S:k<d.w.heap.size:=aQ b7 g.size;clear P l g;go_wp2_with fail
    go_roundw;case rel=>exact⟨b+1,d,zO,zN,rfl,a9.o,b0.o,S⟩
    case measure=>simp[intOf];omega
   ·have z:=Hd (yes_no.2 (λc=>(H.o.1 (ox (rightM_iff.1 c).1)).2 (by
     rw[y.o];rcases inC_cons.1 r with c|c
     ·exact c
     ·exact absurd c hP)))
    clear r;go_wp2_with fail
    refine leaves_cons (f:=92) (args:=#[.pointer (some ⟨a.w.heap.size,0,none⟩)]) zS (by simp[go_sem]) ?_;refine(jv ⟨a.w.heap.size,0,none⟩ false [] ec.w (U ec) (V ec) (aQ a0 ec.ext.size)).mono ?_;rintro e a2 a3 ⟨rfl,rfl,rfl⟩;have u:((ec.w.alloc (.cells #[] 146)).setCell ⟨a.w.heap.size,0,none⟩ (.bool false)).cell? ⟨a.w.heap.size,0,none⟩=some (.bool false):=(((G.o ec).alloc _).store1 (.bool false)).get1;have t:Ext w ((ec.w.alloc (.cells #[] 146)).setCell ⟨a.w.heap.size,0,none⟩ (.bool false)):=(((q.o.trans ec.ext).alloc _).setCell T _);refine⟨_,?_,by rw[z.o],t⟩;simp[Leaves,settle,results,results60,go_sem,u]
  ·have b6:b=m.params.length:=by omega
   subst b6;have a4:=Hd j;have a7:=Hd p;clear j p;go_wp2_with fail
   go_loopw [25] (λD wr=>∃(b:Nat) (h:Later n),b<=m.ports.length/\D=.int .i64 b/\wr=h.w/\ScA wr (some ⟨X,0,none⟩) [⟨X,k,λx=>x∈(bI m).take (m.params.length+b)⟩]/\((bI m).take (m.params.length+b)).Nodup/\k<wr.heap.size) (λD _=>m.ports.length - (intOf D).toNat)
   case atStart=>exact⟨0,h,aA _,rfl,rfl,a4.o,a7.o,E⟩
   case round=>
    obtain⟨b,h,h5,rfl,rfl,j,p,E⟩:=hrel;by_cases O:b<m.ports.length
    ·obtain⟨f0,o,u0,u1,u2,u3,u4,u5,u6,u7,rfl,h4,b5,I,j7,j8,j9,k0,k1,k2,k3,m5⟩:=e0.o.open8 O;obtain⟨f1,M,-⟩:=b5;simp only[List.cons.injEq] at M;obtain⟨rfl,rfl,-⟩:=M;obtain⟨f2,f3,f4,f5,f6,f7,f8,l1⟩:=(I.ext (q.o.trans h.ext)).get8;have A:m.params.length+b<(bI m).length:=by omega
     have Q:(bI m)[m.params.length+b]=m.ports[b].name:=xM O A;have H:=Hd (oy A);have y:=Hd Q;have b1:=Hd (List.take_succ_eq_append_getElem A);have a8:=Hd p;have a5:=Hd j;clear I p j Q;generalize m.ports[b].name=nm at*;generalize m.ports[b].o=ou at*;obtain⟨e7,e8,h2,⟨i3,i4,i5,i6,i7,i8,i9,m0⟩,⟨j0,j1,j2,j3,j4,j5,j6,m1⟩,h3,K,v,b9⟩:=varP h.w (.string nm) (.bool ou) u2 u3 u4 u5 u6 u7;obtain⟨ec,rfl⟩:=ae (h.ext.trans v);obtain⟨g0,g1,g2,g3,g4,g5,g6,l2⟩:=K.get8;have a6:=Hd (a5.o.ext v);have b7:k<ec.w.heap.size:=aQ E v.size;clear K v b9;go_wp2_with fail
     go_at_call 94;refine(eV ec.w _ _ _ nm a6.o).mono ?_;rintro _ W (⟨P,rfl,l,g⟩|⟨r,rfl,rfl⟩)
     ·replace g:ec.w.grownBy W (some k):=g;obtain⟨d,rfl⟩:=ae (dy ec.ext g Z);have b0:=Hd (H.o.2 ⟨a8.o,λc=>P (inC_cons.2 (.inl (by rw[y.o] at c;exact c)))⟩);have a9:=Hd (l.congr (N':=λx=>x∈(bI m).take (m.params.length+(b+1))) (λs=>by rw[<-Nat.add_assoc,b1.o,y.o,List.mem_append,List.mem_singleton]));have S:k<d.w.heap.size:=aQ b7 g.size;clear P l g;go_wp2_with fail
      go_roundw;case rel=>exact⟨b+1,d,zO,zN,rfl,a9.o,b0.o,S⟩
      case measure=>simp[intOf];omega
     ·have z:=Hd (yes_no.2 (λc=>(H.o.1 (ox (rightM_iff.1 c).1)).2 (by
       rw[y.o];rcases inC_cons.1 r with c|c
       ·exact c
       ·exact absurd c hP)))
      clear r;go_wp2_with fail
      refine leaves_cons (f:=92) (args:=#[.pointer (some ⟨a.w.heap.size,0,none⟩)]) zS (by simp[go_sem]) ?_;refine(jv ⟨a.w.heap.size,0,none⟩ false [] ec.w (U ec) (V ec) (aQ a0 ec.ext.size)).mono ?_;rintro e a2 a3 ⟨rfl,rfl,rfl⟩;have u:((ec.w.alloc (.cells #[] 146)).setCell ⟨a.w.heap.size,0,none⟩ (.bool false)).cell? ⟨a.w.heap.size,0,none⟩=some (.bool false):=(((G.o ec).alloc _).store1 (.bool false)).get1;have t:Ext w ((ec.w.alloc (.cells #[] 146)).setCell ⟨a.w.heap.size,0,none⟩ (.bool false)):=(((q.o.trans ec.ext).alloc _).setCell T _);refine⟨_,?_,by rw[z.o],t⟩;simp[Leaves,settle,results,results60,go_sem,u]
    ·have b6:b=m.ports.length:=by omega
     subst b6;rw[<-h0,List.take_length] at j p;have L:Below B w h.w:=(q.o.trans h.ext).below b3;have a5:=Hd j;have a8:=Hd p;have d7:=Hd (c2.o.keepI L);clear j p L;go_wp2_with fail
     go_at_call 95;refine(e6.o h.w c1 _ _ _ a5.o d7.o (ad b4 h.ext.size) (λc8 N=>by
      obtain rfl:=y8d.1 N;exact⟨c9,E⟩)).mono ?_
     rintro _ W (⟨a1,rfl,l,g⟩|⟨R,rfl,g⟩)<;>replace g:h.w.grownBy W (some k):=g<;>obtain⟨d,rfl⟩:=ae (dy h.ext g Z);rotate_left
     ·have z:=Hd (yes_no.2 (λc=>R (by
       obtain⟨g7,g8,g9⟩:=(rightM_iff.1 c).2.1;refine⟨g7,g8,λs j r=>g9 s j ?_⟩;rcases inC_cons.1 r with c|c
       ·exact c
       ·exact absurd c hP)))
      clear R g;go_wp2_with fail
      refine leaves_cons (f:=92) (args:=#[.pointer (some ⟨a.w.heap.size,0,none⟩)]) zS (by simp[go_sem]) ?_;refine(jv ⟨a.w.heap.size,0,none⟩ false [] d.w (U d) (V d) (aQ a0 d.ext.size)).mono ?_;rintro e a2 a3 ⟨rfl,rfl,rfl⟩;have u:((d.w.alloc (.cells #[] 146)).setCell ⟨a.w.heap.size,0,none⟩ (.bool false)).cell? ⟨a.w.heap.size,0,none⟩=some (.bool false):=(((G.o d).alloc _).store1 (.bool false)).get1;have t:Ext w ((d.w.alloc (.cells #[] 146)).setCell ⟨a.w.heap.size,0,none⟩ (.bool false)):=(((q.o.trans d.ext).alloc _).setCell T _);refine⟨_,?_,by rw[z.o],t⟩;simp[Leaves,settle,results,results60,go_sem,u]
     have S:k<d.w.heap.size:=aQ E g.size;have L:Below B w d.w:=(q.o.trans d.ext).below b3;have d8:=Hd (c2.o.keepI L);have e1:=Hd l;have e4:=Hd (show TOK (λs=>s∈bI m) m.items from⟨a1.1,a1.2.1,λs j r=>a1.2.2 s j (inC_cons.2 (.inl r))⟩);clear l g a1 L;go_wp2_with fail
     go_at_call 96;refine(e3.o d.w c1 _ _ e1.o d8.o (ad b4 d.ext.size) (λc8 N=>by
      obtain rfl:=y8d.1 N;exact⟨c9,S⟩)).mono ?_
     rintro _ m8 (⟨d1,rfl,C⟩|⟨R,rfl,C⟩)<;>obtain⟨i,rfl⟩:=ae (d.ext.trans C);rotate_left
     ·have z:=Hd (yes_no.2 (λc=>R ((ij (λs=>by rw[inC_cons];simp[hP]) m.items).2 (rightM_iff.1 c).2.2)));clear R C;go_wp2_with fail
      refine leaves_cons (f:=92) (args:=#[.pointer (some ⟨a.w.heap.size,0,none⟩)]) zS (by simp[go_sem]) ?_;refine(jv ⟨a.w.heap.size,0,none⟩ false [] i.w (U i) (V i) (aQ a0 i.ext.size)).mono ?_;rintro e a2 a3 ⟨rfl,rfl,rfl⟩;have u:((i.w.alloc (.cells #[] 146)).setCell ⟨a.w.heap.size,0,none⟩ (.bool false)).cell? ⟨a.w.heap.size,0,none⟩=some (.bool false):=(((G.o i).alloc _).store1 (.bool false)).get1;have t:Ext w ((i.w.alloc (.cells #[] 146)).setCell ⟨a.w.heap.size,0,none⟩ (.bool false)):=(((q.o.trans i.ext).alloc _).setCell T _);refine⟨_,?_,by rw[z.o],t⟩;simp[Leaves,settle,results,results60,go_sem,u]
     have e9:=Hd (yes_iff.2 (rightM_iff.2 ⟨a8.o,e4.o,(ij (λs=>by rw[inC_cons];simp[hP]) m.items).1 d1⟩));clear d1 C;have l8:=U i;have l9:=V i;go_wp2_with fail
     refine leaves_cons (f:=92) (args:=#[.pointer (some ⟨a.w.heap.size,0,none⟩)]) zS (by simp[go_sem]) ?_;refine(zz ⟨a.w.heap.size,0,none⟩ _).mono ?_;rintro e a2 a3 ⟨rfl,rfl,rfl⟩;have u:((i.w.setCell ⟨a.w.heap.size,0,none⟩ (.bool true)).alloc (.cells #[] 146)).cell? ⟨a.w.heap.size,0,none⟩=some (.bool true):=(((G.o i).store1 (.bool true)).alloc _).get1;have t:Ext w ((i.w.setCell ⟨a.w.heap.size,0,none⟩ (.bool true)).alloc (.cells #[] 146)):=(((q.o.trans i.ext).setCell T _).alloc _);refine⟨_,?_,by rw[e9.o],t⟩;simp[Leaves,settle,results,results60,go_sem,u]
