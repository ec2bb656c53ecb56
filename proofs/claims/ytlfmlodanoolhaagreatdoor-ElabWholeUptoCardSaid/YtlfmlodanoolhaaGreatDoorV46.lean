import Derived.Shelf.Strconv.Itoa3
import Derived.Test.YtlfmlodanoolhaaGreatDoorV44
set_option linter.all false
set_option maxRecDepth 200000
set_option maxHeartbeats 0
namespace Go.Proofs.YtlfmlodanoolhaaGreatDoor
section
open Go Go.RowKit Go.Proofs.Tryz
structure MInv(m:Mk):Prop where
 c0:0<=m.count
 c1:m.count<=65536
 b0:0<=m.bits
 b1:m.bits<=4096
 sg:m.d.sigs.length<=512
 pr:m.d.procs.length<=1024
 ck:(m.d.chks.length:Int)<=m.count
theorem MInv.cnt{m m':Mk}(h:MInv m)(b:CntM m m'):MInv m':=by
 obtain⟨n,rfl,c,a⟩:=b;have:=h.c0;have e:=h.ck;exact⟨by show(0:Int)<=n;omega,a,h.b0,h.b1,h.sg,h.pr,by show(m.d.chks.length:Int)<=n;omega⟩
theorem Good.signal{s:Sc}{m:Mk}{k:ByteArray}{i kind p:Int}{g:Sc×Mk}(c:Good m.d.sigs s)(h:cI k i kind p s m=.ok g)(o:1<=i/\i<=64):Good g.2.d.sigs g.1:=by
 obtain⟨rfl,q,r⟩:=eY h;refine⟨λn a ha=>?_,λj l=>?_,c.env,c.const⟩
 ·show 0<=a/\a<((m.d.sigs++[_]).length:Int);rw[List.length_append];have b:az s.sigs k (m.d.sigs.length:Int) n=some a:=ha;unfold az at b;split at b
  ·injection b with e;simp;omega
  ·have:=c.at_ n a b;simp;omega
 ·rcases y8e.1 (show j∈m.d.sigs++[_] from l) with f|f
  ·exact c.w j f
  ·rw[List.mem_singleton.1 f];exact o
theorem MInv.signal{s:Sc}{m:Mk}{f:ByteArray}{a kind e:Int}{b:Sc×Mk}(hi:MInv m)(h:cI f a kind e s m=.ok b)(i:1<=a/\a<=64):MInv b.2:=by
 obtain⟨rfl,g,c⟩:=eY h;have:=hi.b0;exact⟨hi.c0,hi.c1,by show 0<=m.bits+a;omega,c,by show(m.d.sigs++[_]).length<=512;rw[List.length_append];simp;omega,hi.pr,hi.ck⟩
theorem MInv.process{a:Bool}{l:List DT}{m m':Mk}(hi:MInv m)(h:ca a l m=.ok m'):MInv m':=by
 obtain⟨rfl,b⟩:=fC h;exact⟨hi.c0,hi.c1,hi.b0,hi.b1,hi.sg,by show(m.d.procs++[_]).length<=1024;rw[List.length_append];simp;omega,hi.ck⟩
def TabP (w : World) : Prop := Lib.TabIs Tryz.prog w "internal/strconv.uint64pow10" .u64 Lib.pow10Tab
structure EC(W0:World)(B N0 mb sb mp:Nat)(vf:Value)(m:Mk)(s:Sc)(w:World):Prop where
 ex:∃vs vp vc ve,MkI w N0 mb vf vs vp vc m/\ScI w sb mp ve s
 cx:Cx W0 B w
 gd:Good m.d.sigs s
 inv:MInv m
 lo:W0.heap.size<=N0
 ls:W0.heap.size<=sb
 lm:W0.heap.size<=mp
 tab:TabP W0
section
variable {W0 w w' : World} {B N0 mb sb mp : Nat} {vf : Value} {m m' : Mk} {s s' : Sc}
theorem EC.stc(h:EC W0 B N0 mb sb mp vf m s w):∃d c a b,StC W0 B N0 mb sb mp vf d c a b m s w:=by
 obtain⟨d,c,a,b,e,f⟩:=h.ex;exact⟨d,c,a,b,h.cx,e,f,h.gd,h.inv.c0,h.inv.c1,ad h.lo e.base⟩
theorem EC.mlt(h:EC W0 B N0 mb sb mp vf m s w):mb<w.heap.size/\sb<w.heap.size/\mp<w.heap.size/\sb≠mb/\mp≠mb/\mp≠sb/\N0<=mb:=by
 obtain⟨g,f,c,d,b,a⟩:=h.ex;refine⟨b.blk.lt,a.blk.lt,a.map.lt,λe=>?_,λe=>?_,λe=>?_,b.base⟩
 ·exact absurd (a.blk.tag.one (e▸b.blk.tag)) zD
 ·exact a.map.noTag (e▸b.blk.tag)
 ·exact a.map.noTag (e▸a.blk.tag)
theorem EC.frI(h:EC W0 B N0 mb sb mp vf m s w)(g:FrI N0 mb sb mp w w'){e c a b:Value}(j:MkI w' N0 mb vf e c a m')(k:ScI w' sb mp b s')(i:Good m'.d.sigs s')(hi:MInv m'):EC W0 B N0 mb sb mp vf m' s' w':=by
 obtain⟨l,n,o,p,q,r,f⟩:=h.mlt;exact⟨⟨e,c,a,b,j,k⟩,⟨h.cx.tabs,h.cx.hB,g.ext h.cx.ext h.lo (ad h.lo f) h.ls h.lm⟩,i,hi,h.lo,h.ls,h.lm,h.tab⟩
theorem EC.ext(h:EC W0 B N0 mb sb mp vf m s w)(a:Ext w w'):EC W0 B N0 mb sb mp vf m s w':=by
 obtain⟨g,f,d,e,b,c⟩:=h.ex;exact h.frI (cb a) (b.ext a) (c.ext a) h.gd h.inv
theorem EC.of_stc(h:EC W0 B N0 mb sb mp vf m s w){f e c d:Value}(b:FrI N0 mb sb mp w w')(k:StC W0 B N0 mb sb mp vf f e c d m' s w')(a:CntM m m'):EC W0 B N0 mb sb mp vf m' s w':=
 h.frI b k.mk_ k.sc k.gd (h.inv.cnt a)
end
def ER(W0:World)(B N0 mb sb mp:Nat)(vf:Value)(n:Nat)(s:Sc)(w:World)(a:Sc×Mk)(v:Value)(w':World):Prop:=
 v=aO/\EC W0 B N0 mb sb mp vf a.2 a.1 w'/\FrI N0 mb sb mp w w'/\a.1.env.length<=s.env.length+n/\a.1.path=s.path
def eF(W0:World)(B N0 mb:Nat)(vf:Value)(inst:Itm->Sc->Mk->Rs Mk)(k:Nat)(t:Itm):Prop:=
 ∀(sb mp:Nat) (m:Mk) (s:Sc) (w:World) (a:List Value),EC W0 B N0 mb sb mp vf m s w->(m.d.chks.length:Int)+1<=m.count->s.env.length+aj t<=1000000->s.path.size+100*(k*70000+aj t)<=1000000000->RI W0 B t a->
  bv Tryz.prog 76 #[.pointer (some ⟨mb,0,none⟩),.pointer (some ⟨sb,0,none⟩),.agg a.toArray] w (aF inst t s m) (ER W0 B N0 mb sb mp vf (aj t) s w) (FrI N0 mb sb mp w)
def evF{α:Type}(d e:Nat)(b:Rs α)(f:α->Value)(c:α->Value->World->Prop)(vals:List Value)(i:Nat)(v:Value)(w:World):Prop:=
 if i=d then∃a,b=.ok a/\v=f a else if i=e then∃a,b=.ok a/\c a v w else v=vals.getD i undef
theorem gA{α:Type}{c d:Nat}{e:Rs α}{f:α->Value}{a:α->Value->World->Prop}{vals:List Value}(k:∀b v w w',a b v w->Ext w w'->a b v w'){i:Nat}{v:Value}{w w':World}(h:evF c d e f a vals i v w)(l:Ext w w'):evF c d e f a vals i v w':=by
 unfold evF at h⊢;split
 ·rename_i hi;rw[if_pos hi] at h;exact h
 ·rename_i hi
  rw[if_neg hi] at h;split
  ·rename_i hi;rw[if_pos hi] at h;obtain⟨b,g,j⟩:=h;exact⟨b,g,k _ _ _ _ j l⟩
  ·rename_i hi;rw[if_neg hi] at h;exact h
def evP{α:Type}(c:Rs α)(W:World)(b:List PanicEntry)(w:World):Prop:=∃a,c=.error a/\b=aR a/\Ext W w
end
section
open Go Go.RowKit Go.ChangeShapes Go.WideShapes Go.Proofs.Tryz
theorem gPow : Tryz.prog.globalNamed "internal/strconv.uint64pow10" = some 2 := by kernel_rfl
theorem gPowT:(Tryz.prog.globals[2]?).map (·.type)=some 266:=by kernel_rfl
theorem wH{a:Type}:(Rows.laid_internal_strconv_uint64pow10:DataW a)=Lib.tabData .u64 Lib.pow10Tab:=rfl
theorem sj:Tryz.prog.cellsOf 266=20:=by kernel_rfl
theorem sm:Tryz.prog.cellsOf 38=1:=by kernel_rfl
theorem wS {W : World} (h : laidMetH Tryz.prog [("math/bits.deBruijn32tab", Rows.laid_math_bits_deBruijn32tab), ("math/bits.deBruijn64tab", Rows.laid_math_bits_deBruijn64tab), ("internal/strconv.uint64pow10", Rows.laid_internal_strconv_uint64pow10), ("filigree/ast.kinds", Rows.laid_filigree_ast_kinds), ("filigree/ast.shapes", Rows.laid_filigree_ast_shapes)] W) (l : W.ShapedOpen Tryz.prog) : Tabs W ∧ TabP W := by
 have g : laidMet Tryz.prog [("math/bits.deBruijn32tab", Rows.laid_math_bits_deBruijn32tab), ("math/bits.deBruijn64tab", Rows.laid_math_bits_deBruijn64tab), ("internal/strconv.uint64pow10", Rows.laid_internal_strconv_uint64pow10), ("filigree/ast.kinds", Rows.laid_filigree_ast_kinds), ("filigree/ast.shapes", Rows.laid_filigree_ast_shapes)] W := h
 obtain⟨I,⟨-,-,-,-,-,-,-,-,-,-,⟨-,-,-,-,-,-,-,-,-,-,⟨E,O,x,A,H,L,k,p,t,f,⟨C,M,u,y,F,J,i,n,q,d,⟨D,N,v,z,G,K,j,o,r,e,-,-⟩,-⟩,-⟩,-⟩,-⟩,-,-⟩:=g;obtain rfl:=Option.some.inj (gKinds.symm.trans i);obtain rfl:=Option.some.inj (gKindsT.symm.trans n);obtain rfl:=Option.some.inj (gShapes.symm.trans j);obtain rfl:=Option.some.inj (gShapesT.symm.trans o);obtain rfl:=Option.some.inj (gPow.symm.trans k);obtain rfl:=Option.some.inj (gPowT.symm.trans p);rw[Ak] at d;rw[Bj] at e;rw[wH] at f
 refine⟨⟨vU l,
  λb c a=>pw (World.var?_cell gKinds q) (rz underlying249 nI (λ_ _ _ _=>vH) d b c a),
  λb c a=>pw (World.var?_cell gShapes r) (rz underlying222 pH (λ_ _ _ _=>xD) e b c a)⟩,?_⟩
 unfold TabP Lib.TabIs;rw[t,<-Lib.cells_of_tab underlying266 underlying38 sm sj f]
def wG:Array Value:=(Lib.pow10Tab.map λa=>Value.int .u64 a).toArray
def qG{a:Type}:DataW a->List Value
 |.agg l=>l.filterMap λd=>match d with|.lit (.int k z)=>some (.int k z)|_=>none
 |_=>[]
noncomputable def mi(a:Os):World:=
 {World.holding Tryz.prog a ⟨#[],#[],[]⟩ with heap:=(((((World.holding Tryz.prog a ⟨#[],#[],[]⟩).heap.modify 3 (jl (qG (Rows.laid_math_bits_deBruijn32tab:DataW Unit)).toArray)).modify 4 (jl (qG (Rows.laid_math_bits_deBruijn64tab:DataW Unit)).toArray)).modify 2 (jl wG)).modify 1 (jl xX)).modify 0 (jl AC)}
theorem yh (a : Os) (args : Array Value) : laidMet Tryz.prog [("math/bits.deBruijn32tab", Rows.laid_math_bits_deBruijn32tab), ("math/bits.deBruijn64tab", Rows.laid_math_bits_deBruijn64tab), ("internal/strconv.uint64pow10", Rows.laid_internal_strconv_uint64pow10), ("filigree/ast.kinds", Rows.laid_filigree_ast_kinds), ("filigree/ast.shapes", Rows.laid_filigree_ast_shapes)] ((mi a).forCall (fun _ _ => 0) ⟨#[], args, []⟩).memory :=
 laidMet_of_run' 8 zK zK
end
section
open Go Go.RowKit Go.Proofs.Tryz
attribute [local go_sem] bc
theorem BM(W0:World)(B N0 mb:Nat)(vf:Value)(inst:Itm->Sc->Mk->Rs Mk)(k:Nat)(t:Itm)(U:t.op=2)(b7:∀c9,c9∈t.x->VX c9)(h2:t.x.length=1)(l3:t.name.size<=64):eF W0 B N0 mb vf inst k t:=by
 intro sb mp m s w j5 a k8 l1 l4 N;have q:=Hd a;have e5:=a.inv.b0;have e7:=a.inv.b1;have f4:=a.inv.sg;have l6:=a.inv.pr;have k6:=a.inv.c0;have k7:=a.inv.c1;obtain⟨l2,m0,l8,f5,l5,l7,k3⟩:=a.mlt;obtain⟨g9,h0,h1,h3,h4,h5,rfl,I,J,K,L,a5,a6⟩:=RI_iff.1 N;have m6:=I.oneCell;have m7:=J.oneCell;have m8:=K.oneCell;have m9:=L.oneCell;have n0:=a5.oneCell;have n1:=a6.oneCell;have d9:=Hd I;have i3:=Hd J;have i4:=Hd K;have i5:=Hd L;have i1:=Hd N;obtain⟨G,a7,b9,P⟩:=aL w (.pointer (some ⟨mb,0,none⟩)) 97;obtain⟨i,a8,Y,Q⟩:=aL G (.pointer (some ⟨sb,0,none⟩)) 100;obtain⟨f,a9,z,R⟩:=bM i (.int .i64 t.op) (.string t.name) (.string t.of) g9 h0 h1 h3 h4 h5 37;have k4:=a7.symm;have k5:=a8.symm;have n2:w.heap.size<G.heap.size:=P.lt;have n3:G.heap.size<i.heap.size:=Q.lt;have n4:i.heap.size<f.heap.size:=R.lt;have d0:=Hd (P.ext (Y.trans z));have d1:=Hd (Q.ext z);have d2:=Hd R;have r:=Hd (b9.trans (Y.trans z));have C:=Hd (a.ext r.o);obtain⟨e3,S⟩:=ae (W:=f) (w:=f) (af _);have e4:=a9.symm.trans S;obtain⟨e2,i6,i7,i8,i9,j0,j1,j2,j3⟩:=d2.o.later9;have m4:=cellAt (d0.o.cell 0);have m5:=cellAt (d1.o.cell 0);have i2:=Hd S;clear S a7 a8 a9 b9 Y z P Q R a I J K L a5 a6 N;have l9:1+aa al t.x<=1000000000:=by have:=bq t;omega
 obtain⟨m3,f7,rfl,l0,b2⟩:=d9.o;have T:0<t.x.length:=by omega
 obtain⟨a3,c6,n5,e9,e6,f0,M,f1,O⟩:=b2 0 T;subst e9;have d8:=Hd (XOk.of (an T) O zO b7);obtain⟨i0,rfl,a4⟩:=RX_iff.1 O;simp only[Nat.zero_mul,Nat.add_zero] at M;have f6:=dh (k:=0) T;have u0:=a4.oneCell;obtain⟨j6,j7,j8,j9,k0,k1⟩:=(M.ext C.o.cx.ext).later6;have k9:(0:Int)<(t.x.length:Int):=by omega
 have D:=Hd (show aF inst t s m=(do let Z<-cj s t.x[0];cI t.name Z 3 0 s m) by rw[mh inst t s m U,show xAt t.x 0=t.x[0] from f6]);obtain⟨h8,h7,h6,c7,b4,b6⟩:=C.o.ex;have d6:=Hd b4;have a2:=Hd b6;have d4:=Hd q.o.gd.env;clear b4 b6;generalize t.x[0]=x0 at*;rw[U] at e4 e2;rw[U];clear b2 O a4 f0 e6 M f1 b7 h2;have e1:=Hd (λ(w':World) (b8:Ext f w')=>jq W0 B x0 _ sb mp c7 s w' (C.o.cx.later b8) d8.o (a2.o.ext b8) d4.o);go_enter func76,ntmps76;go_wp2_with fail
 refine bD 10 (W:=f) (Ext) (evF 9 99 (cj s x0) (λg=>.int .i64 g) (λg v w'=>True) [.pointer (some ⟨mb,0,none⟩),.pointer (some ⟨sb,0,none⟩),.pointer (some ⟨i.heap.size,1,none⟩),.string t.name,.pointer (some ⟨sb,0,none⟩),.pointer (some ⟨i.heap.size,3,none⟩),.slice (some ⟨a3,c6,none⟩) t.x.length f7,.pointer (some ⟨a3,c6,none⟩),.agg #[.int .i64 x0.op,.string x0.name,.int .i64 x0.n,.int .i64 x0.w,.int .u64 x0.v,i0],undef]) (evP (cj s x0) f) (λ_=>true) zK (bo) zK zK ?_ (ag e3) (λm2 v w w' a X=>gA (λ_ _ _ _ a _=>a) a X) ?_ (λp j4 h9 c f2=>by
  obtain⟨u,b,rfl,X⟩:=f2;obtain⟨n6,k2⟩:=p;simp only at c;subst c;have d7:=Hd (show RunsP (aF inst t s m) (ER W0 B N0 mb sb mp vf (aj t) s w) (FrI N0 mb sb mp w) (.panicked (aR u)) h9 from .no (by rw[D.o,b];rfl) (.of_ext (r.o.trans X)));exact⟨rfl,d7.o⟩) ?_
 ·exact⟨rfl,rfl,rfl,rfl,rfl,rfl,rfl,rfl,rfl,rfl,trivial⟩
 ·refine⟨?_,?_,?_,?_,?_,?_,?_,?_,?_,?_,trivial⟩;rotate_left 9
  ·intro p c8 l c h;obtain⟨d,rfl⟩:=ae l;have f9:=ab c 4 32 zK rfl;simp[evF] at f9;have g3:=ab c 8 36 zK rfl;simp[evF] at g3;clear c h;go_simp;refine(e1.o d.w d.ext).mono ?_;rintro e o2 (⟨g,g8,b,rfl,rfl,A⟩|⟨u,b,rfl,A⟩);rotate_left
   ·exact⟨rfl,u,b,rfl,d.ext.trans A⟩
   have E:=Hd b;clear b;go_simp;first|exact⟨_,rfl,A,g,E.o,rfl⟩|exact⟨A,g,E.o,rfl⟩|exact⟨_,rfl,g,E.o,rfl⟩
  all_goals
   intro p c8 l c h;obtain⟨d,rfl⟩:=ae l;try (have f8:=ab c 2 30 zD rfl;simp[evF] at f8)
   try (have g0:=ab c 5 33 zD rfl;simp[evF] at g0)
   try (have g1:=ab c 6 34 zD rfl;simp[evF] at g1)
   try (have g2:=ab c 7 35 zD rfl;simp[evF] at g2)
   have g5:=ah h 3 zK;simp at g5;have g6:=ah h 4 zK;simp at g6;have g7:=ah h 5 zK;simp at g7;clear c h;exact zA
 ·intro p c8 e8;obtain⟨H,rfl,l,j,f3⟩:=e8.fin (n:=154) rfl;obtain⟨d,rfl⟩:=ae l;have c2:H 28=.pointer (some ⟨mb,0,none⟩):=j 0 28 rfl rfl;have c3:H 29=.pointer (some ⟨sb,0,none⟩):=j 1 29 rfl rfl;have c4:H 31=.string t.name:=j 3 31 rfl rfl;obtain⟨Z,V,c5⟩:=j 9 37 rfl rfl;clear j f3;simp only[List.drop_succ_cons,List.drop_zero];simp[List.range,List.range.loop,c2,c3,c4,c5];clear c2 c3 c4 c5;have F:=Hd (gS V);have m1:=F.o;have e0:=Hd (mt N0 mb sb mp vf h8 h7 h6 c7 m s t.name Z 3 0 d.w (d6.o.ext d.ext) (a2.o.ext d.ext) f5 f4 e5 e7 zO zO zO zO);go_wp2_with fail
  go_at_call 73;refine e0.o.mono ?_;rintro e o1 (⟨g4,g8,b,rfl,rfl,⟨o0,n9,n7,b3,y⟩,⟨n8,b5⟩⟩|⟨u,b,rfl,y⟩);rotate_left
  ·exact⟨rfl,.no (by rw[D.o];rw[V];exact b) ((cb (r.o.trans d.ext)).trans y)⟩
  have a0:=Hd ((cb (r.o.trans d.ext)).trans y);have d5:=Hd (q.o.frI a0.o b3 b5 (q.o.gd.signal b F.o) (q.o.inv.signal b F.o));have d3:=Hd (show aF inst t s m=.ok g4 by rw[D.o];rw[V];exact b);have a1:=Hd (eY b).1;clear b3 b5 y b;go_wp2_with fail
  refine bodyPost_ret (v:=aO) ?_ rfl (.ok d3.o ⟨rfl,d5.o,a0.o,by rw[a1.o];exact Nat.le_add_right _ _,by rw[a1.o]⟩);simp[results,results76,go_sem,aO]
theorem kg(w:World)(g:Nat)(u0 u1 u2:Value):Chg (λb=>b=g) w (((w.setCell ⟨g,0,none⟩ u0).setCell ⟨g,1,none⟩ u1).setCell ⟨g,2,none⟩ u2):=
 dk (X:=λb=>b=g) (dk (X:=λb=>b=g) (dD w g 0 u0) (p:=⟨g,1,none⟩) rfl _) (p:=⟨g,2,none⟩) rfl _
theorem MkI.scope{w w':World}{N0 mb sb:Nat}{vf k j i:Value}{m:Mk}(h:MkI w N0 mb vf k j i m)(ht:Tag w sb 126)(o:Chg (λp=>p=sb) w w'):MkI w' N0 mb vf k j i m/\Kp w w':=by
 have d:∀a f,f≠126->Tag w a f->w'.heap[a]? =w.heap[a]? :=λa f n b=>o.block a b.lt (λe=>n (b.one (show Tag w a _ from(show a=sb from e)▸ht)))
 have g:Kp w w':=λl c=>by
  rcases c with c|c|c<;>exact d l _ zD c
 exact⟨⟨(d mb _ zD h.blk.tag).trans h.blk,h.sig.chg (λa _ b=>d a _ zD b) (λ_ _ h=>h),h.prc.chg (λa _ b=>d a _ zD b) (RPc.keep g),h.chk.chg (λa _ b=>d a _ zD b) (RCk.keep g),h.base⟩,g⟩
theorem FrI.of_scope{N0 mb sb mp:Nat}{w w':World}(a:Chg (λb=>b=sb) w w'):FrI N0 mb sb mp w w':=⟨a.os,a.tape,a.output,a.size,λb d _ c _ _=>a.block b d c⟩
theorem EC.con{W0 w d w':World}{B N0 mb sb mp:Nat}{vf k:Value}{m:Mk}{s:Sc}(h:EC W0 B N0 mb sb mp vf m s w)(g:Ext w d)(f:Chg (λu=>u=sb) d w'){c:ByteArray}{v:Int}(o:Blk w' sb 126 [k,.map (some mp),.string s.path])(p:SlT 85 RNm d 2 (s.env++[(c,v)]) k)(t:bU v)(r:s.env.length+1<=1000000):
 EC W0 B N0 mb sb mp vf m (s.con c v) w'/\FrI N0 mb sb mp w w':=by
 obtain⟨D,C,z,A,l,n⟩:=h.ex;have x:=l.ext g;have b:=n.ext g;obtain⟨y,q⟩:=x.scope b.blk.tag f;have i:FrI N0 mb sb mp w w':=(cb g).trans (.of_scope f);refine⟨h.frI i y ⟨o,p.keep (.inr (.inr rfl)) q (λ_ _ _ h=>h),b.map.of_eq (f.block mp b.map.lt (λe=>b.map.noTag (show Tag d mp _ from(show mp=sb from e)▸b.blk.tag)))⟩ ⟨h.gd.at_,h.gd.w,by show(s.env++[(c,v)]).length<=_;rw[List.length_append];exact r,λj a=>?_⟩ h.inv,i⟩;rcases y8e.1 (show j∈s.env++[(c,v)] from a) with a|a
 ·exact h.gd.const j a
 ·rw[List.mem_singleton.1 a];exact t
theorem uN(W0:World)(B N0 mb:Nat)(vf:Value)(inst:Itm->Sc->Mk->Rs Mk)(k:Nat)(t:Itm)(a1:t.op=1)(c8:∀d3,d3∈t.x->VX d3)(h2:t.x.length=1)(m4:t.name.size<=64):eF W0 B N0 mb vf inst k t:=by
 intro sb mp m s w j7 b l9 m2 m5 R;have a5:=Hd b;have l5:=b.inv.b0;have l6:=b.inv.b1;have n1:=b.inv.sg;have m7:=b.inv.pr;have l7:=b.inv.c0;have l8:=b.inv.c1;obtain⟨m3,n3,m9,n2,m6,m8,l1⟩:=b.mlt;obtain⟨h3,h4,h5,h6,h7,h8,rfl,M,N,O,P,b5,b6⟩:=RI_iff.1 R;have o5:=M.oneCell;have o6:=N.oneCell;have o7:=O.oneCell;have o8:=P.oneCell;have o9:=b5.oneCell;have p0:=b6.oneCell;have e0:=Hd M;have i5:=Hd N;have i6:=Hd O;have i7:=Hd P;have i3:=Hd R;obtain⟨J,b7,c9,T⟩:=aL w (.pointer (some ⟨mb,0,none⟩)) 97;obtain⟨r,b8,a2,U⟩:=aL J (.pointer (some ⟨sb,0,none⟩)) 100;obtain⟨g,b9,F,V⟩:=bM r (.int .i64 t.op) (.string t.name) (.string t.of) h3 h4 h5 h6 h7 h8 37;have l2:=b7.symm;have l3:=b8.symm;have p2:w.heap.size<J.heap.size:=T.lt;have p3:J.heap.size<r.heap.size:=U.lt;have p4:r.heap.size<g.heap.size:=V.lt;have d4:=Hd (T.ext (a2.trans F));have d5:=Hd (U.ext F);have d6:=Hd V;have K:=Hd (c9.trans (a2.trans F));have G:=Hd (b.ext K.o);obtain⟨e5,Y⟩:=ae (W:=g) (w:=g) (af _);have e8:=b9.symm.trans Y;obtain⟨e4,i8,i9,j0,j1,j2,j3,j4,j5⟩:=d6.o.later9;have o3:=cellAt (d4.o.cell 0);have o4:=cellAt (d5.o.cell 0);have i4:=Hd Y;clear Y b7 b8 b9 c9 a2 F T U V b M N O P b5 b6 R;have n0:1+aa al t.x<=1000000000:=by have:=bq t;omega
 obtain⟨o2,f7,rfl,m1,c3⟩:=e0.o;have a0:0<t.x.length:=by omega
 obtain⟨b2,d2,p5,f1,e9,f2,Q,f3,S⟩:=c3 0 a0;subst f1;have d9:=Hd (XOk.of (an a0) S zO c8);obtain⟨i1,rfl,b4⟩:=RX_iff.1 S;simp only[Nat.zero_mul,Nat.add_zero] at Q;have f6:=dh (k:=0) a0;have u0:=b4.oneCell;obtain⟨j8,j9,k0,k1,k2,k3⟩:=(Q.ext G.o.cx.ext).later6;have m0:(0:Int)<(t.x.length:Int):=by omega
 have a6:=Hd (show aF inst t s m=(do let v<-aI s t.x[0];return(s.con t.name v,m)) by rw[mC inst t s m a1,show xAt t.x 0=t.x[0] from f6]);have n4:1<=aj t:=by have:=bq t;omega
 obtain⟨q0,p9,p8,a3,c4,c7⟩:=G.o.ex;have i2:=Hd c4;have l:=Hd c7;have a7:=Hd a5.o.gd.env;clear c4 c7;generalize t.x[0]=x0 at*;rw[a1] at e8 e4;rw[a1];clear c3 S b4 f2 e9 Q f3 c8 h2;have p1:=l.o.env.oneCell;obtain⟨k8,k9,l0⟩:=l.o.blk.later3;obtain⟨k5,k6,k7⟩:=l.o.blk.free3;have e2:=Hd (λ(w':World) (E:Ext g w')=>fR W0 B x0 _ sb mp a3 s w' (G.o.cx.later E) d9.o (l.o.ext E) a7.o);have e1:=Hd (λ(v:Int) (w':World) (E:Ext g w')=>iz s a3 (.map (some mp)) t.name v w' ((l.o.ext E).env) rfl a7.o);go_enter func76,ntmps76;go_wp2_with fail
 refine bD 13 (W:=g) (Ext) (evF 11 12 (aI s x0) (λf=>.int .i64 f) (λf v w'=>∃d,v=.agg #[d,.map (some mp),.string s.path]/\SlT 85 RNm w' 2 (s.env++[(t.name,f)]) d) [.pointer (some ⟨sb,0,none⟩),.pointer (some ⟨sb,0,none⟩),.pointer (some ⟨sb,0,none⟩),.agg #[a3,.map (some mp),.string s.path],.pointer (some ⟨r.heap.size,1,none⟩),.string t.name,.pointer (some ⟨sb,0,none⟩),.pointer (some ⟨r.heap.size,3,none⟩),.slice (some ⟨b2,d2,none⟩) t.x.length f7,.pointer (some ⟨b2,d2,none⟩),.agg #[.int .i64 x0.op,.string x0.name,.int .i64 x0.n,.int .i64 x0.w,.int .u64 x0.v,i1],undef,undef]) (evP (aI s x0) g) (λ_=>true) zK (bo) zK zK ?_ (ag e5) (λn5 v w w' b u=>gA (λ_ _ _ _ b u=>by obtain⟨d,e7,h2⟩:=b;exact⟨d,e7,h2.keep (.inr (.inr rfl)) u.kp (λ_ _ _ b=>b)⟩) b u) ?_ (λq j6 i0 a f4=>by
  obtain⟨L,p,rfl,u⟩:=f4;obtain⟨p6,k4⟩:=q;simp only at a;subst a;have d8:=Hd (show RunsP (aF inst t s m) (ER W0 B N0 mb sb mp vf (aj t) s w) (FrI N0 mb sb mp w) (.panicked (aR L)) i0 from .no (by rw[a6.o];rw[p];rfl) (.of_ext (K.o.trans u)));exact⟨rfl,d8.o⟩) ?_
 ·exact⟨rfl,rfl,rfl,rfl,rfl,rfl,rfl,rfl,rfl,rfl,rfl,rfl,rfl,trivial⟩
 ·refine⟨?_,?_,?_,?_,?_,?_,?_,?_,?_,?_,?_,?_,?_,trivial⟩;rotate_left 11
  ·intro q a4 i a h;obtain⟨c,rfl⟩:=ae i;have g6:=ab a 6 18 zK rfl;simp[evF] at g6;have g0:=ab a 10 22 zK rfl;simp[evF] at g0;clear a h;go_simp;refine(e2.o c.w c.ext).mono ?_;rintro e h9 (⟨f,p7,p,rfl,rfl,j⟩|⟨L,p,rfl,j⟩);rotate_left
   ·exact⟨rfl,L,p,rfl,c.ext.trans j⟩
   have H:=Hd p;clear p;go_simp;first|exact⟨_,rfl,j,f,H.o,rfl⟩|exact⟨j,f,H.o,rfl⟩|exact⟨_,rfl,f,H.o,rfl⟩
  ·intro q a4 i a h;obtain⟨c,rfl⟩:=ae i;have g3:=ab a 3 15 zK rfl;simp[evF] at g3;have g5:=ab a 5 17 zK rfl;simp[evF] at g5;obtain⟨z,c5,g1⟩:=ab a 11 23 zK rfl;simp at g1;have I:=Hd c5;clear c5;clear a h;go_simp;refine(e1.o z c.w c.ext).mono ?_;rintro e h9 ⟨d,rfl,D,j⟩;have f8:=D.oneCell;go_simp;first|exact⟨_,rfl,j,z,I.o,d,rfl,D⟩|exact⟨j,z,I.o,d,rfl,D⟩|exact⟨_,rfl,z,I.o,d,rfl,D⟩
  all_goals
   intro q a4 i a h;obtain⟨c,rfl⟩:=ae i;try (have f9:=ab a 1 13 zD rfl;simp[evF] at f9)
   try (have g2:=ab a 2 14 zD rfl;simp[evF] at g2)
   try (have g4:=ab a 4 16 zD rfl;simp[evF] at g4)
   try (have g7:=ab a 7 19 zD rfl;simp[evF] at g7)
   try (have g8:=ab a 8 20 zD rfl;simp[evF] at g8)
   try (have g9:=ab a 9 21 zD rfl;simp[evF] at g9)
   have h0:=ah h 4 zK;simp at h0;have h1:=ah h 5 zK;simp at h1;clear a h;exact zA
 ·intro q a4 f0;obtain⟨e6,rfl,i,X,f5⟩:=f0.fin (n:=154) rfl;obtain⟨c,rfl⟩:=ae i;have d0:e6 12=.pointer (some ⟨sb,0,none⟩):=X 0 12 rfl rfl;obtain⟨f,c6,d,d1,Z⟩:=X 12 24 rfl rfl;clear X f5;simp only[List.drop_succ_cons,List.drop_zero];simp[List.range,List.range.loop,d0,d1];clear d0 d1;have a9:=Hd c6;have d7:=Hd Z;have A:=l.o.blk.ext c.ext;have f8:=Z.oneCell;obtain⟨n9,o0,o1⟩:=A.free3;obtain⟨n6,n7,n8⟩:=A.get3;obtain⟨y,C⟩:∃y,y=(((c.w.setCell ⟨sb,0,none⟩ d).setCell ⟨sb,1,none⟩ (.map (some mp))).setCell ⟨sb,2,none⟩ (.string s.path)):=⟨_,rfl⟩;have l4:=C.symm;have b3:Blk y sb 126 [d,.map (some mp),.string s.path]:=by rw[C];exact A.store3 _ _ _
  have c2:Chg (λe3=>e3=sb) c.w y:=by rw[C];exact kg _ _ _ _ _
  have a8:=Hd (a5.o.con (K.o.trans c.ext) c2 b3 d7.o (hV a9.o) zO);clear C c2 b3 A;clear c6 Z;go_wp2_with fail
  refine bodyPost_ret (v:=aO) ?_ rfl (.ok (by rw[a6.o,a9.o];rfl) ⟨rfl,a8.o.1,a8.o.2,by show(s.env++[_]).length<=_;rw[List.length_append];simp only[List.length_cons,List.length_nil];omega,rfl⟩);simp[results,results76,go_sem,aO]
def fE(W0:World)(B N0 mb:Nat)(vf:Value)(inst:Itm->Sc->Mk->Rs Mk)(k:Nat)(l:List Itm):Prop:=
 ∀(sb mp:Nat) (m:Mk) (s:Sc) (w:World) (a:Value),EC W0 B N0 mb sb mp vf m s w->s.env.length+aa aj l<=1000000->s.path.size+100*(k*70000+aa aj l)<=1000000000->Sl (RI W0 B) W0 B 9 l a->
  bv Tryz.prog 39 #[.pointer (some ⟨mb,0,none⟩),.pointer (some ⟨sb,0,none⟩),a] w (aZ inst l s m) (ER W0 B N0 mb sb mp vf (aa aj l) s w) (FrI N0 mb sb mp w)
theorem jY(W0:World)(B N0 mb:Nat)(vf:Value)(inst:Itm->Sc->Mk->Rs Mk)(a2:Nat)(l:List Itm)(W:∀F,F∈l->eF W0 B N0 mb vf inst a2 F):fE W0 B N0 mb vf inst a2 l:=by
 intro sb mp m s w i8 M X a0 c9;have a4:=Hd M;have a7:=Hd W;have I:=Hd (aq X a0);have h8:l.length<=1000000:=by
  have:=aw aj l (λx=>by have:=bq x;omega);omega
 obtain⟨g7,g9,rfl,h5,a1⟩:=c9;have b1:=Hd a1;obtain⟨h,f⟩:∃h,h=aZ inst l s m:=⟨_,rfl⟩;rw[<-f];have K:=Hd (show h=aZ inst (l.drop 0) s m from f);clear a1 W f M X a0;go_enter func39,ntmps39;go_wp2_with fail
 go_loopw [10] (λD wr=>∃(a:Nat) (s':Sc) (m':Mk),a<=l.length/\D=.int .i64 a/\EC W0 B N0 mb sb mp vf m' s' wr/\FrI N0 mb sb mp w wr/\s'.env.length+aa aj (l.drop a)<=s.env.length+aa aj l/\s'.path=s.path/\h=aZ inst (l.drop a) s' m') (λD _=>l.length - (intOf D).toNat)
 case atStart=>exact⟨0,s,m,aA _,rfl,a4.o,FrI.refl _ _ _ _ _,by rw[List.drop_zero];exact ac _,rfl,K.o⟩
 case round=>
  obtain⟨a,s',m',h7,rfl,g,b,i,n,f⟩:=hrel;clear K;have G:=Hd g;have u:=Hd b;have y:=Hd n;by_cases k:a<l.length
  ·rw[List.drop_eq_getElem_cons k,aZ] at f;rw[List.drop_eq_getElem_cons k] at i;have d3:aa aj (l[a]::l.drop (a+1))=aj l[a]+aa aj (l.drop (a+1)):=rfl;have Z:=ay aj l l[a] (an k);obtain⟨g8,o,h0,d6,h4,h6,T,d5,z⟩:=b1.o _ k;subst d6;have b0:=Hd z;obtain⟨f7,f8,f9,g0,g1,g2,rfl,N,O,P,Q,R,S⟩:=RI_iff.1 z;have i1:=N.oneCell;have i2:=O.oneCell;have i3:=P.oneCell;have i4:=Q.oneCell;have i5:=R.oneCell;have i6:=S.oneCell;obtain⟨b8,b9,c2,c3,c4,c5,c6,c7,c8⟩:=(T.ext g.cx.ext).get9;obtain⟨b6,U,C,A⟩:=bM wr (.int .i64 l[a].op) (.string l[a].name) (.string l[a].of) f7 f8 f9 g0 g1 g2 37;have d0:=U.symm;obtain⟨d8,d9,e0,e1,e2,e3,e4,e5,e6⟩:=A.get9;have t:=Hd (G.o.ext C);obtain⟨g5,g4,g3,i7,p⟩:=t.o.stc;have b2:=Hd p;have b4:=Hd (ej N0 mb vf g5 g4 g3 m' 1 b6 p.mk_ p.c0 p.c1 zD zD);have h3:=I.o;have b5:=Hd (a7.o l[a] (an k));have L:=Hd C;have a3:=Hd A;have d4:¬wr.heap.size=mb:=by have:=g.mlt.1;omega
   have b3:=Hd (show s'.env.length+aj l[a]+aa aj (l.drop (a+1))<=s.env.length+aa aj l/\aj l[a]<=aa aj l from⟨zO,Z⟩);generalize l[a]=F at*;have j:=Hd f;clear U C A T z f N O P Q R S d5 b i n p g d3 Z;go_wp2_with fail
   go_at_call 75;refine b4.o.mono ?_;rintro e g6 (⟨E,f6,c,rfl,rfl,Y,b⟩|⟨b7,c,rfl,b⟩);rotate_left
   ·exact⟨rfl,.no (by rw[j.o,c];rfl) ((u.o.trans (.of_ext L.o)).trans (.of_chg b))⟩
   have q:=ee c zD;have a5:=Hd (EC.of_stc t.o (.of_chg b) (b2.o.frS b Y q) q);have H:=Hd ((u.o.trans (.of_ext L.o)).trans (.of_chg b));have d1:(E.d.chks.length:Int)+1<=E.count:=by
    have h1:=t.o.inv.ck;have h2:=(cP c).1;rw[q.d];omega
   obtain⟨e7,e8,e9,f0,f1,f2,f3,f4,f5⟩:=(b.blk a3.o d4).get9;have h9:=b3.o;have i0:=I.o;have KJ:=Hd (b5.o sb mp E s' g6 _ a5.o d1 zO (by rw[y.o];omega) b0.o);have J:=Hd c;clear c Y b q b8 b9 c2 c3 c4 c5 c6 c7 c8 d8 d9 e0 e1 e2 e3 e4 e5 e6 d0;go_wp2_with fail
   go_at_call 76;refine KJ.o.mono ?_;rintro e i9 (⟨r,f6,c,rfl,d7,g,b,i,n⟩|⟨b7,c,rfl,b⟩);rotate_left
   ·exact⟨rfl,.no (by rw[j.o,J.o];simp only[bind,Except.bind];rw[c]) (H.o.trans b)⟩
   subst d7;have a6:=Hd g;have a8:=Hd (H.o.trans b);have a9:=Hd (show h=aZ inst (l.drop (a+1)) r.1 r.2 by rw[j.o,J.o];simp only[bind,Except.bind];rw[c]);clear g b c e7 e8 e9 f0 f1 f2 f3 f4 f5;go_wp2_with fail
   go_roundw;case rel=>exact⟨a+1,r.1,r.2,zO,zN,a6.o,a8.o,zO,n.trans y.o,a9.o⟩
   case measure=>simp[intOf];omega
  ·have V:l.drop a=[]:=by rw[List.drop_eq_nil_iff];omega
   rw[V] at f i;have j:=Hd (show h=.ok (s',m') by rw[f,aZ]);have d2:s'.env.length<=s.env.length+aa aj l:=i;clear f V i b g n;go_wp2_with fail
   refine bodyPost_ret (v:=aO) ?_ rfl (.ok j.o ⟨rfl,G.o,u.o,d2,y.o⟩);simp[results,results39,go_sem,aO]
theorem AU(W0:World)(B N0 mb:Nat)(vf:Value)(inst:Itm->Sc->Mk->Rs Mk)(k:Nat)(t:Itm)(c2:t.op=3)(c4:∀g2,g2∈t.x->VX g2)(h2:t.x.length=2)(p1:t.name.size<=64):eF W0 B N0 mb vf inst k t:=by
 intro sb mp m s w n3 f o5 o9 p2 a9;have L:=Hd f;have i3:=f.inv.b0;have i5:=f.inv.b1;have j3:=f.inv.sg;have p4:=f.inv.pr;have o3:=f.inv.c0;have o4:=f.inv.c1;obtain⟨p0,p8,p6,j4,p3,p5,o0⟩:=f.mlt;obtain⟨k7,k8,k9,l0,l1,l2,rfl,a3,a4,a5,a6,d9,e0⟩:=RI_iff.1 a9;have q4:=a3.oneCell;have q5:=a4.oneCell;have q6:=a5.oneCell;have q7:=a6.oneCell;have q8:=d9.oneCell;have q9:=e0.oneCell;have h1:=Hd a3;have m1:=Hd a4;have m2:=Hd a5;have m3:=Hd a6;have l9:=Hd a9;obtain⟨Z,e1,e9,I⟩:=aL w (.pointer (some ⟨mb,0,none⟩)) 97;obtain⟨C,e2,c5,b4⟩:=aL Z (.pointer (some ⟨sb,0,none⟩)) 100;obtain⟨l,e3,Q,b5⟩:=bM C (.int .i64 t.op) (.string t.name) (.string t.of) k7 k8 k9 l0 l1 l2 37;have o1:=e1.symm;have o2:=e2.symm;have r0:w.heap.size<Z.heap.size:=I.lt;have r1:Z.heap.size<C.heap.size:=b4.lt;have r2:C.heap.size<l.heap.size:=b5.lt;have g3:=Hd (I.ext (c5.trans Q));have g4:=Hd (b4.ext Q);have g5:=Hd b5;have G:=Hd (e9.trans (c5.trans Q));have F:=Hd (f.ext G.o);obtain⟨i1,b6⟩:=ae (W:=l) (w:=l) (af _);have i2:=e3.symm.trans b6;obtain⟨h7,m5,m6,m7,m8,m9,n0,n1,n2⟩:=g5.o.later9;have q1:=cellAt (g3.o.cell 0);have q2:=cellAt (g4.o.cell 0);have m0:=Hd b6;clear b6 e1 e2 e3 e9 c5 Q I b4 b5 f a3 a4 a5 a6 d9 e0 a9;have p7:1+aa al t.x<=1000000000:=by have:=bq t;omega
 obtain⟨q0,f6,rfl,o8,b9⟩:=h1.o;have b8:0<t.x.length:=by omega
 have P:1<t.x.length:=by omega
 obtain⟨N,R,r3,i6,i4,i8,a7,j0,b2⟩:=b9 0 b8;obtain⟨m4,q3,r4,i7,I,i9,a8,j1,b3⟩:=b9 1 P;subst i6;injection i7 with a2;injection a2 with a2 i0;subst a2;subst i0;have g9:=Hd (XOk.of (an b8) b2 zO c4);have h0:=Hd (XOk.of (an P) b3 zO c4);obtain⟨l7,rfl,d7⟩:=RX_iff.1 b2;obtain⟨l8,rfl,d8⟩:=RX_iff.1 b3;simp only[Nat.zero_mul,Nat.add_zero,Nat.one_mul] at a7 a8;have j5:=dh (k:=0) b8;have j6:=dh (k:=1) P;have u0:=d7.oneCell;have u1:=d8.oneCell;obtain⟨n4,n5,n6,n7,n8,n9⟩:=(a7.ext F.o.cx.ext).later6;obtain⟨f7,f8,S,f9,g0,T⟩:=(a8.ext F.o.cx.ext).later6;have o6:(0:Int)<(t.x.length:Int):=by omega
 have o7:(1:Int)<(t.x.length:Int):=by omega
 have M:=Hd (show aF inst t s m=(do let K<-cj s t.x[0];let b<-eH s t.x[1];cI t.name K 4 b.2 s m) by rw[lP inst t s m c2,show xAt t.x 0=t.x[0] from j5,show xAt t.x 1=t.x[1] from j6]);obtain⟨l5,l4,l3,d1,e5,e8⟩:=F.o.ex;have g8:=Hd e5;have X:=Hd e8;have d4:=Hd L.o.gd.env;clear e5 e8;generalize t.x[0]=x0 at*;generalize t.x[1]=x1 at*;rw[c2] at i2 h7;rw[c2];clear b9 b2 b3 d7 d8 i8 i9 i4 I a7 a8 j0 j1 c4 h2 P;have h5:=Hd (λ(w':World) (J:Ext l w')=>jq W0 B x0 _ sb mp d1 s w' (F.o.cx.later J) g9.o (X.o.ext J) d4.o);have h3:=Hd (λ(w':World) (J:Ext l w')=>oW W0 B x1 _ sb mp d1 s w' (F.o.cx.later J) h0.o (X.o.ext J) d4.o);go_enter func76,ntmps76;go_wp2_with fail
 refine bD 7 (W:=l) (Ext) (evF 5 6 (cj s x0) (λh=>.int .i64 h) (λh v _=>v=.int .i64 h) [.pointer (some ⟨sb,0,none⟩),.pointer (some ⟨C.heap.size,3,none⟩),.slice (some ⟨N,R,none⟩) t.x.length f6,.pointer (some ⟨N,R,none⟩),.agg #[.int .i64 x0.op,.string x0.name,.int .i64 x0.n,.int .i64 x0.w,.int .u64 x0.v,l7],undef,undef]) (evP (cj s x0) l) (λ_=>true) zK (bo) zK zK ?_ (ag i1) (λj7 v w w' f z=>gA (λ_ _ _ _ f _=>f) f z) ?_ (λj h8 d2 a c3=>by
  obtain⟨r,c,rfl,z⟩:=c3;obtain⟨k6,h9⟩:=j;simp only at a;subst a;have U:=Hd (show RunsP (aF inst t s m) (ER W0 B N0 mb sb mp vf (aj t) s w) (FrI N0 mb sb mp w) (.panicked (aR r)) d2 from .no (by rw[M.o];rw[c];rfl) (.of_ext (G.o.trans z)));exact⟨rfl,U.o⟩) ?_
 ·exact⟨rfl,rfl,rfl,rfl,rfl,rfl,rfl,trivial⟩
 ·refine⟨?_,?_,?_,?_,?_,?_,?_,trivial⟩;rotate_left 5
  ·intro j A i a g;obtain⟨d,rfl⟩:=ae i;have f7:=ab a 0 41 zK rfl;simp[evF] at f7;have g0:=ab a 4 45 zK rfl;simp[evF] at g0;clear a g;go_simp;refine(h5.o d.w d.ext).mono ?_;rintro e l6 (⟨h,g1,c,rfl,rfl,q⟩|⟨r,c,rfl,q⟩);rotate_left
   ·exact⟨rfl,r,c,rfl,d.ext.trans q⟩
   have u:=Hd c;clear c;go_simp;first|exact⟨_,rfl,q,h,u.o,rfl⟩|exact⟨q,h,u.o,rfl⟩|exact⟨_,rfl,h,u.o,rfl⟩
  ·intro j A i a g;obtain⟨d,rfl⟩:=ae i;obtain⟨a1,D,T⟩:=ab a 5 46 zK rfl;simp at T;have y:=Hd D;clear D;clear a g;go_simp;first|exact⟨_,rfl,af _,a1,y.o,rfl⟩|exact⟨af _,a1,y.o,rfl⟩|exact⟨_,rfl,a1,y.o,rfl⟩
  all_goals
   intro j A i a g;obtain⟨d,rfl⟩:=ae i;try (have f8:=ab a 1 42 zD rfl;simp[evF] at f8)
   try (have S:=ab a 2 43 zD rfl;simp[evF] at S)
   try (have f9:=ab a 3 44 zD rfl;simp[evF] at f9)
   have c9:=ah g 4 zK;simp at c9;have d0:=ah g 5 zK;simp at d0;clear a g;exact zA
 ·intro j A b7;obtain⟨H,rfl,i,p,E⟩:=b7.fin (n:=154) rfl;obtain⟨d,rfl⟩:=ae i;have c6:=E 3 zK;have c7:=E 4 zK;have c8:=E 5 zK;obtain⟨K,D,f5⟩:=p 6 6 rfl rfl;clear p E;simp at c6 c7 c8;simp only[List.drop_succ_cons,List.drop_zero];simp[List.range,List.range.loop,c6,c7,c8,f5];clear c6 c7 c8 f5;have Y:=Hd (gS D);have p9:=Y.o;have y:=Hd D;clear D;go_wp2_with fail
  refine bD 12 (W:=l) (Ext) (evF 10 11 (eH s x1) (λh=>.agg #[.int .i64 h.1,.int .u64 h.2]) (λh v _=>v=.int .u64 h.2) [.pointer (some ⟨mb,0,none⟩),.pointer (some ⟨sb,0,none⟩),.pointer (some ⟨C.heap.size,1,none⟩),.string t.name,.int .i64 K,.pointer (some ⟨sb,0,none⟩),.pointer (some ⟨C.heap.size,3,none⟩),.slice (some ⟨N,R,none⟩) t.x.length f6,.pointer (some ⟨N,R+6,none⟩),.agg #[.int .i64 x1.op,.string x1.name,.int .i64 x1.n,.int .i64 x1.w,.int .u64 x1.v,l8],undef,undef]) (evP (eH s x1) l) (λ_=>true) zK (bo) zK zK ?_ (d.ext) (λj7 v w w' f z=>gA (λ_ _ _ _ f _=>f) f z) ?_ (λj h8 d2 a c3=>by
   obtain⟨r,c,rfl,z⟩:=c3;obtain⟨k6,h9⟩:=j;simp only at a;subst a;have U:=Hd (show RunsP (aF inst t s m) (ER W0 B N0 mb sb mp vf (aj t) s w) (FrI N0 mb sb mp w) (.panicked (aR r)) d2 from .no (by rw[M.o];simp only[bind,Except.bind];rw[y.o];simp only;rw[c]) (.of_ext (G.o.trans z)));exact⟨rfl,U.o⟩) ?_
  ·exact⟨rfl,rfl,rfl,rfl,rfl,rfl,rfl,rfl,rfl,rfl,rfl,rfl,trivial⟩
  ·refine⟨?_,?_,?_,?_,?_,?_,?_,?_,?_,?_,?_,?_,trivial⟩;rotate_left 10
   ·intro j A i a g;obtain⟨d,rfl⟩:=ae i;have T:=ab a 5 52 zK rfl;simp[evF] at T;have k2:=ab a 9 56 zK rfl;simp[evF] at k2;clear a g;go_simp;refine(h3.o d.w d.ext).mono ?_;rintro e l6 (⟨h,g1,c,rfl,rfl,q⟩|⟨r,c,rfl,q⟩);rotate_left
    ·exact⟨rfl,r,c,rfl,d.ext.trans q⟩
    have u:=Hd c;clear c;go_simp;first|exact⟨_,rfl,q,h,u.o,rfl⟩|exact⟨q,h,u.o,rfl⟩|exact⟨_,rfl,h,u.o,rfl⟩
   ·intro j A i a g;obtain⟨d,rfl⟩:=ae i;obtain⟨a0,e6,j8⟩:=ab a 10 57 zK rfl;simp at j8;have V:=Hd e6;clear e6;clear a g;go_simp;first|exact⟨_,rfl,af _,a0,V.o,rfl⟩|exact⟨af _,a0,V.o,rfl⟩|exact⟨_,rfl,a0,V.o,rfl⟩
   all_goals
    intro j A i a g;obtain⟨d,rfl⟩:=ae i;try (have S:=ab a 2 49 zD rfl;simp[evF] at S)
    try (have j9:=ab a 6 53 zD rfl;simp[evF] at j9)
    try (have k0:=ab a 7 54 zD rfl;simp[evF] at k0)
    try (have k1:=ab a 8 55 zD rfl;simp[evF] at k1)
    have k4:=ah g 3 zK;simp at k4;have c9:=ah g 4 zK;simp at c9;have d0:=ah g 5 zK;simp at d0;have k5:=ah g 6 zK;simp at k5;clear a g;exact zA
  ·intro j A b7;obtain⟨H,rfl,i,p,E⟩:=b7.fin (n:=154) rfl;obtain⟨d,rfl⟩:=ae i;have f0:H 47=.pointer (some ⟨mb,0,none⟩):=p 0 47 rfl rfl;have f1:H 48=.pointer (some ⟨sb,0,none⟩):=p 1 48 rfl rfl;have f2:H 50=.string t.name:=p 3 50 rfl rfl;have f3:H 51=.int .i64 K:=p 4 51 rfl rfl;obtain⟨h6,j2,f4⟩:=p 11 58 rfl rfl;clear p E;simp only[List.drop_succ_cons,List.drop_zero];simp[List.range,List.range.loop,f0,f1,f2,f3,f4];clear f0 f1 f2 f3 f4;have d5:=Hd j2;have h4:=Hd (mt N0 mb sb mp vf l5 l4 l3 d1 m s t.name K 4 h6.2 d.w (g8.o.ext d.ext) (X.o.ext d.ext) j4 j3 i3 i5 zO zO zO zO);go_wp2_with fail
   go_at_call 73;refine h4.o.mono ?_;rintro e r9 (⟨k3,g1,c,rfl,rfl,⟨r8,r7,r5,e4,O⟩,⟨r6,e7⟩⟩|⟨r,c,rfl,O⟩);rotate_left
   ·exact⟨rfl,.no (by rw[M.o];simp only[bind,Except.bind];rw[y.o];simp only;rw[d5.o];exact c) ((cb (G.o.trans d.ext)).trans O)⟩
   have d3:=Hd ((cb (G.o.trans d.ext)).trans O);have g7:=Hd (L.o.frI d3.o e4 e7 (L.o.gd.signal c Y.o) (L.o.inv.signal c Y.o));have g6:=Hd (show aF inst t s m=.ok k3 by rw[M.o];simp only[bind,Except.bind];rw[y.o];simp only;rw[d5.o];exact c);have d6:=Hd (eY c).1;clear e4 e7 O c;go_wp2_with fail
   refine bodyPost_ret (v:=aO) ?_ rfl (.ok g6.o ⟨rfl,g7.o,d3.o,by rw[d6.o];exact Nat.le_add_right _ _,by rw[d6.o]⟩);simp[results,results76,go_sem,aO]
theorem Af(W0:World)(B N0 mb:Nat)(vf:Value)(inst:Itm->Sc->Mk->Rs Mk)(k:Nat)(t:Itm)(a5:t.op=8)(d2:∀h,h∈t.x->VX h)(h2:t.x.length=1)(c6:fE W0 B N0 mb vf inst k t.l)(c5:fE W0 B N0 mb vf inst k t.els):eF W0 B N0 mb vf inst k t:=by
 intro sb mp m s w j5 c l1 l4 l6 X;have e3:=Hd c;have k7:=c.inv.b0;have k8:=c.inv.b1;have m2:=c.inv.sg;have l8:=c.inv.pr;have k9:=c.inv.c0;have l0:=c.inv.c1;obtain⟨l5,m4,m0,m3,l7,l9,k4⟩:=c.mlt;obtain⟨h4,h5,d8,d9,h6,h7,rfl,R,S,T,U,b7,b8⟩:=RI_iff.1 X;have m9:=R.oneCell;have n0:=S.oneCell;have n1:=T.oneCell;have n2:=U.oneCell;have n3:=b7.oneCell;have n4:=b8.oneCell;have f0:=Hd R;have i5:=Hd S;have f1:=Hd T;have f2:=Hd U;have i3:=Hd X;obtain⟨P,b9,d4,Z⟩:=aL w (.pointer (some ⟨mb,0,none⟩)) 97;obtain⟨D,c2,a8,a0⟩:=aL P (.pointer (some ⟨sb,0,none⟩)) 100;obtain⟨p,c3,G,a1⟩:=bM D (.int .i64 t.op) (.string t.name) (.string t.of) h4 h5 d8 d9 h6 h7 37;have k5:=b9.symm;have k6:=c2.symm;have n5:w.heap.size<P.heap.size:=Z.lt;have n6:P.heap.size<D.heap.size:=a0.lt;have n7:D.heap.size<p.heap.size:=a1.lt;have e0:=Hd (Z.ext (a8.trans G));have e1:=Hd (a0.ext G);have e2:=Hd a1;have q:=Hd (d4.trans (a8.trans G));have u:=Hd (c.ext q.o);obtain⟨f5,a2⟩:=ae (W:=p) (w:=p) (af _);have f6:=c3.symm.trans a2;obtain⟨f4,i6,i7,i8,i9,j0,j1,j2,j3⟩:=e2.o.later9;have m7:=cellAt (e0.o.cell 0);have m8:=cellAt (e1.o.cell 0);have i4:=Hd a2;clear a2 b9 c2 c3 d4 a8 G Z a0 a1 c R S T U b7 b8 X;have m1:1+aa al t.x<=1000000000:=by have:=bq t;omega
 obtain⟨m6,g4,rfl,l3,c7⟩:=f0.o;have a4:0<t.x.length:=by omega
 obtain⟨b5,d6,n8,f9,f7,g0,V,g1,Y⟩:=c7 0 a4;subst f9;have e9:=Hd (XOk.of (an a4) Y zO d2);obtain⟨i1,rfl,b6⟩:=RX_iff.1 Y;simp only[Nat.zero_mul,Nat.add_zero] at V;have g3:=dh (k:=0) a4;have u0:=b6.oneCell;obtain⟨j6,j7,j8,j9,k0,k1⟩:=(V.ext u.o.cx.ext).later6;have l2:(0:Int)<(t.x.length:Int):=by omega
 have y:=Hd (show aF inst t s m=(do let v<-aI s t.x[0];if v≠0 then aZ inst t.l s m else aZ inst t.els s m) by rw[lB inst t s m a5,show xAt t.x 0=t.x[0] from g3]);obtain⟨o2,o1,o0,h8,c8,d1⟩:=u.o.ex;have i2:=Hd c8;have e8:=Hd d1;have e5:=Hd e3.o.gd.env;clear c8 d1;generalize t.x[0]=x0 at*;have e6:=Hd c6;have e4:=Hd c5;rw[a5] at f6 f4;rw[a5];clear c7 Y b6 g0 f7 V g1 c6 c5 d2 h2;have f3:=Hd (λ(w':World) (d3:Ext p w')=>fR W0 B x0 _ sb mp h8 s w' (u.o.cx.later d3) e9.o (e8.o.ext d3) e5.o);go_enter func76,ntmps76;go_wp2_with fail
 refine bD 7 (W:=p) (Ext) (evF 5 6 (aI s x0) (λf=>.int .i64 f) (λf v w'=>v=.bool (!decide (f=0))) [.pointer (some ⟨sb,0,none⟩),.pointer (some ⟨D.heap.size,3,none⟩),.slice (some ⟨b5,d6,none⟩) t.x.length g4,.pointer (some ⟨b5,d6,none⟩),.agg #[.int .i64 x0.op,.string x0.name,.int .i64 x0.n,.int .i64 x0.w,.int .u64 x0.v,i1],undef,undef]) (evP (aI s x0) p) (λ_=>true) zK (bo) zK zK ?_ (ag f5) (λm5 v w w' c F=>gA (λ_ _ _ _ c F=>c) c F) ?_ (λr j4 i0 d g2=>by
  obtain⟨z,a,rfl,F⟩:=g2;obtain⟨n9,k2⟩:=r;simp only at d;subst d;have e7:=Hd (show RunsP (aF inst t s m) (ER W0 B N0 mb sb mp vf (aj t) s w) (FrI N0 mb sb mp w) (.panicked (aR z)) i0 from .no (by rw[y.o];rw[a];rfl) (.of_ext (q.o.trans F)));exact⟨rfl,e7.o⟩) ?_
 ·exact⟨rfl,rfl,rfl,rfl,rfl,rfl,rfl,trivial⟩
 ·refine⟨?_,?_,?_,?_,?_,?_,?_,trivial⟩;rotate_left 5
  ·intro r b4 j d i;obtain⟨b,rfl⟩:=ae j;have g5:=ab d 0 129 zK rfl;simp[evF] at g5;have g9:=ab d 4 133 zK rfl;simp[evF] at g9;clear d i;go_simp;refine(f3.o b.w b.ext).mono ?_;rintro e o3 (⟨f,d7,a,rfl,rfl,H⟩|⟨z,a,rfl,H⟩);rotate_left
   ·exact⟨rfl,z,a,rfl,b.ext.trans H⟩
   have M:=Hd a;clear a;go_simp;first|exact⟨_,rfl,H,f,M.o,rfl⟩|exact⟨H,f,M.o,rfl⟩|exact⟨_,rfl,f,M.o,rfl⟩
  ·intro r b4 j d i;obtain⟨b,rfl⟩:=ae j;obtain⟨Q,c9,h0⟩:=ab d 5 134 zK rfl;simp at h0;have N:=Hd c9;clear c9;clear d i;go_simp;first|exact⟨_,rfl,af _,Q,N.o,rfl⟩|exact⟨af _,Q,N.o,rfl⟩|exact⟨_,rfl,Q,N.o,rfl⟩
  all_goals
   intro r b4 j d i;obtain⟨b,rfl⟩:=ae j;try (have g6:=ab d 1 130 zD rfl;simp[evF] at g6)
   try (have g7:=ab d 2 131 zD rfl;simp[evF] at g7)
   try (have g8:=ab d 3 132 zD rfl;simp[evF] at g8)
   have h1:=ah i 4 zK;simp at h1;have h3:=ah i 5 zK;simp at h3;clear d i;exact zA
 ·intro r b4 f8;obtain⟨k3,rfl,j,c4,E⟩:=f8.fin (n:=154) rfl;obtain⟨b,rfl⟩:=ae j;have a9:=E 3 zK;have b2:=E 4 zK;have b3:=E 5 zK;obtain⟨f,d0,d5⟩:=c4 6 135 rfl rfl;clear c4 E;simp at a9 b2 b3;simp only[List.drop_succ_cons,List.drop_zero];simp[List.range,List.range.loop,a9,b2,b3,d5];clear a9 b2 b3 d5;have C:=Hd d0;clear d0;by_cases ha:f=0
  ·subst ha;have O:=Hd (e4.o sb mp m s b.w d9 (u.o.ext b.ext) (by have:=bq t;omega) (by have:=bq t;omega) f2.o);go_wp2_with fail
   go_at_call 39;refine O.o.mono ?_;rintro e h9 (⟨h,d7,a,rfl,a7,A,g,a3,a6⟩|⟨z,a,rfl,g⟩);rotate_left
   ·exact⟨rfl,.no (by rw[y.o,C.o];simp only[bind,Except.bind];rw[if_neg zS];exact a) ((cb (q.o.trans b.ext)).trans g)⟩
   subst a7;have J:=Hd A;have K:=Hd ((cb (q.o.trans b.ext)).trans g);have I:=Hd (show aF inst t s m=.ok h by rw[y.o,C.o];simp only[bind,Except.bind];rw[if_neg zS];exact a);have L:=Hd (show h.1.env.length<=s.env.length+aj t by have:=bq t;omega);clear A g a a3;go_wp2_with fail
   refine bodyPost_ret (v:=aO) ?_ rfl (.ok I.o ⟨rfl,J.o,K.o,L.o,a6⟩);simp[results,results76,go_sem,aO]
  ·simp only[show decide (f=0)=false from decide_eq_false ha,Bool.not_false];have O:=Hd (e6.o sb mp m s b.w d8 (u.o.ext b.ext) (by have:=bq t;omega) (by have:=bq t;omega) f1.o);go_wp2_with fail
   go_at_call 39;refine O.o.mono ?_;rintro e h9 (⟨h,d7,a,rfl,a7,A,g,a3,a6⟩|⟨z,a,rfl,g⟩);rotate_left
   ·exact⟨rfl,.no (by rw[y.o,C.o];simp only[bind,Except.bind];rw[if_pos ha];exact a) ((cb (q.o.trans b.ext)).trans g)⟩
   subst a7;have J:=Hd A;have K:=Hd ((cb (q.o.trans b.ext)).trans g);have I:=Hd (show aF inst t s m=.ok h by rw[y.o,C.o];simp only[bind,Except.bind];rw[if_pos ha];exact a);have L:=Hd (show h.1.env.length<=s.env.length+aj t by have:=bq t;omega);clear A g a a3;go_wp2_with fail
   refine bodyPost_ret (v:=aO) ?_ rfl (.ok I.o ⟨rfl,J.o,K.o,L.o,a6⟩);simp[results,results76,go_sem,aO]
theorem FrI.wide{N0 mb sb mp n:Nat}{w w':World}(a:FrI N0 mb n n w w')(f:w.heap.size<=n):FrI N0 mb sb mp w w':=
 ⟨a.os,a.tape,a.output,a.size,λe d b _ _ c=>a.block e d b zO zO c⟩
theorem ScI.frI{N0 mb sb mp n:Nat}{c:Value}{s:Sc}{w w':World}(h:ScI w sb mp c s)(a:FrI N0 mb n n w w')(g:w.heap.size<=n)(b:Tag w mb 99):ScI w' sb mp c s:=by
 have d:=h.blk.lt;have f:=h.map.lt;exact⟨a.blk h.blk ⟨zD,zD,zD⟩ (λe=>absurd (h.blk.tag.one (e▸b)) zD) zO zO,h.env.keep (.inr (.inr rfl)) (a.kp b (λe=>absurd e zO) (λe=>absurd e zO)) (λ_ _ _ h=>h),a.map h.map (λe=>h.map.noTag (e▸b)) zO zO⟩
theorem EC.process{W0 w a w':World}{B N0 mb sb mp:Nat}{vf x u r y v t:Value}{m m1 b:Mk}{s:Sc}{j:Bool}{l:List DT}(h:EC W0 B N0 mb sb mp vf m s w)(e:FrS mb w a)(p:MkI a N0 mb vf x u r m1)(c:CntM m m1)(i:ca j l m1=.ok b)(q:MkI w' N0 mb vf y v t b)(f:FrI N0 mb a.heap.size a.heap.size a w'):
 EC W0 B N0 mb sb mp vf b s w'/\FrI N0 mb sb mp w w':=by
 obtain⟨D,C,z,A,k,n⟩:=h.ex;have g:=(FrI.of_chg (N0:=N0) (sb:=sb) (mp:=mp) e).trans (f.wide (sb:=sb) (mp:=mp) (ac _));have o:b.d.sigs=m.d.sigs:=by rw[(fC i).1,<-c.d]
 exact⟨h.frI g q ((n.frS e k.blk.tag).frI f (ac _) p.blk.tag) (by rw[o];exact h.gd) ((h.inv.cnt c).process i),g⟩
theorem BJ(W0:World)(B N0 mb:Nat)(vf:Value)(inst:Itm->Sc->Mk->Rs Mk)(k:Nat)(t:Itm)(N:t.op=5)(c7:∀b,b∈t.s->VS b)(c6:∀b,b∈t.s->MayS b):eF W0 B N0 mb vf inst k t:=by
 intro sb mp m s w i9 a k0 k1 k4 Z;have d6:=Hd a;have j6:=a.inv.b0;have j7:=a.inv.b1;have k8:=a.inv.sg;have f4:=a.inv.pr;have j8:=a.inv.c0;have j9:=a.inv.c1;obtain⟨k3,l0,k7,k9,k5,k6,j3⟩:=a.mlt;obtain⟨h0,a8,h1,h2,h3,h4,rfl,K,D,L,Y,b8,b9⟩:=RI_iff.1 Z;have l3:=K.oneCell;have l4:=D.oneCell;have l5:=L.oneCell;have l6:=Y.oneCell;have l7:=b8.oneCell;have l8:=b9.oneCell;have h7:=Hd K;have e7:=Hd D;have h8:=Hd L;have h9:=Hd Y;have h6:=Hd Z;obtain⟨G,c2,c9,a0⟩:=aL w (.pointer (some ⟨mb,0,none⟩)) 97;obtain⟨C,c3,a6,a1⟩:=aL G (.pointer (some ⟨sb,0,none⟩)) 100;obtain⟨l,c4,O,a2⟩:=bM C (.int .i64 t.op) (.string t.name) (.string t.of) h0 a8 h1 h2 h3 h4 37;have j4:=c2.symm;have j5:=c3.symm;have l9:w.heap.size<G.heap.size:=a0.lt;have m0:G.heap.size<C.heap.size:=a1.lt;have m1:C.heap.size<l.heap.size:=a2.lt;have a9:=Hd (a0.ext (a6.trans O));have b2:=Hd (a1.ext O);have b3:=Hd a2;have H:=Hd (c9.trans (a6.trans O));have U:=Hd (a.ext H.o);obtain⟨i,a4⟩:=ae (W:=l) (w:=l) (af _);have f1:=c4.symm.trans a4;obtain⟨f0,i1,i2,i3,i4,i5,i6,i7,i8⟩:=b3.o.later9;have l1:=cellAt (a9.o.cell 0);have l2:=cellAt (b2.o.cell 0);have e6:=Hd a4;clear a4 c2 c3 c4 c9 a6 O a0 a1 a2 a K D L Y b8 b9 Z;have V:=Hd (show aF inst t s m=(do let b<-bC false s t.s m;let m2<-ca false b.1 b.2;return(s,m2)) by rw[ki inst t s m (.inl N),N];rfl);have f6:s.env.length+aa ao t.s<=1000000:=by have:=bq t;omega
 obtain⟨A,z,y,h5,a5⟩:=U.o.stc;have e4:=Hd a5;have e5:=Hd c7;have e3:=Hd c6;have e2:=Hd (SlK.of e7.o U.o.cx.ext U.o.cx.hB a5.lo);clear a5 c7 c6;rw[N] at f1 f0;rw[N];have k2:¬w.heap.size=mb:=by omega
 go_enter func76,ntmps76;go_wp2_with fail
 refine eO 8 (eqS [7] [.pointer (some ⟨mb,0,none⟩),.bool false,.pointer (some ⟨mb,0,none⟩),.pointer (some ⟨sb,0,none⟩),.pointer (some ⟨C.heap.size,4,none⟩),a8,.bool false,undef]) (phJ 7 89 (λE=>Ext i.w E) (fD (bC false s t.s m) N0 mb vf A z y m l)) (λb7 E=>∃p,bC false s t.s m=.error p/\b7=aR p/\FrS mb l E) zK (λ_ _ _ _ a=>a) zK zK ?_ ((af _).drew) ?_ (λF b7 E g f3=>by
  obtain⟨p,f,rfl,f7⟩:=f3;obtain⟨tA,j0⟩:=F;simp only at g;subst g;have e0:=Hd (show RunsP (aF inst t s m) (ER W0 B N0 mb sb mp vf (aj t) s w) (FrI N0 mb sb mp w) (.panicked (aR p)) E from .no (by rw[V.o,f];rfl) ((cb H.o).trans (.of_chg f7)));exact⟨rfl,e0.o⟩) ?_
 ·simp[GuardsMet]
 ·refine⟨?_,?_,?_,?_,?_,?_,?_,?_,trivial⟩;rotate_left 7
  ·refine StepI.turn rfl zK ?_;intro F u j g q;have g1:=ab g 2 84 zK rfl;simp[eqS] at g1;have g2:=ab g 3 85 zK rfl;simp[eqS] at g2;have g4:=ab g 5 87 zK rfl;simp[eqS] at g4;have g5:=ab g 6 88 zK rfl;simp[eqS] at g5;clear g q;have e9:=Hd (io W0 B N0 mb sb mp vf A z y h5 m s false t.s a8 u (e4.o.ext (i.ext.trans j)) (SlK.frS e2.o (i.ext.trans j).chg) (λb P=>(ra W0 B N0 mb vf A z y false b (e5.o b P)).1 (e3.o b P)) f6);have X:=Hd (i.ext.trans j);clear j;go_simp;refine e9.o.mono ?_;rintro e d3 (⟨Q,d2,f,rfl,r,h,c,x⟩|⟨p,f,rfl,c⟩);rotate_left
   ·exact⟨rfl,p,f,rfl,X.o.chg.trans c⟩
   have e1:=Hd (show fD (bC false s t.s m) N0 mb vf A z y m l d2 d3 from⟨Q,f,SlT9.turn r (bg (λ_=>False) d3) (λi0 _ P=>⟨id,ad X.o.size P⟩),h,X.o.chg.trans c,x⟩);clear f r h c x;go_simp;first|exact⟨_,rfl,trivial,e1.o⟩
  all_goals
   refine StepI.plain (S:=[7]) (T:=[89]) (I:=FrS mb i.w) gP (hR (λ_ a=>a.chg) (λ_ _ a=>by obtain⟨Q,j1,j2,K,D,L⟩:=a;rw[<-e6.o];exact D)) zD zD ?_;intro F u M g q;try (have g3:=ab g 4 86 zD rfl;simp[eqS] at g3)
   have g6:=ah q 3 zK;simp at g6;have g9:=ah q 7 zK;simp at g9;have g7:=ah q 4 zK;simp at g7;have g8:=ah q 5 zK;simp at g8;clear g q;have f8:=(M.blk (a9.o.ext i.ext) (show¬w.heap.size=mb by omega)).cell 0;have f9:=(M.blk (b2.o.ext i.ext) (show¬G.heap.size=mb by omega)).cell 0;have g0:=(M.blk (b3.o.ext i.ext) (show¬C.heap.size=mb by omega)).cell 4;try simp only[List.getElem?_cons_succ,List.getElem?_cons_zero] at f8 f9 g0
   clear M;exact zB
 ·intro F u f2;obtain⟨J,rfl,a3,f5,j⟩:=f2.fin (n:=154) rfl;replace j:(fD (bC false s t.s m) N0 mb vf A z y m l) (J 89) u:=j;have d0:J 82=.pointer (some ⟨mb,0,none⟩):=a3 0 82 rfl rfl;have d1:J 83=.bool false:=a3 1 83 rfl rfl;clear a3 f5;obtain⟨R,c5,r,h,c,x⟩:=j;obtain⟨d4,d5,c8⟩:=r.form;have a7:J 89=.slice d4 R.1.length d5:=c8;rw[a7] at r;clear c8;simp only[List.drop_succ_cons,List.drop_zero];simp[List.range,List.range.loop,d0,d1,a7];clear d0 d1 a7;have b4:=Hd c;have d9:=Hd h;have d7:=Hd x;have b6:=Hd c5;have e8:=Hd (iy N0 mb u.heap.size u.heap.size vf A z y R.2 false R.1 (.slice d4 R.1.length d5) u h (r.slT (λb _=>RT9.rt6 b)) (by rw[x.d];exact f4));clear c h x c5 r;go_wp2_with fail
  go_at_call 107;refine e8.o.mono ?_;rintro e m6 (⟨Q,d2,f,rfl,rfl,m5,m4,m3,h,c⟩|⟨p,f,rfl,c⟩);rotate_left
  ·exact⟨rfl,.no (by rw[V.o,b6.o];simp only[bind,Except.bind];rw[f]) (((cb H.o).trans (.of_chg b4.o)).trans (c.wide (ac _)))⟩
  have b5:=Hd (d6.o.process (H.o.chg.trans b4.o) d9.o d7.o f h c);have d8:=Hd (show aF inst t s m=.ok (s,Q) by rw[V.o,b6.o];simp only[bind,Except.bind];rw[f];rfl);clear h c f;go_wp2_with fail
  refine bodyPost_ret (v:=aO) ?_ rfl (.ok d8.o ⟨rfl,b5.o.1,b5.o.2,Nat.le_add_right _ _,rfl⟩);simp[results,results76,go_sem,aO]
theorem AR(W0:World)(B N0 mb:Nat)(vf:Value)(inst:Itm->Sc->Mk->Rs Mk)(k:Nat)(t:Itm)(N:t.op=6)(c7:∀b,b∈t.s->VS b)(c6:∀b,b∈t.s->MayS b):eF W0 B N0 mb vf inst k t:=by
 intro sb mp m s w i9 a k0 k1 k4 Z;have d6:=Hd a;have j6:=a.inv.b0;have j7:=a.inv.b1;have k8:=a.inv.sg;have f4:=a.inv.pr;have j8:=a.inv.c0;have j9:=a.inv.c1;obtain⟨k3,l0,k7,k9,k5,k6,j3⟩:=a.mlt;obtain⟨h0,a8,h1,h2,h3,h4,rfl,K,D,L,Y,b8,b9⟩:=RI_iff.1 Z;have l3:=K.oneCell;have l4:=D.oneCell;have l5:=L.oneCell;have l6:=Y.oneCell;have l7:=b8.oneCell;have l8:=b9.oneCell;have h7:=Hd K;have e7:=Hd D;have h8:=Hd L;have h9:=Hd Y;have h6:=Hd Z;obtain⟨G,c2,c9,a0⟩:=aL w (.pointer (some ⟨mb,0,none⟩)) 97;obtain⟨C,c3,a6,a1⟩:=aL G (.pointer (some ⟨sb,0,none⟩)) 100;obtain⟨l,c4,O,a2⟩:=bM C (.int .i64 t.op) (.string t.name) (.string t.of) h0 a8 h1 h2 h3 h4 37;have j4:=c2.symm;have j5:=c3.symm;have l9:w.heap.size<G.heap.size:=a0.lt;have m0:G.heap.size<C.heap.size:=a1.lt;have m1:C.heap.size<l.heap.size:=a2.lt;have a9:=Hd (a0.ext (a6.trans O));have b2:=Hd (a1.ext O);have b3:=Hd a2;have H:=Hd (c9.trans (a6.trans O));have U:=Hd (a.ext H.o);obtain⟨i,a4⟩:=ae (W:=l) (w:=l) (af _);have f1:=c4.symm.trans a4;obtain⟨f0,i1,i2,i3,i4,i5,i6,i7,i8⟩:=b3.o.later9;have l1:=cellAt (a9.o.cell 0);have l2:=cellAt (b2.o.cell 0);have e6:=Hd a4;clear a4 c2 c3 c4 c9 a6 O a0 a1 a2 a K D L Y b8 b9 Z;have V:=Hd (show aF inst t s m=(do let b<-bC true s t.s m;let m2<-ca true b.1 b.2;return(s,m2)) by rw[ki inst t s m (.inr N),N];rfl);have f6:s.env.length+aa ao t.s<=1000000:=by have:=bq t;omega
 obtain⟨A,z,y,h5,a5⟩:=U.o.stc;have e4:=Hd a5;have e5:=Hd c7;have e3:=Hd c6;have e2:=Hd (SlK.of e7.o U.o.cx.ext U.o.cx.hB a5.lo);clear a5 c7 c6;rw[N] at f1 f0;rw[N];have k2:¬w.heap.size=mb:=by omega
 go_enter func76,ntmps76;go_wp2_with fail
 refine eO 8 (eqS [7] [.pointer (some ⟨mb,0,none⟩),.bool true,.pointer (some ⟨mb,0,none⟩),.pointer (some ⟨sb,0,none⟩),.pointer (some ⟨C.heap.size,4,none⟩),a8,.bool true,undef]) (phJ 7 89 (λE=>Ext i.w E) (fD (bC true s t.s m) N0 mb vf A z y m l)) (λb7 E=>∃p,bC true s t.s m=.error p/\b7=aR p/\FrS mb l E) zK (λ_ _ _ _ a=>a) zK zK ?_ ((af _).drew) ?_ (λF b7 E g f3=>by
  obtain⟨p,f,rfl,f7⟩:=f3;obtain⟨tA,j0⟩:=F;simp only at g;subst g;have e0:=Hd (show RunsP (aF inst t s m) (ER W0 B N0 mb sb mp vf (aj t) s w) (FrI N0 mb sb mp w) (.panicked (aR p)) E from .no (by rw[V.o,f];rfl) ((cb H.o).trans (.of_chg f7)));exact⟨rfl,e0.o⟩) ?_
 ·simp[GuardsMet]
 ·refine⟨?_,?_,?_,?_,?_,?_,?_,?_,trivial⟩;rotate_left 7
  ·refine StepI.turn rfl zK ?_;intro F u j g q;have g1:=ab g 2 84 zK rfl;simp[eqS] at g1;have g2:=ab g 3 85 zK rfl;simp[eqS] at g2;have g4:=ab g 5 87 zK rfl;simp[eqS] at g4;have g5:=ab g 6 88 zK rfl;simp[eqS] at g5;clear g q;have e9:=Hd (io W0 B N0 mb sb mp vf A z y h5 m s true t.s a8 u (e4.o.ext (i.ext.trans j)) (SlK.frS e2.o (i.ext.trans j).chg) (λb P=>(ra W0 B N0 mb vf A z y true b (e5.o b P)).1 (e3.o b P)) f6);have X:=Hd (i.ext.trans j);clear j;go_simp;refine e9.o.mono ?_;rintro e d3 (⟨Q,d2,f,rfl,r,h,c,x⟩|⟨p,f,rfl,c⟩);rotate_left
   ·exact⟨rfl,p,f,rfl,X.o.chg.trans c⟩
   have e1:=Hd (show fD (bC true s t.s m) N0 mb vf A z y m l d2 d3 from⟨Q,f,SlT9.turn r (bg (λ_=>False) d3) (λi0 _ P=>⟨id,ad X.o.size P⟩),h,X.o.chg.trans c,x⟩);clear f r h c x;go_simp;first|exact⟨_,rfl,trivial,e1.o⟩
  all_goals
   refine StepI.plain (S:=[7]) (T:=[89]) (I:=FrS mb i.w) gP (hR (λ_ a=>a.chg) (λ_ _ a=>by obtain⟨Q,j1,j2,K,D,L⟩:=a;rw[<-e6.o];exact D)) zD zD ?_;intro F u M g q;try (have g3:=ab g 4 86 zD rfl;simp[eqS] at g3)
   have g6:=ah q 3 zK;simp at g6;have g9:=ah q 7 zK;simp at g9;have g7:=ah q 4 zK;simp at g7;have g8:=ah q 5 zK;simp at g8;clear g q;have f8:=(M.blk (a9.o.ext i.ext) (show¬w.heap.size=mb by omega)).cell 0;have f9:=(M.blk (b2.o.ext i.ext) (show¬G.heap.size=mb by omega)).cell 0;have g0:=(M.blk (b3.o.ext i.ext) (show¬C.heap.size=mb by omega)).cell 4;try simp only[List.getElem?_cons_succ,List.getElem?_cons_zero] at f8 f9 g0
   clear M;exact zB
 ·intro F u f2;obtain⟨J,rfl,a3,f5,j⟩:=f2.fin (n:=154) rfl;replace j:(fD (bC true s t.s m) N0 mb vf A z y m l) (J 89) u:=j;have d0:J 82=.pointer (some ⟨mb,0,none⟩):=a3 0 82 rfl rfl;have d1:J 83=.bool true:=a3 1 83 rfl rfl;clear a3 f5;obtain⟨R,c5,r,h,c,x⟩:=j;obtain⟨d4,d5,c8⟩:=r.form;have a7:J 89=.slice d4 R.1.length d5:=c8;rw[a7] at r;clear c8;simp only[List.drop_succ_cons,List.drop_zero];simp[List.range,List.range.loop,d0,d1,a7];clear d0 d1 a7;have b4:=Hd c;have d9:=Hd h;have d7:=Hd x;have b6:=Hd c5;have e8:=Hd (iy N0 mb u.heap.size u.heap.size vf A z y R.2 true R.1 (.slice d4 R.1.length d5) u h (r.slT (λb _=>RT9.rt6 b)) (by rw[x.d];exact f4));clear c h x c5 r;go_wp2_with fail
  go_at_call 107;refine e8.o.mono ?_;rintro e m6 (⟨Q,d2,f,rfl,rfl,m5,m4,m3,h,c⟩|⟨p,f,rfl,c⟩);rotate_left
  ·exact⟨rfl,.no (by rw[V.o,b6.o];simp only[bind,Except.bind];rw[f]) (((cb H.o).trans (.of_chg b4.o)).trans (c.wide (ac _)))⟩
  have b5:=Hd (d6.o.process (H.o.chg.trans b4.o) d9.o d7.o f h c);have d8:=Hd (show aF inst t s m=.ok (s,Q) by rw[V.o,b6.o];simp only[bind,Except.bind];rw[f];rfl);clear h c f;go_wp2_with fail
  refine bodyPost_ret (v:=aO) ?_ rfl (.ok d8.o ⟨rfl,b5.o.1,b5.o.2,Nat.le_add_right _ _,rfl⟩);simp[results,results76,go_sem,aO]
def jz(b:Rs (DT×Mk))(N0 mb:Nat)(vf f e d:Value)(m:Mk)(W:World)(u:Value)(w:World):Prop:=
 ∃a,b=.ok a/\SlT9 (λc=>W.heap.size<=c) w [a.1] u/\MkI w N0 mb vf f e d a.2/\FrS mb W w/\CntM m a.2
theorem SlT9.one{Y:Nat->Prop}{w:World}{x:DT}{g:Nat}{a:List Value}(c:Blk w g 73 a)(d:Y g)(b:RT9 Y w x a):SlT9 Y w [x] (.slice (some ⟨g,0,none⟩) 1 1):=
 ⟨some ⟨g,0,none⟩,1,rfl,ac _,λf e=>by
  obtain rfl:f=0:=by simp at e;omega
  exact⟨g,0,a,rfl,d,c.tag,b.len,by simpa using c.cells,b.one,b⟩⟩
theorem uQ(W0:World)(B N0 mb:Nat)(vf:Value)(inst:Itm->Sc->Mk->Rs Mk)(k:Nat)(t:Itm)(c2:t.op=4)(c3:∀h,h∈t.x->VX h)(h2:t.x.length=2)(e9:∀h,h∈t.x->MayX h)(f2:∀h,h∈t.x.head?->h.op=3\/h.op=4->0<h.l.length):eF W0 B N0 mb vf inst k t:=by
 intro sb mp m s w o1 a p7 q1 q4 b2;have g3:=Hd a;have p3:=a.inv.b0;have p4:=a.inv.b1;have q9:=a.inv.sg;have j1:=a.inv.pr;have p5:=a.inv.c0;have p6:=a.inv.c1;obtain⟨q3,r1,q7,r0,q5,q6,o9⟩:=a.mlt;obtain⟨l4,l5,l6,l7,l8,l9,rfl,N,z,A,X,e1,e2⟩:=RI_iff.1 b2;have r6:=N.oneCell;have r7:=z.oneCell;have r8:=A.oneCell;have r9:=X.oneCell;have s0:=e1.oneCell;have s1:=e2.oneCell;have h5:=Hd N;have m7:=Hd z;have m8:=Hd A;have m9:=Hd X;have m6:=Hd b2;obtain⟨R,e3,f5,P⟩:=aL w (.pointer (some ⟨mb,0,none⟩)) 97;obtain⟨L,e4,c4,b5⟩:=aL R (.pointer (some ⟨sb,0,none⟩)) 100;obtain⟨q,e5,a0,b6⟩:=bM L (.int .i64 t.op) (.string t.name) (.string t.of) l4 l5 l6 l7 l8 l9 37;have p0:=e3.symm;have p1:=e4.symm;have t0:w.heap.size<R.heap.size:=P.lt;have t1:R.heap.size<L.heap.size:=b5.lt;have t2:L.heap.size<q.heap.size:=b6.lt;have c8:=Hd (P.ext (c4.trans a0));have c9:=Hd (b5.ext a0);have d0:=Hd b6;have U:=Hd (f5.trans (c4.trans a0));have d1:=Hd (a.ext U.o);obtain⟨u,b7⟩:=ae (W:=q) (w:=q) (af _);have i1:=e5.symm.trans b7;obtain⟨h8,n3,n4,n5,n6,n7,n8,n9,o0⟩:=d0.o.later9;have r3:=cellAt (c8.o.cell 0);have r4:=cellAt (c9.o.cell 0);have d6:=Hd b7;clear b7 e3 e4 e5 f5 c4 a0 P b5 b6 a N z A X e1 e2 b2;have q8:1+aa al t.x<=1000000000:=by have:=bq t;omega
 obtain⟨r2,f7,rfl,q0,b9⟩:=h5.o;have Y:0<t.x.length:=by omega
 have Q:1<t.x.length:=by omega
 obtain⟨V,a2,t3,i4,i3,i6,a8,i8,b3⟩:=b9 0 Y;obtain⟨n2,r5,t4,i5,P,i7,a9,i9,b4⟩:=b9 1 Q;subst i4;injection i5 with a6;injection a6 with a6 h9;subst a6;subst h9;have h3:=Hd (XOk.of (an Y) b3 zO c3);have h4:=Hd (XOk.of (an Q) b4 zO c3);obtain⟨m1,rfl,d9⟩:=RX_iff.1 b3;obtain⟨m3,rfl,e0⟩:=RX_iff.1 b4;simp only[Nat.zero_mul,Nat.add_zero,Nat.one_mul] at a8 a9;have j4:=dh (k:=0) Y;have j5:=dh (k:=1) Q;have u0:=d9.oneCell;have u1:=e0.oneCell;have g4:=Hd a8;have g5:=Hd a9;have p8:(0:Int)<(t.x.length:Int):=by omega
 have p9:(1:Int)<(t.x.length:Int):=by omega
 have g8:=Hd (e9 _ (an Q));have h1:=Hd (f2 t.x[0] (by rw[List.head?_eq_getElem?,List.getElem?_eq_getElem Y];exact rfl));have a3:=Hd (show aF inst t s m=(do let h<-cG s false t.x[0] t.x[1] m;let m2<-ca false [h.1] h.2;return(s,m2)) by rw[kH inst t s m c2,show xAt t.x 0=t.x[0] from j4,show xAt t.x 1=t.x[1] from j5]);obtain⟨F,E,D,m0,f1⟩:=d1.o.stc;have d5:=Hd f1;generalize t.x[0]=x0 at*;generalize t.x[1]=x1 at*;rw[c2] at i1 h8;rw[c2];clear b9 b3 b4 d9 e0 i6 i7 i3 P a8 a9 i8 i9 f1 e9 f2 c3 h2 Q;have q2:¬w.heap.size=mb:=by omega
 go_enter func76,ntmps76;go_wp2_with fail
 refine eO 13 (eqS [11,12] [.pointer (some ⟨mb,0,none⟩),.pointer (some ⟨mb,0,none⟩),.pointer (some ⟨sb,0,none⟩),.pointer (some ⟨L.heap.size,3,none⟩),.slice (some ⟨V,a2,none⟩) t.x.length f7,.pointer (some ⟨V,a2,none⟩),.agg #[.int .i64 x0.op,.string x0.name,.int .i64 x0.n,.int .i64 x0.w,.int .u64 x0.v,m1],.pointer (some ⟨L.heap.size,3,none⟩),.slice (some ⟨V,a2,none⟩) t.x.length f7,.pointer (some ⟨V,a2+6,none⟩),.agg #[.int .i64 x1.op,.string x1.name,.int .i64 x1.n,.int .i64 x1.w,.int .u64 x1.v,m3],undef,undef]) (chJ [(11,λy w=>Ext u.w w),(12,λy w=>TJ (cG s false x0 x1 m) N0 mb vf F E D m q (y 73) w)] (λy w=>jz (cG s false x0 x1 m) N0 mb vf F E D m q (y 74) w)) (λd8 c7=>∃i,cG s false x0 x1 m=.error i/\d8=aR i/\FrS mb q c7) zK (λ_ _ _ _ a=>a) zK zK ?_ (gI _ ((af _).drew)) ?_ (λG d8 c7 b j0=>by
  obtain⟨i,g,rfl,j3⟩:=j0;obtain⟨tA,o8⟩:=G;simp only at b;subst b;have h0:=Hd (show RunsP (aF inst t s m) (ER W0 B N0 mb sb mp vf (aj t) s w) (FrI N0 mb sb mp w) (.panicked (aR i)) c7 from .no (by rw[a3.o,g];rfl) ((cb U.o).trans (.of_chg j3)));exact⟨rfl,h0.o⟩) ?_
 ·simp[GuardsMet]
 ·refine⟨?_,?_,?_,?_,?_,?_,?_,?_,?_,?_,?_,?_,?_,trivial⟩;rotate_left 11
  ·refine StepI.chain 0 rfl zK zK ?_;intro G j K c b H;replace K:=Hd K;have j9:=ab b 1 63 zK rfl;simp[eqS] at j9;have k1:=ab b 2 64 zK rfl;simp[eqS] at k1;have k5:=ab b 6 68 zK rfl;simp[eqS] at k5;have k0:=ab b 10 72 zK rfl;simp[eqS] at k0;clear b H;replace c:Ext u.w j:=c;have h6:=Hd (ob W0 B N0 mb sb mp vf F E D m0 m s false x0 x1 _ _ j (d5.o.ext (u.ext.trans c)) h3.o h4.o h1.o g8.o);have a4:=Hd (u.ext.trans c);clear c;go_simp;refine h6.o.mono ?_;rintro e f9 (⟨r,l3,g,rfl,i,rfl,M,p,f,C⟩|⟨i,g,rfl,f⟩);rotate_left
   ·exact⟨rfl,i,g,rfl,a4.o.chg.trans f⟩
   have a5:=Hd (show TJ (cG s false x0 x1 m) N0 mb vf F E D m q (.agg i.toArray) f9 from⟨r,i,g,rfl,M.imp (λn1 _ i2=>ad a4.o.size i2),p,a4.o.chg.trans f,C⟩);clear g M p f C;go_simp;refine⟨_,rfl,trivial,?_⟩;show TJ (cG s false x0 x1 m) N0 mb vf F E D m q (tau (G.put (some 73) (.agg i.toArray)) 73) f9;rw[dX (by rw[K.o];exact of_decide_eq_true zK)];exact a5.o
  ·refine StepI.chain 1 rfl zK zK ?_;intro G j K c b H;replace K:=Hd K;clear b H;obtain⟨r,i,g,f4,M,p,f,C⟩:=c;obtain⟨m4,m5,rfl,z,A⟩:=RT9_iff.1 M;have s2:=z.oneCell;have s3:=A.oneCell;have l2:G.tmps.getD 73 undef=_:=f4;obtain⟨d7,e6,a1,e7⟩:=aV j (.int .i64 r.1.op) (.int .i64 r.1.sig) (.int .i64 r.1.hi) (.int .i64 r.1.lo) m4 m5 73;have p2:=e6.symm;have a5:=Hd (show jz (cG s false x0 x1 m) N0 mb vf F E D m q (.slice (some ⟨j.heap.size,0,none⟩) 1 1) d7 from⟨r,g,SlT9.one e7 (ad f.size (ac _)) (RT9.ext a1 M),p.ext a1,f.trans a1.chg,C⟩);simp only[Array.getD_eq_getD_getElem?] at l2;clear f4 M p f C e6 a1 e7 z A g;go_simp;refine⟨_,rfl,trivial,?_⟩;show jz (cG s false x0 x1 m) N0 mb vf F E D m q (tau (G.put (some 74) (.slice (some ⟨j.heap.size,0,none⟩) 1 1)) 74) d7;rw[dX (by rw[K.o];exact of_decide_eq_true zK)];exact a5.o
  all_goals
   refine StepI.plain (S:=[11,12]) (T:=[73,74]) (I:=FrS mb u.w) (gi (T:=[73,74]) (λy g2 w J c=>?_) _ ⟨λy g2 w J c=>?_,λy g2 w J c=>?_,trivial⟩) (λn0 y w a=>hK (I:=FrS mb u.w) a (λ_ _ a=>by obtain⟨r,i0,h2,N,z,A⟩:=a;rw[<-d6.o];exact z) ⟨λ_ _ a=>a.chg,λ_ _ a=>by obtain⟨r,i,i0,h2,N,z,A,X⟩:=a;rw[<-d6.o];exact A,trivial⟩) zD zD ?_
   ·try simp only[J 73 zD,J 74 zD]
    exact c
   ·try simp only[J 73 zD,J 74 zD]
    exact c
   ·try simp only[J 73 zD,J 74 zD]
    exact c
   intro G j O b H;try (have k2:=ab b 3 65 zD rfl;simp[eqS] at k2)
   try (have k3:=ab b 4 66 zD rfl;simp[eqS] at k3)
   try (have k4:=ab b 5 67 zD rfl;simp[eqS] at k4)
   try (have k6:=ab b 7 69 zD rfl;simp[eqS] at k6)
   try (have k7:=ab b 8 70 zD rfl;simp[eqS] at k7)
   try (have k8:=ab b 9 71 zD rfl;simp[eqS] at k8)
   have k9:=ah H 3 zK;simp at k9;have l0:=ah H 4 zK;simp at l0;have l1:=ah H 5 zK;simp at l1;clear b H;have c5:Ext W0 j:=O.ext (d1.o.cx.ext.trans u.ext) (λk b8=>(show k=mb from b8)▸d5.o.lo);obtain⟨o2,o3,o4,o5,o6,o7⟩:=(g4.o.ext c5).get6;obtain⟨s4,s5,s6,s7,s8,s9⟩:=(g5.o.ext c5).get6;have j6:=(O.blk (c8.o.ext u.ext) (show¬w.heap.size=mb by omega)).cell 0;have j7:=(O.blk (c9.o.ext u.ext) (show¬R.heap.size=mb by omega)).cell 0;have j8:=(O.blk (d0.o.ext u.ext) (show¬L.heap.size=mb by omega)).cell 3;try simp only[List.getElem?_cons_succ,List.getElem?_cons_zero] at j6 j7 j8
   clear O c5;exact zB
 ·intro G j b8;obtain⟨a7,rfl,e8,j2,c⟩:=b8.fin (n:=154) rfl;replace c:(λy w=>jz (cG s false x0 x1 m) N0 mb vf F E D m q (y 74) w) a7 j:=gz _ rfl c;have f6:a7 62=.pointer (some ⟨mb,0,none⟩):=e8 0 62 rfl rfl;clear e8 j2;obtain⟨f8,f0,Z,p,f,C⟩:=c;obtain⟨g0,g1,f3⟩:=Z.form;have c6:a7 74=.slice g0 1 g1:=f3;rw[c6] at Z;clear f3;simp only[List.drop_succ_cons,List.drop_zero];simp[List.range,List.range.loop,f6,c6];clear f6 c6;have d2:=Hd f;have g9:=Hd p;have g6:=Hd C;have d4:=Hd f0;have h7:=Hd (iy N0 mb j.heap.size j.heap.size vf F E D f8.2 false [f8.1] (.slice g0 1 g1) j p (Z.slT (λh _=>RT9.rt6 h)) (by rw[C.d];exact j1));clear f p C f0 Z;go_wp2_with fail
  go_at_call 107;refine h7.o.mono ?_;rintro e t8 (⟨r,l3,g,rfl,rfl,t7,t6,t5,p,f⟩|⟨i,g,rfl,f⟩);rotate_left
  ·exact⟨rfl,.no (by rw[a3.o,d4.o];simp only[bind,Except.bind];rw[g]) (((cb U.o).trans (.of_chg d2.o)).trans (f.wide (ac _)))⟩
  have d3:=Hd (g3.o.process (U.o.chg.trans d2.o) g9.o g6.o g p f);have g7:=Hd (show aF inst t s m=.ok (s,r) by rw[a3.o,d4.o];simp only[bind,Except.bind];rw[g];rfl);clear p f g;go_wp2_with fail
  refine bodyPost_ret (v:=aO) ?_ rfl (.ok g7.o ⟨rfl,d3.o.1,d3.o.2,Nat.le_add_right _ _,rfl⟩);simp[results,results76,go_sem,aO]
end
