import Derived.Test.YtlfmlodanoolhaaGreatDoorE7
import Derived.Test.YtlfmlodanoolhaaGreatDoorE13
set_option linter.all false
set_option maxRecDepth 200000
set_option maxHeartbeats 32000000
namespace Go.Proofs.YtlfmlodanoolhaaGreatDoor
open Go Go.RowKit Go.Proofs.Tryz
attribute [local go_sem] z0f
structure Scp where
 b:Nat
 m:Nat
 N:ByteArray→Prop
def ScA(w:World):Option Addr→List Scp→Prop
 |p,[]=>p=none
 |p,f::r=>p=some ⟨f.b,0,none⟩∧f.b<w.heap.size∧SetB w f.m f.N∧(∀g,g∈r→g.m≠f.m)∧∃q,w.cell? ⟨f.b,0,none⟩=some (.pointer q)∧w.cell? ⟨f.b,1,none⟩=some (.map (some f.m))∧ScA w q r
def inC(fs:List Scp)(s:ByteArray):Prop:=∃f,f∈fs∧f.N s
theorem inC_cons{f:Scp}{r:List Scp}{s:ByteArray}:inC (f::r) s↔f.N s∨inC r s:=by simp[inC]
theorem q1u{s:ByteArray}:¬inC [] s:=by simp[inC]
theorem ScA.kept{w w':World}{row:Option Nat}(hg:w.grownBy w' row):∀{fs:List Scp} {p:Option Addr},ScA w p fs→(∀r,row=some r→(∀f,f∈fs→f.m≠r)∧∀v,w.cell? ⟨r,0,none⟩≠some v)→ScA w' p fs
 |[],_,h,_=>h
 |f::r,p,h,hr=>by
  obtain⟨rfl,h1,h2,h3,q,h4,h5,h6⟩:=h;have hne:some f.b≠row:=fun e=>(hr f.b e.symm).2 _ h4
  have hc:∀i,w'.cell? ⟨f.b,i,none⟩=w.cell? ⟨f.b,i,none⟩:=fun i=>y2b (hg.block _ h1 hne)
  exact⟨rfl,y1m h1 hg.size,h2.kept hg (fun e=>(hr _ e).1 f (y1s ..) rfl),h3,q,(hc 0).trans h4,(hc 1).trans h5,ScA.kept hg h6 fun r' e=>⟨fun g hgm=>(hr r' e).1 g (y1r _ hgm),(hr r' e).2⟩⟩
theorem Ext.gr{w w':World}(h:Ext w w'):w.grownBy w' none:=⟨h.os,h.tape,h.output,h.size,fun k hk _=>h.block k hk⟩
theorem ScA.ext{w w':World}{fs:List Scp}{p:Option Addr}(h:ScA w p fs)(hx:Ext w w'):ScA w' p fs:=h.kept hx.gr (fun r e=>by cases e)
theorem z0t{a b c:World}{r:Option Nat}(h:a.grownBy b r)(k:b.grownBy c r):a.grownBy c r:=
 ⟨k.os.trans h.os,k.tape.trans h.tape,k.output.trans h.output,y1k h.size k.size,fun i hi hn=>(k.block i (y1m hi h.size) hn).trans (h.block i hi hn)⟩
theorem z1v{a b:World}{r:Option Nat}(h:Ext a b):a.grownBy b r:=⟨h.os,h.tape,h.output,h.size,fun i hi _=>h.block i hi⟩
theorem z4y{a b c:World}{m:Nat}(h:Ext a b)(k:b.grownBy c (some m))(hm:a.heap.size≤m):Ext a c:=h.grown k (fun i e=>by cases e;exact hm)
theorem z4j{w:World}{m:Nat}{N:ByteArray→Prop}(h:SetB w m N)(v:Value):w.cell? ⟨m,0,none⟩≠some v:=by
 obtain⟨es,clock,hb,-⟩:=h;intro e;simp[World.cell?,hb] at e
theorem ScA.more{w w':World}{f:Scp}{r:List Scp}{p:Option Addr}{N':ByteArray→Prop}(h:ScA w p (f::r))(hg:w.grownBy w' (some f.m))(hs:SetB w' f.m N'):ScA w' p ({f with N:=N'}::r):=by
 obtain⟨rfl,h1,h2,h3,q,h4,h5,h6⟩:=h;have hne:some f.b≠some f.m:=fun e=>by injection e with e;rw[e] at h4;exact z4j h2 _ h4
 have hc:∀i,w'.cell? ⟨f.b,i,none⟩=w.cell? ⟨f.b,i,none⟩:=fun i=>y2b (hg.block _ h1 hne)
 exact⟨rfl,y1m h1 hg.size,hs,h3,q,(hc 0).trans h4,(hc 1).trans h5,h6.kept hg fun i e=>by cases e;exact⟨h3,z4j h2⟩⟩
theorem ScA.congr{w:World}{f:Scp}{r:List Scp}{p:Option Addr}{N':ByteArray→Prop}(h:ScA w p (f::r))(hN:∀s,f.N s↔N' s):ScA w p ({f with N:=N'}::r):=by
 obtain⟨rfl,h1,h2,rest⟩:=h;exact⟨rfl,h1,h2.congr hN,rest⟩
theorem j8a{w:World}:∀{fs fs':List Scp} {p:Option Addr},ScA w p fs→ScA w p fs'→fs.length=fs'.length
 |[],[],_,_,_=>rfl
 |[],g::s,p,h,k=>by obtain⟨e,-⟩:=k;have h:p=none:=h;rw[h] at e;cases e
 |f::r,[],p,h,k=>by obtain⟨e,-⟩:=h;have k:p=none:=k;rw[k] at e;cases e
 |f::r,g::s,p,h,k=>by
  obtain⟨rfl,-,-,-,q,h4,-,h6⟩:=h;obtain⟨e,-,-,-,q',k4,-,k6⟩:=k;injection e with e;injection e with e;rw[←e,h4] at k4;injection k4 with k4;injection k4 with k4;subst k4;rw[List.length_cons,List.length_cons,j8a h6 k6]
open Classical in
noncomputable def k6j(w:World)(v:Value):Nat:=if h:∃(fs:List Scp) (p:Option Addr),v=.pointer p∧ScA w p fs then h.choose.length else 0
theorem j3a{w:World}{p:Option Addr}{fs:List Scp}(h:ScA w p fs):k6j w (.pointer p)=fs.length:=by
 have hex:∃(fs:List Scp) (q:Option Addr),Value.pointer p=.pointer q∧ScA w q fs:=⟨fs,p,rfl,h⟩;unfold k6j;rw[dif_pos hex];obtain⟨q,hq,hs⟩:=hex.choose_spec;injection hq with hq;subst hq;exact j8a hs h
def q3p:PanicEntry:={v:=.iface 146 (.agg #[]),recovered:=false}
theorem z9t:∀w:World,(zeroValue 4).run Tryz.prog w=.ok (.bool false) w:=fun _=>by kernel_rfl
theorem z6f(w:World)(p:Option Addr)(fs:List Scp)(h:ScA w p fs)(hm:∀f,f∈fs→f.m<w.heap.size):
 Calls Tryz.prog 93 #[.pointer p] w fun e w'=>∃b m,e=.returned (.pointer (some ⟨b,0,none⟩))∧ScA w' (some ⟨b,0,none⟩) (⟨b,m,fun _=>False⟩::fs)∧Ext w w'∧w.heap.size≤m∧m<w'.heap.size:=by
 obtain⟨W1,hW1⟩:∃W1,W1=w.alloc (.map #[] 0):=⟨_,rfl⟩;have hx1:Ext w W1:=by rw[hW1];exact y1v _ _
 have hs1:SetB W1 w.heap.size (fun _=>False):=by rw[hW1];exact SetB.new w
 have hz1:W1.heap.size=w.heap.size+1:=by rw[hW1];simp
 obtain⟨W2,hW2,hx2,hb2⟩:=q7l W1 (.pointer p) (.map (some w.heap.size)) 191;have hz2:W2.heap.size=W1.heap.size+1:=by rw[hW2];simp
 have FIN:=Hd (show ScA W2 (some ⟨W1.heap.size,0,none⟩) (⟨W1.heap.size,w.heap.size,fun _=>False⟩::fs)∧Ext w W2∧w.heap.size<W2.heap.size from
  ⟨⟨rfl,by show W1.heap.size<_;omega,hs1.kept hx2.gr (by simp),fun g hg e=>by have:=hm g hg;have e:g.m=w.heap.size:=e;omega,p,hb2.get2.1,hb2.get2.2,(h.ext hx1).ext hx2⟩,hx1.trans hx2,by omega⟩)
 have hV1:=hW1.symm;have hV2:=hW2.symm;clear h hm hW1 hW2 hx1 hx2 hs1 hb2 hz1 hz2;have hmm:=@run_makeMap Tryz.prog;go_enter func93,ntmps93
 go_wp2
 go_ret;exact⟨_,_,rfl,FIN.o.1,FIN.o.2.1,y1j _,FIN.o.2.2⟩
theorem z4l(w:World)(f:Scp)(r:List Scp)(p:Option Addr)(s:ByteArray)(h:ScA w p (f::r)):
 Calls Tryz.prog 94 #[.pointer p,.string s] w fun e w'=>
  (¬inC (f::r) s∧e=.returned (.tuple #[])∧ScA w' p ({f with N:=fun t=>f.N t∨t=s}::r)∧w.grownBy w' (some f.m))∨(inC (f::r) s∧e=.panicked [q3p]∧w'=w):=by
 have H:=Hd h;go_enter func94,ntmps94;go_wp2_with fail
 go_loopw [4] (fun t wr=>∃(q:Option Addr) (fs2:List Scp),t=.pointer q∧ScA w q fs2∧(inC (f::r) s↔inC fs2 s)∧wr=w) (fun t wr=>k6j w t)
 case atStart=>exact⟨p,f::r,rfl,h,Iff.rfl,rfl⟩
 case round=>
  obtain⟨q,fs2,rfl,hs2,hiff,rfl⟩:=hrel;cases fs2 with
  |nil=>
   obtain rfl:q=none:=hs2;have hno:¬inC (f::r) s:=fun hc=>q1u (hiff.1 hc)
   obtain⟨rfl,h1,h2,h3,q',h4,h5,h6⟩:=id h;obtain⟨o,hrun,hset⟩:=h2.add underlying119 underlying9 s;have hg:=z4i wr f.m o;have FIN:=Hd (y1x hno (y1x (h.more hg hset) hg));clear h hiff hno h2 h3 h6 hset hg H;go_wp2_with fail
   go_end0
   exact .inl ⟨FIN.o.1,rfl,FIN.o.2.1,FIN.o.2.2⟩
  |cons g fs3=>
   have hl:=j3a hs2;obtain⟨rfl,h1,h2,h3,q',h4,h5,h6⟩:=hs2;have hask:=h2.ask underlying119 underlying9 z9t s;have hl':=j3a h6;by_cases hN:g.N s
   ·rw[yes_iff.2 hN] at hask;have FIN:=Hd (hiff.2 (inC_cons.2 (.inl hN)));clear h h2 h3 h6 hiff hl hl' hN H;go_wp2_with fail
    exact⟨rfl,.inr ⟨FIN.o,rfl,rfl⟩⟩
   ·rw[yes_no.2 hN] at hask;have hiff':inC (f::r) s↔inC fs3 s:=hiff.trans ⟨fun hc=>(inC_cons.1 hc).resolve_left hN,fun hc=>inC_cons.2 (.inr hc)⟩;have FIN:=Hd (y1x h6 hiff');clear h h2 h3 h6 hiff hiff' hN H;go_wp2_with fail
    go_roundw;case rel=>exact⟨q',fs3,rfl,FIN.o.1,FIN.o.2,trivial⟩
    case measure=>rw[hl,hl',List.length_cons];omega
end Go.Proofs.YtlfmlodanoolhaaGreatDoor
