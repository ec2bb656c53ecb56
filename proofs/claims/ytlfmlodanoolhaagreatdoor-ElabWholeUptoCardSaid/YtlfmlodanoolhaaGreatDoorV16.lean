import Derived.Test.YtlfmlodanoolhaaGreatDoorV6
import Derived.Test.YtlfmlodanoolhaaGreatDoorV13
set_option linter.all false
set_option maxRecDepth 200000
set_option maxHeartbeats 0
namespace Go.Proofs.YtlfmlodanoolhaaGreatDoor
open Go Go.RowKit Go.Proofs.Tryz
attribute [local go_sem] bc
structure Scp where
 b:Nat
 m:Nat
 N:ByteArray->Prop
def ScA(w:World):Option Addr->List Scp->Prop
 |p,[]=>p=none
 |p,f::r=>p=some ⟨f.b,0,none⟩/\f.b<w.heap.size/\SetB w f.m f.N/\(∀a,a∈r->a.m≠f.m)/\∃c,w.cell? ⟨f.b,0,none⟩=some (.pointer c)/\w.cell? ⟨f.b,1,none⟩=some (.map (some f.m))/\ScA w c r
def inC(fs:List Scp)(s:ByteArray):Prop:=∃a,a∈fs/\a.N s
theorem inC_cons{f:Scp}{a:List Scp}{s:ByteArray}:inC (f::a) s↔f.N s\/inC a s:=by simp[inC]
theorem hP{s:ByteArray}:¬inC [] s:=by simp[inC]
theorem ScA.kept{w g:World}{row:Option Nat}(c:w.grownBy g row):∀{fs:List Scp} {p:Option Addr},ScA w p fs->(∀d,row=some d->(∀a,a∈fs->a.m≠d)/\∀v,w.cell? ⟨d,0,none⟩≠some v)->ScA g p fs
 |[],_,h,_=>h
 |a::d,p,h,hr=>by
  obtain⟨rfl,i,o,q,x,j,r,s⟩:=h;have u:some a.b≠row:=λe=>(hr a.b e.symm).2 _ j
  have k:∀f,g.cell? ⟨a.b,f,none⟩=w.cell? ⟨a.b,f,none⟩:=λf=>ek (c.block _ i u)
  exact⟨rfl,aQ i c.size,o.kept c (λe=>(hr _ e).1 a (cc ..) rfl),q,x,(k 0).trans j,(k 1).trans r,ScA.kept c s λl e=>⟨λn t=>(hr l e).1 n (bi _ t),(hr l e).2⟩⟩
theorem Ext.gr{w a:World}(h:Ext w a):w.grownBy a none:=⟨h.os,h.tape,h.output,h.size,λc b _=>h.block c b⟩
theorem ScA.ext{w a:World}{fs:List Scp}{p:Option Addr}(h:ScA w p fs)(b:Ext w a):ScA a p fs:=h.kept b.gr (λc e=>by cases e)
theorem bV{a b d:World}{c:Option Nat}(h:a.grownBy b c)(k:b.grownBy d c):a.grownBy d c:=
 ⟨k.os.trans h.os,k.tape.trans h.tape,k.output.trans h.output,ad h.size k.size,λf hi e=>(k.block f (aQ hi h.size) e).trans (h.block f hi e)⟩
theorem cp{a b:World}{d:Option Nat}(h:Ext a b):a.grownBy b d:=⟨h.os,h.tape,h.output,h.size,λc hi _=>h.block c hi⟩
theorem dy{a b c:World}{m:Nat}(h:Ext a b)(k:b.grownBy c (some m))(d:a.heap.size<=m):Ext a c:=h.grown k (λf e=>by cases e;exact d)
theorem gW{w:World}{m:Nat}{a:ByteArray->Prop}(h:SetB w m a)(v:Value):w.cell? ⟨m,0,none⟩≠some v:=by
 obtain⟨d,c,b,-⟩:=h;intro e;simp[World.cell?,b] at e
theorem ScA.more{w c:World}{f:Scp}{n:List Scp}{p:Option Addr}{N':ByteArray->Prop}(h:ScA w p (f::n))(g:w.grownBy c (some f.m))(s:SetB c f.m N'):ScA c p ({f with N:=N'}::n):=by
 obtain⟨rfl,i,j,k,t,d,o,q⟩:=h;have r:some f.b≠some f.m:=λe=>by injection e with e;rw[e] at d;exact gW j _ d
 have l:∀a,c.cell? ⟨f.b,a,none⟩=w.cell? ⟨f.b,a,none⟩:=λa=>ek (g.block _ i r)
 exact⟨rfl,aQ i g.size,s,k,t,(l 0).trans d,(l 1).trans o,q.kept g λa e=>by cases e;exact⟨k,gW j⟩⟩
theorem ScA.congr{w:World}{f:Scp}{a:List Scp}{p:Option Addr}{N':ByteArray->Prop}(h:ScA w p (f::a))(d:∀s,f.N s↔N' s):ScA w p ({f with N:=N'}::a):=by
 obtain⟨rfl,b,c,e⟩:=h;exact⟨rfl,b,c.congr d,e⟩
theorem qe{w:World}:∀{fs d:List Scp} {p:Option Addr},ScA w p fs->ScA w p d->fs.length=d.length
 |[],[],_,_,_=>rfl
 |[],g::s,p,a,b=>by obtain⟨e,-⟩:=b;have a:p=none:=a;rw[a] at e;cases e
 |f::r,[],p,a,b=>by obtain⟨e,-⟩:=a;have b:p=none:=b;rw[b] at e;cases e
 |f::r,g::s,p,a,b=>by
  obtain⟨rfl,-,-,-,k,h,-,i⟩:=a;obtain⟨e,-,-,-,l,c,-,j⟩:=b;injection e with e;injection e with e;rw[<-e,h] at c;injection c with c;injection c with c;subst c;rw[List.length_cons,List.length_cons,qe i j]
open Classical in
noncomputable def lp(w:World)(v:Value):Nat:=if c:∃(b:List Scp) (a:Option Addr),v=.pointer a/\ScA w a b then c.choose.length else 0
theorem qV{w:World}{p:Option Addr}{fs:List Scp}(h:ScA w p fs):lp w (.pointer p)=fs.length:=by
 have c:∃(fs:List Scp) (b:Option Addr),Value.pointer p=.pointer b/\ScA w b fs:=⟨fs,p,rfl,h⟩;unfold lp;rw[dif_pos c];obtain⟨b,a,d⟩:=c.choose_spec;injection a with a;subst a;exact qe d h
def gy:PanicEntry:={v:=.iface 146 (.agg #[]),recovered:=false}
theorem iZ:∀w:World,(zeroValue 4).run Tryz.prog w=.ok (.bool false) w:=λ_=>by kernel_rfl
theorem ix(w:World)(p:Option Addr)(fs:List Scp)(h:ScA w p fs)(s:∀q,q∈fs->q.m<w.heap.size):
 Calls Tryz.prog 93 #[.pointer p] w λe n=>∃g l,e=.returned (.pointer (some ⟨g,0,none⟩))/\ScA n (some ⟨g,0,none⟩) (⟨g,l,λ_=>False⟩::fs)/\Ext w n/\w.heap.size<=l/\l<n.heap.size:=by
 obtain⟨a,b⟩:∃a,a=w.alloc (.map #[] 0):=⟨_,rfl⟩;have k:Ext w a:=by rw[b];exact aE _ _
 have t:SetB a w.heap.size (λ_=>False):=by rw[b];exact SetB.new w
 have v:a.heap.size=w.heap.size+1:=by rw[b];simp
 obtain⟨c,i,d,j⟩:=dd a (.pointer p) (.map (some w.heap.size)) 191;have x:c.heap.size=a.heap.size+1:=by rw[i];simp
 have f:=Hd (show ScA c (some ⟨a.heap.size,0,none⟩) (⟨a.heap.size,w.heap.size,λ_=>False⟩::fs)/\Ext w c/\w.heap.size<c.heap.size from
  ⟨⟨rfl,by show a.heap.size<_;omega,t.kept d.gr zS,λr u e=>by have:=s r u;have e:r.m=w.heap.size:=e;omega,p,j.get2.1,j.get2.2,(h.ext k).ext d⟩,k.trans d,zO⟩)
 have y:=b.symm;have z:=i.symm;clear h s b i k d t j v x;have A:=@run_makeMap Tryz.prog
 go_in
 go_wp2
 go_ret;exact⟨_,_,rfl,f.o.1,f.o.2.1,ac _,f.o.2.2⟩
theorem eV(w:World)(f:Scp)(b:List Scp)(p:Option Addr)(s:ByteArray)(h:ScA w p (f::b)):
 Calls Tryz.prog 94 #[.pointer p,.string s] w λe x=>
  (¬inC (f::b) s/\e=.returned (.tuple #[])/\ScA x p ({f with N:=λk=>f.N k\/k=s}::b)/\w.grownBy x (some f.m))\/(inC (f::b) s/\e=.panicked [gy]/\x=w):=by
 have t:=Hd h
 go_in
 go_wp2_with fail
 go_loopw [4] (λk wr=>∃(r:Option Addr) (n:List Scp),k=.pointer r/\ScA w r n/\(inC (f::b) s↔inC n s)/\wr=w) (λk wr=>lp w k)
 case atStart=>exact⟨p,f::b,rfl,h,Iff.rfl,rfl⟩
 case round=>
  obtain⟨r,n,rfl,v,j,rfl⟩:=hrel;cases n with
  |nil=>
   obtain rfl:r=none:=v;have C:¬inC (f::b) s:=λl=>hP (j.1 l)
   obtain⟨rfl,F,c,q,E,G,H,d⟩:=id h;obtain⟨o,I,D⟩:=c.add underlying119 underlying9 s;have u:=gl wr f.m o;have a:=Hd (aq C (aq (h.more u D) u));clear h j C c q d D u t;go_wp2_with fail
   go_end0
   exact .inl ⟨a.o.1,rfl,a.o.2.1,a.o.2.2⟩
  |cons g fs3=>
   have A:=qV v;obtain⟨rfl,F,c,q,E,G,H,d⟩:=v;have y:=c.ask underlying119 underlying9 iZ s;have B:=qV d;by_cases i:g.N s
   ·rw[yes_iff.2 i] at y;have a:=Hd (j.2 (inC_cons.2 (.inl i)));clear h c q d j A B i t;go_wp2_with fail
    exact⟨rfl,.inr ⟨a.o,rfl,rfl⟩⟩
   ·rw[yes_no.2 i] at y;have z:inC (f::b) s↔inC fs3 s:=j.trans ⟨λl=>(inC_cons.1 l).resolve_left i,λl=>inC_cons.2 (.inr l)⟩;have a:=Hd (aq d z);clear h c q d j z i t;go_wp2_with fail
    go_roundw;case rel=>exact⟨E,fs3,rfl,a.o.1,a.o.2,trivial⟩
    case measure=>rw[A,B,List.length_cons];omega
