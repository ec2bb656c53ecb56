import Derived.Test.YtlfmlodanoolhaaGreatDoorV49
set_option linter.all false
set_option maxRecDepth 200000
set_option maxHeartbeats 0
namespace Go.Proofs.YtlfmlodanoolhaaGreatDoor
open Go Go.RowKit Go.Proofs.Tryz
attribute [local go_sem] bc
def mdV(W0:World)(B:Nat)(of:Mdl)(vals:List Value)(i:Nat)(v:Value):Prop:=
 if i=6\/i=7 then∃b c d e,v=.tuple #[.agg #[b,c,d,e],.bool true]/\RM W0 B of [b,c,d,e]
 else if i=8 then∃b c d e,v=.agg #[b,c,d,e]/\RM W0 B of [b,c,d,e]
 else v=vals.getD i undef
def mdF(W W0:World)(B:Nat)(of:Mdl)(vals:List Value)(i:Nat)(v:Value)(w:World):Prop:=
 if i=10 then∃b c d e f,v=.pointer (some ⟨b,0,none⟩)/\W.heap.size<=b/\Blk w b 30 [c,d,e,f] else mdV W0 B of vals i v
def mdG(W W0:World)(B:Nat)(of:Mdl)(v:Value)(w:World):Prop:=∃b c d e f,v=.pointer (some ⟨b,0,none⟩)/\W.heap.size<=b/\Blk w b 30 [c,d,e,f]/\RM W0 B of [c,d,e,f]
theorem tW{W W0:World}{B:Nat}{of:Mdl}{vals:List Value}{i:Nat}{v:Value}{w w':World}(h:mdF W W0 B of vals i v w)(l:Ext w w'):mdF W W0 B of vals i v w':=by
 unfold mdF at h⊢;split
 ·rename_i hi;rw[if_pos hi] at h;obtain⟨f,b,c,d,e,g,j,k⟩:=h;exact⟨f,b,c,d,e,g,j,k.ext l⟩
 ·rename_i hi;rw[if_neg hi] at h;exact h
theorem tX{W W0:World}{B:Nat}{of:Mdl}{v:Value}{w w':World}(h:mdG W W0 B of v w)(l:Ext w w'):mdG W W0 B of v w':=by
 obtain⟨f,b,c,d,e,g,i,j,k⟩:=h;exact⟨f,b,c,d,e,g,i,j.ext l,k⟩
theorem yr{W W0:World}{B:Nat}{of:Mdl}{vals:List Value}{w:World}{b:Nat}(u0 u1 u2 u3:Value){i:Nat}{v:Value}(h:mdF W W0 B of vals i v w):mdF W W0 B of vals i v ((((w.setCell ⟨b,0,none⟩ u0).setCell ⟨b,1,none⟩ u1).setCell ⟨b,2,none⟩ u2).setCell ⟨b,3,none⟩ u3):=by
 unfold mdF at h⊢;split
 ·rename_i hi
  rw[if_pos hi] at h;obtain⟨d,j,k,l,n,e,f,g⟩:=h;by_cases c:d=b
  ·subst c;exact⟨d,u0,u1,u2,u3,e,f,g.store4 u0 u1 u2 u3⟩
  ·exact⟨d,j,k,l,n,e,f,(((g.far c _).far c _).far c _).far c _⟩
 ·rename_i hi;rw[if_neg hi] at h;exact h
theorem AM{W w:World}(c:Ext W w){g:Nat}(b:W.heap.size<=g)(u0 u1 u2 u3:Value):Ext W ((((w.setCell ⟨g,0,none⟩ u0).setCell ⟨g,1,none⟩ u1).setCell ⟨g,2,none⟩ u2).setCell ⟨g,3,none⟩ u3):=
 (((c.setCell b _).setCell b _).setCell b _).setCell b _
def hpF(W:World)(c:List Value)(vals:List Value)(i:Nat)(v:Value)(w:World):Prop:=
 if i=3 then∃b,v=.func (.func 68) #[] #[.pointer (some ⟨b,0,none⟩)]/\W.heap.size<=b/\Blk w b 30 c else v=vals.getD i undef
theorem tC{W:World}{c vals:List Value}{i:Nat}{v:Value}{w w':World}(h:hpF W c vals i v w)(j:Ext w w'):hpF W c vals i v w':=by
 unfold hpF at h⊢;split
 ·rename_i b;rw[if_pos b] at h;obtain⟨d,e,f,g⟩:=h;exact⟨d,e,f,g.ext j⟩
 ·rename_i b;rw[if_neg b] at h;exact h
theorem js{w w':World}{b:Nat}{o:ByteArray->Option Int}(h:EnvM w b o)(f:Chg (λi=>i=b) w w'):∀g c,Tag w g c->w'.heap[g]? =w.heap[g]? :=λg c d=>f.block g d.lt (λe=>h.noTag (show Tag w b c from(show g=b from e)▸d))
section
variable {W0 w w' : World} {B N0 mb sb mp : Nat} {vf vs vp vc ve : Value} {m : Mk} {s : Sc}
theorem Kp.tags(f:∀c d,Tag w c d->w'.heap[c]? =w.heap[c]?):Kp w w':=λe b=>by
 rcases b with b|b|b<;>exact f e _ b
theorem MkI.tags(h:MkI w N0 mb vf vs vp vc m)(c:∀b e,Tag w b e->w'.heap[b]? =w.heap[b]?):MkI w' N0 mb vf vs vp vc m:=
 ⟨(c mb _ h.blk.tag).trans h.blk,h.sig.chg (λb _ d=>c b _ d) (λ_ _ h=>h),h.prc.chg (λb _ d=>c b _ d) (RPc.keep (Kp.tags c)),h.chk.chg (λb _ d=>c b _ d) (RCk.keep (Kp.tags c)),h.base⟩
theorem ScI.tags(h:ScI w sb mp ve s)(c:∀b d,Tag w b d->w'.heap[b]? =w.heap[b]?)(e:w'.heap[mp]? =w.heap[mp]?):ScI w' sb mp ve s:=
 ⟨(c sb _ h.blk.tag).trans h.blk,h.env.keep (.inr (.inr rfl)) (Kp.tags c) (λ_ _ _ h=>h),h.map.of_eq e⟩
theorem Blk.tags{g:Nat}{T:TypeId}{b:List Value}(h:Blk w g T b)(c:∀g T,Tag w g T->w'.heap[g]? =w.heap[g]?):Blk w' g T b:=(c g T h.tag).trans h
theorem EC.tags(h:EC W0 B N0 mb sb mp vf m s w)(c:∀b d,Tag w b d->w'.heap[b]? =w.heap[b]?)(g:w'.heap[mp]? =w.heap[mp]?)(i:Ext W0 w'):EC W0 B N0 mb sb mp vf m s w':=by
 obtain⟨vs,vp,vc,ve,e,f⟩:=h.ex;exact⟨⟨vs,vp,vc,ve,e.tags c,f.tags c g⟩,⟨h.cx.tabs,h.cx.hB,i⟩,h.gd,h.inv,h.lo,h.ls,h.lm,h.tab⟩
theorem FrI.after{X:Nat->Prop}{W d:World}(h:FrI N0 mb sb mp w W)(c:Chg X W d)(k:∀b,X b->w.heap.size<=b):FrI N0 mb sb mp w d:=
 ⟨c.os.trans h.os,c.tape.trans h.tape,c.output.trans h.output,ad h.size c.size,λb e f g i j=>(c.block b (aQ e h.size) (λl=>absurd (k b l) zO)).trans (h.block b e f g i j)⟩
end
theorem qm{α:Type}{i:ByteArray->Prop}{e:Int}{val:X->Rs α}{P:α->Prop}(h:∀x v,val x=.ok v->P v):∀(l:List Bnd) (o g:ByteArray->Option α),(∀f v,o f=some v->P v)->bT i e val l o=.ok g->∀f v,g f=some v->P v
 |[],o,g,ho,c=>by injection c with c;rw[<-c];exact ho
 |b::l,o,g,ho,c=>by
  rw[bT] at c;obtain⟨n,-,c⟩:=ak c;obtain⟨v,j,c⟩:=ak c;refine qm h l _ g (λf k d=>?_) c;unfold az at d;split at d
  ·injection d with d;rw[<-d];exact h _ _ j
  ·exact ho f k d
theorem ry{b:ByteArray->Option X}{p:Prt}{l:List Prt}(h:(b p.name).isSome=true\/p.o=true):dp b (p::l)=dp b l:=by
 rw[dp];unfold aU;rw[if_pos h];rfl
theorem vw{b:ByteArray->Option X}{p:Prt}{l:List Prt}(h:¬((b p.name).isSome=true\/p.o=true)):dp b (p::l)=.error 81:=by
 rw[dp];unfold aU;rw[if_neg h];rfl
def FrQ(N0 mb:Nat)(w w':World):Prop:=∀b c,FrI N0 mb b c w w'
section
variable {W0 a w w' : World} {B N0 mb sb mp : Nat} {vf vs vp vc : Value} {m m' : Mk} {s : Sc}
theorem FrQ.refl(N0 mb:Nat)(w:World):FrQ N0 mb w w:=λb c=>FrI.refl _ _ _ _ _
theorem FrQ.trans(h:FrQ N0 mb a w)(k:FrQ N0 mb w w'):FrQ N0 mb a w':=λb c=>(h b c).trans (k b c)
theorem FrQ.of_ext(h:Ext w w'):FrQ N0 mb w w':=λ_ _=>.of_ext h
theorem FrQ.of_chg(h:FrS mb w w'):FrQ N0 mb w w':=λ_ _=>.of_chg h
theorem FrQ.of_fr(h:FrI N0 mb w.heap.size w.heap.size w w'):FrQ N0 mb w w':=λb c=>h.fresh w (FrI.refl _ _ _ _ _) (.inl (ac _)) (.inl (ac _))
theorem FrQ.size(h:FrQ N0 mb w w'):w.heap.size<=w'.heap.size:=(h 0 0).size
theorem FrQ.blk(h:FrQ N0 mb w w'){g:Nat}{t:TypeId}{c:List Value}(d:Blk w g t c)(ht:la t)(b:g≠mb):Blk w' g t c:=(h mb mb).blk d ht b b b
theorem FrQ.envX(h:FrQ N0 mb w w'){g:Nat}{env:ByteArray->Option X}(b:EnvX W0 B w g env)(c:g≠mb):EnvX W0 B w' g env:=
 b.of_eq ((h mb mb).block g b.lt c c c (λd=>by rcases d.2 with h|h|h<;>exact b.noTag h))
theorem FrQ.envM(h:FrQ N0 mb w w'){g:Nat}{env:ByteArray->Option Int}(c:EnvM w g env)(b:g≠mb):EnvM w' g env:=(h mb mb).map c b b b
theorem FrQ.ec(h:FrQ N0 mb w w')(e:EC W0 B N0 mb sb mp vf m s w)(g:MkI w' N0 mb vf vs vp vc m')(f:Good m'.d.sigs s)(hi:MInv m'):EC W0 B N0 mb sb mp vf m' s w':=by
 obtain⟨n,l,j,k,c,b⟩:=e.ex;have i:Kp w w':=(h sb mp).kp c.blk.tag (λ_=>b.blk.tag) (λ_=>⟨_,b.map⟩);exact e.frI (h sb mp) g (b.frN (h (sb+mp+1) (sb+mp+1)) i c.blk.tag zO zO zO zO) f hi
end
theorem oE{kind:Prt->Int}:∀(l:List Prt) (s:Sc) (m:Mk) (e:Sc×Mk),ci kind l s m=.ok e->m.d.sigs.length<=e.2.d.sigs.length/\(∀c,(s.sigs c).isSome=true->(e.1.sigs c).isSome=true)/\∀f,f∈l->(e.1.sigs f.name).isSome=true
 |[],s,m,e,b=>by injection b with b;rw[<-b];exact⟨ac _,λ_ b=>b,λf r=>by cases r⟩
 |f::l,s,m,e,b=>by
  rw[ci] at b;obtain⟨w,-,b⟩:=ak b;obtain⟨i,t,b⟩:=ak b;obtain⟨o,j,p⟩:=oE l i.1 i.2 e b;have k:=(eY t).1;have n:∀c,(s.sigs c).isSome=true\/f.name=c->(i.1.sigs c).isSome=true:=λc g=>by
   rw[k];show(az s.sigs f.name (m.d.sigs.length:Int) c).isSome=true;unfold az;split
   ·rfl
   ·rename_i q;exact g.resolve_right q
  refine⟨ad (by rw[k];simp) o,λc g=>j c (n c (.inl g)),λu h=>?_⟩;rcases List.mem_cons.1 h with rfl|h
  ·exact j _ (n _ (.inr rfl))
  ·exact p u h
theorem rB{of:Mdl}{aB:ByteArray->Option Int}{g:ByteArray}{kind:Prt->Int}{m:Mk}{b:Sc×Mk}(h:dN of aB g kind m=.ok b):m.d.sigs.length<=b.2.d.sigs.length/\∀c,c∈of.ports->(b.1.sigs c.name).isSome=true:=by
 unfold dN at h;obtain⟨s,-,h⟩:=ak h;obtain⟨e,-,f⟩:=oE _ _ _ _ h;exact⟨e,f⟩
theorem EnvM.look0{w:World}{m:Nat}{env:ByteArray->Option Int}(h:EnvM w m env)(s:ByteArray):
 (Instr.lookup 93 (.map (some m)) (.string s) false).run Tryz.prog w=.ok (.int .i64 ((env s).getD 0)) w:=by
 obtain⟨e,b,c,d⟩:=h;have:=b.lookup (et:=3) underlying93 underlying9 (k:=.string s) trivial c (z:=.int .i64 0) zK false;rw[this,d];cases env s<;>rfl
theorem EnvM.look0_some{w:World}{m:Nat}{env:ByteArray->Option Int}(h:EnvM w m env)(s:ByteArray){a:Int}(ha:env s=some a):
 (Instr.lookup 93 (.map (some m)) (.string s) false).run Tryz.prog w=.ok (.int .i64 a) w:=by
 have:=h.look0 s;rw[ha] at this;exact this
theorem EC.beside{W0 w w':World}{B N0 mb sb mp g c:Nat}{vf vs vp vc:Value}{m m' q:Mk}{s r:Sc}(b:EC W0 B N0 mb sb mp vf m s w)(h0:EC W0 B N0 mb g c vf q r w)(e:FrI N0 mb g c w w')(l:MkI w' N0 mb vf vs vp vc m')(i:sb≠g)(h2:sb≠c)(h3:mp≠g)(j:mp≠c)(o:Ext W0 w')(k:Good m'.d.sigs s)(hi:MInv m'):EC W0 B N0 mb sb mp vf m' s w':=by
 obtain⟨C,z,v,t,f,p⟩:=b.ex;obtain⟨D,A,x,y,u,h⟩:=h0.ex;have n:Kp w w':=e.kp f.blk.tag (λ_=>h.blk.tag) (λ_=>⟨_,h.map⟩);exact⟨⟨vs,vp,vc,t,l,p.frN e n f.blk.tag i h2 h3 j⟩,⟨b.cx.tabs,b.cx.hB,o⟩,k,hi,b.lo,b.ls,b.lm,b.tab⟩
theorem lO{s i:Sc}{e:ByteArray->Option X}:∀(l:List Prt) (m m':Mk),co s i e l m=.ok m'->m'.d.sigs=m.d.sigs
 |[],m,m',b=>by injection b with b;rw[<-b]
 |p::l,m,m',b=>by
  rw[co] at b;split at b
  ·exact lO l m m' b
  ·obtain⟨j,f,b⟩:=ak b;obtain⟨c,g,b⟩:=ak b;obtain⟨k,h,b⟩:=ak b;rw[lO l k m' b,(fC h).1];show c.2.d.sigs=_;rw[(ii s _ j c g).2.1,jg f]
theorem mq{s:Sc}{j:ByteArray->Option Int}{c:ByteArray->Option X}:∀(l:List Prt) (m m':Mk),bZ s j c l m=.ok m'->m'.d.sigs=m.d.sigs
 |[],m,m',b=>by injection b with b;rw[<-b]
 |p::l,m,m',b=>by
  rw[bZ] at b;split at b
  ·obtain⟨n,e,b⟩:=ak b;obtain⟨o,k,b⟩:=ak b;obtain⟨h,f,b⟩:=ak b;obtain⟨i,g,b⟩:=ak b;rw[mq l i m' b,(fC g).1];show h.d.sigs=_;rw[jg f,jg e]
  ·exact mq l m m' b
theorem kh(fl:List Mdl):∀k,iB (cf fl k)
 |0=>λj s m m' b=>by rw[cf] at b;cases b
 |k+1=>λj s m m' b=>by
  rw[cf] at b;obtain⟨aB,-,b⟩:=ak b;obtain⟨l,-,b⟩:=ak b;obtain⟨p,-,b⟩:=ak b;obtain⟨n,g,b⟩:=ak b;obtain⟨o,h,b⟩:=ak b;obtain⟨c,i,b⟩:=ak b;have a:=(rB g).1;have e:=lO _ _ _ h;have f:=gp _ (λc _=>mg (kh fl k) c) _ _ _ i;have d:=mq _ _ _ b;rw[d];rw[e] at f;omega
theorem wy{s:Sc}{c:ByteArray->Option Int}{b:ByteArray->Option X}{p:Prt}{l:List Prt}{m:Mk}(h:¬((b p.name).isSome=true/\p.o=true)):bZ s c b (p::l) m=bZ s c b l m:=by
 rw[bZ];split
 ·rename_i x d e
  exact absurd ⟨by rw[d];rfl,e⟩ h
 ·rfl
theorem ka{s:Sc}{c:ByteArray->Option Int}{b:ByteArray->Option X}{p:Prt}{l:List Prt}{m:Mk}{x:X}{a:Int}(h:b p.name=some x)(e:p.o=true)(ha:c p.name=some a):bZ s c b (p::l) m=(do
 let m1<-aW 1 m
 let t<-cJ m1.d.sigs s false x
 let m2<-aW 1 m1
 let m3<-ca false [eb t (fW m2.d.sigs a)] m2
 bZ s c b l m3):=by rw[bZ,h,e,ha];rfl
theorem SlE9.one{Y:Nat->Prop}{w:World}{x:DE}{g:Nat}{b:List Value}(d:Blk w g 60 b)(e:Y g)(c:RE9 Y w x b):SlE9 Y w [x] (.slice (some ⟨g,0,none⟩) 1 1):=
 ⟨some ⟨g,0,none⟩,1,rfl,ac _,λh f=>by
  obtain rfl:h=0:=by simp at f;omega
  exact⟨g,0,b,rfl,e,d.tag,c.len,by simpa using d.cells,c.one,c⟩⟩
theorem lX{d:ByteArray}{x:X}:∀(l:List Bnd) (o:ByteArray->Option X),eq l o d=some x->o d=some x\/∃c,c∈l/\c.x=x
 |[],o,b=>.inl b
 |c::l,o,b=>by
  rcases lX l (az o c.name c.x) b with b|⟨f,g,e⟩
  ·unfold az at b;split at b
   ·injection b with b;exact .inr ⟨c,cc ..,b⟩
   ·exact .inl b
  ·exact .inr ⟨f,bi _ g,e⟩
theorem EnvX.lookW{W0 w:World}{B m:Nat}{env:ByteArray->Option X}(h:EnvX W0 B w m env)(s:ByteArray)(x:X)(c:env s=some x):
 ∃b,XOk W0 B x b/\∀w':World,w'.heap[m]? =w.heap[m]?->(Instr.lookup 205 (.map (some m)) (.string s) false).run Tryz.prog w'=.ok (.agg b.toArray) w':=by
 obtain⟨d,⟨f,e,g,i⟩,j,l⟩:=h;obtain⟨b,o,c⟩:=(l s).2 x c;refine⟨b,c,λw' n=>?_⟩;have:=(show MV w' m d from⟨f,e,n.trans g,i⟩).lookup (et:=40) underlying205 underlying9 (k:=.string s) trivial j (z:=.agg zeroXc.toArray) zK false;rw[this,o];rfl
def WJ(c:Rs (DE×Mk))(N0 mb:Nat)(vf vs vp vc:Value)(m:Mk)(W:World)(u:Value)(w:World):Prop:=
 ∃b,c=.ok b/\SlE9 (λd=>W.heap.size<=d) w [b.1] u/\MkI w N0 mb vf vs vp vc b.2/\FrS mb W w/\CntM m b.2
def WK(b:Rs (DE×Mk))(N0 mb:Nat)(vf vs vp vc:Value)(m:Mk)(W:World)(a hi:Int)(u:Value)(w:World):Prop:=
 ∃v,WJ b N0 mb vf vs vp vc m W v w/\u=.agg #[.int .i64 1,.int .i64 a,.int .i64 hi,.int .i64 0,v,.slice none 0 0]
def WL(c:Rs (DE×Mk))(N0 mb:Nat)(vf vs vp vc:Value)(m:Mk)(W:World)(a hi:Int)(u:Value)(w:World):Prop:=
 ∃b,c=.ok b/\SlT9 (λd=>W.heap.size<=d) w [.mk 1 a hi 0 [b.1] []] u/\MkI w N0 mb vf vs vp vc b.2/\FrS mb W w/\CntM m b.2
theorem vO{s c:Sc}{b:ByteArray->Option X}{p:Prt}{l:List Prt}{m:Mk}(h:p.o=true):co s c b (p::l) m=co s c b l m:=by rw[co,if_pos h]
theorem mW{s c:Sc}{b:ByteArray->Option X}{p:Prt}{l:List Prt}{m:Mk}(h:p.o=false){a:Int}(ha:c.sigs p.name=some a){x:X}(e:b p.name=some x):co s c b (p::l) m=(do
 let m1<-aW 1 m
 let y<-aG s x m1
 let m2<-ca false [.mk 1 a ((aD m1.d.sigs a).w - 1) 0 [y.1] []] y.2
 co s c b l m2):=by rw[co,if_neg (by rw[h];decide),ha,e];rfl
theorem oo{W0:World}{B:Nat}{o:Option X}{b:List Value}(h0:o=none->b=zeroXc)(h:∀x,o=some x->XOk W0 B x b):
 ∃(d:Int) (g1:ByteArray) (e f g:Int) (c:Value),b=[.int .i64 d,.string g1,.int .i64 e,.int .i64 f,.int .u64 g,c]/\c.oneCell'=true:=by
 cases o with
 |none=>exact⟨_,_,_,_,_,_,h0 rfl,rfl⟩
 |some x=>
  obtain⟨k,i,j⟩:=RX_iff.1 (h x rfl).rx;exact⟨_,_,_,_,_,_,i,j.oneCell⟩
theorem vP(W0:World)(B N0 mb:Nat)(O:Option Addr)(Q:Nat)(fl:List Mdl)(k:Nat)(t:Itm)(of:Mdl)(hfd:ce fl t.of=some of)(hVM:VM of)(hMay:dc of)(o0:ar of<=65536)(hvt:VI t)(T9:MayI t)(hop:t.op=7)
 (hSf:Sl (RM W0 B) W0 B 4 fl (.slice O fl.length Q)) (hlf:fl.length<=1000000) (hTs:aj t<=65536)
 (hL:fE W0 B N0 mb (.slice O fl.length Q) (cf fl k) k of.items):mJ W0 B N0 mb (.slice O fl.length Q) (cf fl (k+1)) (k+1) t:=by
 intro sb mp m s w n5 h hph b9;have H:=Hd h;have HL:=Hd hL;have hSI:=bq t;obtain⟨hmw,hsw,hpw,hsm,hpm,hps,hNm⟩:=h.mlt;obtain⟨vs,vp,vc,ve,hmk0,hsc0⟩:=h.ex;have HMK:=Hd hmk0;have HSC:=Hd hsc0;have hN0:=h.lo;have hW0w:=h.cx.ext.size;have i8:=h.cx.hB;obtain⟨v3,v4,v5,v6,X0,v8,rfl,i6,i7,d1,h6,h7,h8⟩:=RI_iff.1 b9;have o3:=i6.oneCell;have o4:=i7.oneCell;have o5:=d1.oneCell;have o6:=h6.oneCell;have o7:=h7.oneCell;have o8:=h8.oneCell;have HX7:=Hd h7;have HX8:=Hd h8;obtain⟨q4,hW1,U8,hb1'⟩:=aL w (.pointer (some ⟨sb,0,none⟩)) 100;obtain⟨l2,hW2,P2,T0⟩:=bM q4 (.int .i64 t.op) (.string t.name) (.string t.of) v3 v4 v5 v6 X0 v8 37;obtain⟨e2,he2⟩:=ae (W:=l2) (w:=l2) (af _);have hV1:=hW1.symm;have hV2:=hW2.symm.trans he2;have s1:w.heap.size<q4.heap.size:=hb1'.lt;have s2:q4.heap.size<l2.heap.size:=T0.lt;have BS:=Hd (hb1'.ext P2);have BX:=Hd T0;have X2:=Hd (U8.trans P2);obtain⟨l6,n0,n3,n4,M5,M6,M7,M8,M9⟩:=T0.later9;obtain⟨N3,N4,N5,N6,g4,g5⟩:=(hmk0.blk.ext (U8.trans P2)).later6;have KF:=Hd (show∀w',Ext l2 w'->Calls Tryz.prog 33 #[.agg #[.slice O fl.length Q],.string t.of] w' λe X1=>∃l6 n0 n3 n4,e=.returned (.tuple #[.agg #[l6,n0,n3,n4],.bool true])/\RM W0 B of [l6,n0,n3,n4]/\Ext w' X1 from λw' C=>by
  have A:=(h.cx.ext.trans (U8.trans P2)).trans C;refine(qu B fl t.of w' _ (hSf.extRM A i8) (ad i8 A.size) zO).mono ?_;rintro e X1 ⟨q7,i5,q8,q9,rfl,c8,hx'⟩;rw[hfd] at c8⊢;exact⟨q7,i5,q8,q9,rfl,RM.keep (λi c3=>((A.trans hx').cell zO).symm) (ac _) _ _ c8,hx'⟩)
 have L5:=Hd (show cf fl (k+1) t s m=(do
  let aB<-bT (λg6=>∃p,p∈of.params/\p.name=g6) 82 (λx=>aI s x) t.params (λ_=>none)
  let ends<-bT (λg6=>∃i,i∈of.ports/\i.name=g6) 81 (λx=>.ok x) t.binds (λ_=>none)
  let _<-dp ends of.ports
  let h<-dN of aB (s.path++t.name++tDot) (λ_=>3) m
  let d9<-co s h.1 ends of.ports h.2
  let J0<-aZ (cf fl k) of.items h.1 d9
  bZ s h.1.sigs ends of.ports J0.2) by rw[cf,hfd];rfl)
 obtain⟨b8,hRR⟩:∃b8,b8=cf fl (k+1) t s m:=⟨_,rfl⟩;rw[<-hRR] at L5⊢;have HE2:=Hd he2;rw[hop] at hV2 l6;rw[hop];clear he2 hW1 hW2 U8 P2 hb1' T0 h i6 i7 d1 h6 h7 h8 b9 hmk0 hsc0 hL hRR hfd hSf;have hmf:=@hmf_ Tryz.prog;have hmm:=@run_makeMap Tryz.prog;go_enter func111,ntmps111;go_wp2_with fail
 refine np (W:=l2) (mdF l2 W0 B of [.pointer (some ⟨mb,0,none⟩),.pointer (some ⟨mb,0,none⟩),.pointer (some ⟨mb,0,none⟩),.agg #[.slice O fl.length Q],.pointer (some ⟨q4.heap.size,2,none⟩),.string t.of,undef,undef,undef,.bool true,undef,undef,.bool true]) (mdG l2 W0 B of) 11 10 6 zK zK zK zD zD ?_ (ag e2) (λd2 v w w' h C=>tW h C) (λv w w' h C=>tX h C) ?_ ?_
 ·simp[GuardsMet,mdF]
 ·refine⟨?_,?_,?_,?_,?_,?_,?_,?_,?_,?_,?_,?_,?_,trivial⟩;rotate_left 6
  ·intro K J A c l;obtain⟨E,rfl⟩:=ae A;have h9:=ab c 3 30 zK rfl;simp[mdF,mdV] at h9;have g7:=ab c 5 32 zK rfl;simp[mdF,mdV] at g7;clear c l;go_simp;refine(KF.o E.w E.ext).mono ?_;rintro e X6 ⟨M4,e3,i3,e4,rfl,c8,C⟩;have e9:=Hd c8;clear c8;go_simp;first|exact⟨_,rfl,C,_,_,_,_,rfl,e9.o⟩|exact⟨C,_,_,_,_,rfl,e9.o⟩|exact⟨_,rfl,_,_,_,_,rfl,e9.o⟩
  ·intro K J A c l;obtain⟨E,rfl⟩:=ae A;obtain⟨M4,e3,i3,e4,I0,c8⟩:=ab c 6 33 zK rfl;simp at I0;clear c l;have e9:=Hd c8;clear c8;go_simp;first|exact⟨_,rfl,af _,_,_,_,_,rfl,e9.o⟩|exact⟨af _,_,_,_,_,rfl,e9.o⟩|exact⟨_,rfl,_,_,_,_,rfl,e9.o⟩|exact⟨_,_,_,_,rfl,e9.o⟩
  ·intro K J A c l;obtain⟨E,rfl⟩:=ae A;obtain⟨M4,e3,i3,e4,I1,c8⟩:=ab c 7 26 zK rfl;simp at I1;clear c l;have e9:=Hd c8;clear c8;go_simp;first|exact⟨_,rfl,af _,_,_,_,_,rfl,e9.o⟩|exact⟨af _,_,_,_,_,rfl,e9.o⟩|exact⟨_,rfl,_,_,_,_,rfl,e9.o⟩|exact⟨_,_,_,_,rfl,e9.o⟩
  ·intro K J A c l;obtain⟨E,rfl⟩:=ae A;obtain⟨M4,e3,i3,e4,I1,c8⟩:=ab c 7 26 zK rfl;simp at I1;clear c l;exact zE
  ·intro K J A c l;obtain⟨E,rfl⟩:=ae A;clear c l;obtain⟨g1,r0,o9,hb4⟩:=bK E.w (.string ⟨#[]⟩) (.slice none 0 0) (.slice none 0 0) (.slice none 0 0) 30;have hV4:=r0.symm;have p8:=Hd (aq o9 hb4);have M1:=Hd E.ext.size;clear r0 o9 hb4;go_simp;exact⟨_,rfl,p8.o.1,_,_,_,_,_,rfl,M1.o,p8.o.2⟩
  ·intro K J A c l;obtain⟨E,rfl⟩:=ae A;obtain⟨g,q7,i5,q8,q9,q10,hge,r4⟩:=ab c 10 6 zK rfl;simp at q10;obtain⟨M4,e3,i3,e4,Q2,c8⟩:=ab c 8 34 zK rfl;simp at Q2;clear c l;obtain⟨X7,X8,X9,Y0⟩:=r4.get4;obtain⟨f0,f1,f2,f3⟩:=r4.free4;have hrm':=c8;obtain⟨v1',v2',v3',O4,K1,K2,hi1⟩:=hrm';simp only[List.cons.injEq,and_true] at O4;obtain⟨rfl,rfl,rfl,rfl⟩:=O4;have o1:=K1.oneCell;have o2:=K2.oneCell;have o3:=hi1.oneCell;clear K1 K2 hi1;have p8:=Hd (aq hge (aq r4 c8));clear hge r4 c8;go_simp;exact⟨AM E.ext p8.o.1 _ _ _ _,λj e0 h=>yr _ _ _ _ h,_,_,_,_,_,rfl,p8.o.1,p8.o.2.1.store4 _ _ _ _,p8.o.2.2⟩
  all_goals
   intro K J A c l;obtain⟨E,rfl⟩:=ae A;try (have m2:=ab c 0 27 zD rfl;simp[mdF,mdV] at m2)
   try (have m3:=ab c 1 28 zD rfl;simp[mdF,mdV] at m3)
   try (have h5:=ab c 2 29 zD rfl;simp[mdF,mdV] at h5)
   try (have i0:=ab c 4 31 zD rfl;simp[mdF,mdV] at i0)
   try (have Q3:=ab c 9 35 zD rfl;simp[mdF,mdV] at Q3)
   have p2:=ah l 0 zK;simp at p2;have p5:=ah l 5 zK;simp at p5;clear c l;exact zE
 ·intro K J N hG;obtain⟨f9,rfl,A,c5,b⟩:=(KnownR.mk (R:=Ext) N.ext N.size N.defers N.done N.rest).fin (n:=184) rfl;obtain⟨E,rfl⟩:=ae A;obtain⟨V6,M4,e3,i3,e4,c6,hog,hbo,c8⟩:=hG;simp at c6;have c9:f9 7=.bool true:=c5 12 7 rfl rfl;have a7:=b 0 zK;simp at a7;have u:=b 1 zK;simp at u;have y:=b 2 zK;simp at y;have z:=b 3 zK;simp at z;have a8:=b 4 zK;simp at a8;have a9:=b 5 zK;simp at a9;clear c5 b;simp only[List.drop_succ_cons,List.drop_zero];simp[List.range,List.range.loop,c6,c9,a7,u,y,z,a8,a9];clear c6 c9 a7 u y z a8 a9;obtain⟨va1,va2,va3,O4,K1,hp2,hp3⟩:=c8;simp only[List.cons.injEq,and_true] at O4;obtain⟨rfl,rfl,rfl,rfl⟩:=O4;have oa1:=K1.oneCell;have oa2:=hp2.oneCell;have oa3:=hp3.oneCell;have HP1:=Hd K1;have Z5:=Hd hp2;have HP3:=Hd hp3;obtain⟨Y,S7⟩:∃Y,Y=E.w:=⟨_,rfl⟩;have hb3:=S7▸hbo;have P3:Ext l2 Y:=S7▸E.ext;rw[<-S7];have X3:=Hd (X2.o.trans P3);have BO:=Hd hb3;have BX3:=Hd (BX.o.ext P3);have Y3:=Hd (BS.o.ext P3);have s3:V6<Y.heap.size:=hb3.lt;have s23:l2.heap.size<=Y.heap.size:=P3.size;clear hbo S7 P3 K1 hp2 hp3 l6 n0 n3 n4 M5 M6 M7 M8 M9 N3 N4 N5 N6 g4 g5 KF;obtain⟨g1,r0⟩:∃g1,g1=Y.alloc (.map #[] 0):=⟨_,rfl⟩;have hV4:=r0.symm;have o9:Ext Y g1:=by rw[r0];exact aE _ _
  have hm4:EnvM g1 Y.heap.size (λ_=>none):=by rw[r0];exact EnvM.new _
  obtain⟨q5,S8,K5,hb5⟩:=aL g1 (.map (some Y.heap.size)) 93;obtain⟨e5,he5⟩:=ae (W:=q5) (w:=q5) (af _);have hV5:=S8.symm.trans he5;have s4:Y.heap.size<g1.heap.size:=hm4.lt;have s5:g1.heap.size<q5.heap.size:=hb5.lt;have HM5:=Hd (hm4.ext K5);have BT:=Hd hb5;have X5:=Hd (X3.o.trans (o9.trans K5));have BO5:=Hd (BO.o.ext (o9.trans K5));have BX5:=Hd (BX3.o.ext (o9.trans K5));have BS5:=Hd (Y3.o.ext (o9.trans K5));obtain⟨l6,n0,n3,n4,M5,M6,M7,M8,M9⟩:=BX5.o.later9;obtain⟨N3,N4,N5,N6⟩:=BO5.o.later4;have M3:=Hd (λw'=>pl (.string of.name) e3 i3 e4 rfl oa1 oa2 oa3 w');clear r0 o9 hm4 S8 K5 hb5 he5 hb3;go_wp2_with fail
  refine bD 5 (W:=q5) (Ext) (hpF q5 [.string of.name,e3,i3,e4] [.pointer (some ⟨q4.heap.size,7,none⟩),X0,.agg #[.string of.name,e3,i3,e4],undef,.func (.func 152) #[] #[.pointer (some ⟨w.heap.size,0,none⟩),.pointer (some ⟨g1.heap.size,0,none⟩)]]) (λ_ _=>False) (λ_=>true) zK (bo) zK zK ?_ (ag e5) (λd2 v w w' h C=>tC h C) ?_ (λK N1 w c c3=>c3.elim) ?_
  ·exact⟨rfl,rfl,rfl,rfl,rfl,trivial⟩
  ·refine⟨?_,?_,?_,?_,?_,trivial⟩;rotate_left 3
   ·intro K J A c l;obtain⟨E,rfl⟩:=ae A;have h5:=ab c 2 39 zK rfl;simp[hpF] at h5;clear c l;go_simp;refine(M3.o E.w).mono ?_;rintro _ X6 ⟨rfl,r4,C⟩;have Y5:=Hd r4;have M1:=Hd E.ext.size;clear r4;go_simp;first|exact⟨_,rfl,C,_,rfl,M1.o,Y5.o⟩|exact⟨C,_,rfl,M1.o,Y5.o⟩|exact⟨_,rfl,_,rfl,M1.o,Y5.o⟩
   all_goals
    intro K J A c l;obtain⟨E,rfl⟩:=ae A;try (have m2:=ab c 0 37 zD rfl;simp[hpF] at m2)
    have p4:=ah l 4 zK;simp at p4;have r8:=ah l 8 zK;simp at r8;have p5:=ah l 5 zK;simp at p5;have L2:=ah l 6 zK;simp at L2;clear c l;exact zA
  ·intro K J N;obtain⟨f4,rfl,A,c5,b⟩:=N.fin (n:=184) rfl;obtain⟨E,rfl⟩:=ae A;have a7:=b 0 zK;have u:=b 1 zK;have y:=b 2 zK;have z:=b 3 zK;have a8:=b 4 zK;have a9:=b 5 zK;have c6:=b 6 zK;have c9:=b 7 zK;have d8:=b 8 zK;have k3:f4 38=X0:=c5 1 38 rfl rfl;have k5:f4 41=.func (.func 152) #[] #[.pointer (some ⟨w.heap.size,0,none⟩),.pointer (some ⟨g1.heap.size,0,none⟩)]:=c5 4 41 rfl rfl;obtain⟨hg,k4,hhg,hbh⟩:=c5 3 40 rfl rfl;clear c5 b;simp at a7 u y z a8 a9 c6 c9 d8;simp only[List.drop_succ_cons,List.drop_zero];simp[List.range,List.range.loop,a7,u,y,z,a8,a9,c6,c9,d8,k3,k5,k4];clear a7 u y z a8 a9 c6 c9 d8 k3 k5 k4;obtain⟨l4,S9⟩:∃l4,l4=E.w:=⟨_,rfl⟩;have p0:Ext q5 l4:=S9▸E.ext;have BH6:=Hd (show Blk l4 hg 30 [.string of.name,e3,i3,e4] from S9▸hbh);rw[<-S9];have J4:=Hd (X5.o.trans p0);have R0:=Hd (HM5.o.ext p0);have Q7:=Hd (BT.o.ext p0);have BO6:=Hd (BO5.o.ext p0);have BX6:=Hd (BX5.o.ext p0);have BS6:=Hd (BS5.o.ext p0);have s6:q5.heap.size<=l4.heap.size:=p0.size;have J1:=Hd (H.o.ext J4.o);have hsB:=ay au;have htm0:w.heap.size<=Y.heap.size:=X3.o.size;have htm1:Y.heap.size<l4.heap.size:=by omega
   have hmp6:¬mp=Y.heap.size:=by omega
   have hXt:=Hd (show∀p,p∈t.params->∀F,RX W0 B p.x F->XOk W0 B p.x F from λp U F c2=>⟨c2,by
    have e6:=ay au t.params p U;have g2:au p=1+al p.x:=rfl;omega,((VI_iff.1 hvt).2.2.2.2.2.2.1 p U).2⟩)
   have M2:=Hd (rm (α:=Int) W0 B (λg6=>∃p,p∈of.params/\p.name=g6) 68 152 #[.pointer (some ⟨hg,0,none⟩)] #[.pointer (some ⟨w.heap.size,0,none⟩),.pointer (some ⟨g1.heap.size,0,none⟩)] zM BE 82 zD (λx=>aI s x) (λp=>p=Y.heap.size) (λo w'=>EnvM w' Y.heap.size o) l4 t.params X0 HX7.o
    (by have:=aw au t.params du;omega) J1.o.cx.ext i8 (λp U=>by have:p=Y.heap.size:=U;omega) hXt.o
    (λo a p M c2=>M.of_eq (c2.block _ M.lt (λC=>absurd (show l4.heap.size<=Y.heap.size from C) zO)))
    (λg6 w' c2=>by
      have U:=BH6.o.tags (js R0.o c2);have A:Ext W0 w':=c2.ext J1.o.cx.ext (λk N=>by have:k=Y.heap.size:=N;omega);exact rD B of.params e3 g6 hg w' (U.cell 1) (HP1.o.extRB A i8) (ad i8 A.size) (by have:=aw au of.params du;unfold ar at o0;omega) U.lt)
    (λp U o w' n5 c2 M hrb=>by
      have ht:=js R0.o c2;have A:Ext W0 w':=c2.ext J1.o.cx.ext (λk N=>by have:k=Y.heap.size:=N;omega);refine(zc W0 B sb mp Y.heap.size w.heap.size g1.heap.size ve s p n5 o w' ⟨J1.o.cx.tabs,i8,A⟩ ((HSC.o.ext J4.o).tags ht (c2.block mp (aQ hpw J4.o.size) hmp6)) H.o.gd.env (BS6.o.tags ht) (Q7.o.tags ht) M hrb (hXt.o p U)).mono ?_;rintro e X1 (⟨v,e0,e6,rfl,g2,i6,i7⟩|⟨F,e6,rfl,g2⟩)
      ·exact .ok e6 ⟨g2,i6,i7⟩
      ·exact .no e6 g2)
    R0.o)
   clear l6 n0 n3 n4 M5 M6 M7 M8 M9 N3 N4 N5 N6 M3 p0 S9 hbh hsB;go_wp2_with fail
   go_at_call 151;refine M2.o.mono ?_;rintro e L3 (⟨aB,e0,f,rfl,em,rfl,hem,K7,M,f5⟩|⟨F,f,rfl,f5⟩);rotate_left
   ·exact⟨rfl,.no (by rw[L5.o,f];rfl) ((cb J4.o).after f5 (λk N=>by have:k=Y.heap.size:=N;omega))⟩
   have HR7:=Hd f;have HTOLD:=Hd M;have hIN:=Hd (qm (P:=bU) (λx v h=>hV h) t.params _ aB (λg6 v h=>by cases h) f);have K3:=js R0.o f5;have P4:Ext W0 L3:=f5.ext J1.o.cx.ext (λk N=>by have:k=Y.heap.size:=N;omega);have HE7:=Hd (J1.o.tags K3 (f5.block mp (aQ hpw J4.o.size) hmp6) P4);have BO7:=Hd (BO6.o.tags K3);have BX7:=Hd (BX6.o.tags K3);have BS7:=Hd (BS6.o.tags K3);have BT7:=Hd (Q7.o.tags K3);have F7:=Hd ((cb (N0:=N0) (mb:=mb) (sb:=sb) (mp:=mp) J4.o).after f5 (λk N=>by have:k=Y.heap.size:=N;omega));have s7:l4.heap.size<=L3.heap.size:=f5.size;clear f hem K7 M f5 K3 M2;obtain⟨l6,n0,n3,n4,M5,M6,M7,M8,M9⟩:=BX7.o.get9;have hXb:=Hd (show∀p,p∈t.binds->∀F,RX W0 B p.x F->XOk W0 B p.x F from λp U F c2=>⟨c2,by
    have e6:=ay au t.binds p U;have g2:au p=1+al p.x:=rfl;omega,((VI_iff.1 hvt).2.2.2.2.2.2.2 p U).2⟩)
   have M2:=Hd (rm (α:=X) W0 B (λg6=>∃i,i∈of.ports/\i.name=g6) 153 156 #[.pointer (some ⟨V6,0,none⟩)] #[] zP AG 81 zD (λx=>.ok x) (λ_=>False) (λ_ _=>True) L3 t.binds v8 HX8.o
    (by have:=aw au t.binds du;omega) P4 i8 (λp U=>U.elim) hXb.o (λ_ _ _ _ _=>trivial)
    (λg6 w' c2=>by
      have C:Ext L3 w':=c2.ext (af _) (λk N=>N.elim);have U:=BO7.o.ext C;exact yg B of.ports i3 g6 V6 w' (U.cell 2) (Z5.o.extRP (P4.trans C) i8) (ad i8 (P4.trans C).size) (by have:=aw aJ of.ports (λi=>by unfold aJ;omega);unfold ar at o0;omega) U.lt)
    (λp U o w' n5 c2 M hrb=>by
      refine(xm B p w' n5 (RB.keep (λi c3=>(c2.ext P4 (λk N=>N.elim)).cell zO) (ac _) p n5 hrb)).mono ?_;rintro e X1 ⟨rfl,C⟩;exact .ok rfl ⟨rfl,trivial,C.chg⟩)
    trivial)
   go_wp2_with fail
   go_at_call 151;refine M2.o.mono ?_;rintro e Q5 (⟨a1,e0,f,rfl,N2,rfl,hep,K7,-,f5⟩|⟨F,f,rfl,f5⟩);rotate_left
   ·exact⟨rfl,.no (by rw[L5.o,HR7.o];simp only[bind,Except.bind];rw[f]) (F7.o.after f5 (λk N=>N.elim))⟩
   have hE:a1=eq t.binds (λ_=>none):=ro _ _ _ f;rw[<-hE] at K7;have HEQ:=Hd hE;have e8:Ext L3 Q5:=f5.ext (af _) (λk N=>N.elim);have HXM:=Hd K7;have hep8:N2<Q5.heap.size:=K7.lt;have l1:=Hd (HE7.o.ext e8);have HT8:=Hd (HTOLD.o.ext e8);have Y1:=Hd (BO7.o.ext e8);have BX8:=Hd (BX7.o.ext e8);have BS8:=Hd (BS7.o.ext e8);have BT8:=Hd (BT7.o.ext e8);have Y4:=Hd (F7.o.trans (.of_ext e8));have s8:L3.heap.size<=Q5.heap.size:=e8.size
   obtain⟨q1,hR2⟩:∃q1,q1=(do
    let h<-dN of aB (s.path++t.name++tDot) (λ_=>3) m
    let d9<-co s h.1 a1 of.ports h.2
    let J0<-aZ (cf fl k) of.items h.1 d9
    bZ s h.1.sigs a1 of.ports J0.2:Rs Mk):=⟨_,rfl⟩
   have HR2:=Hd hR2;have HZ0:=Hd (show b8=(do let _<-dp a1 (of.ports.drop 0);q1) by rw[L5.o,HR7.o];simp only[bind,Except.bind];rw[f,hR2];rfl);clear f K7 f5 e8 M2 hR2 l6 n0 n3 n4 M5 M6 M7 M8 M9 L5 hE;obtain⟨N3,N4,N5,N6⟩:=Y1.o.get4;obtain⟨W6,W7,rfl,hqc,hqr⟩:=Z5.o;have Z7:=Hd hqr;have hlq:of.ports.length<=65536:=by have:=aw aJ of.ports (λi=>by unfold aJ;omega);unfold ar at o0;omega
   clear hqr;go_wp2_with fail
   go_loopw [51] (λd2 wr=>∃u:Nat,u<=of.ports.length/\d2=.int .i64 u/\Ext Q5 wr/\(∀i,i∈of.ports.take u->(a1 i.name).isSome=true\/i.o=true)/\b8=(do let _<-dp a1 (of.ports.drop u);q1)) (λd2 _=>of.ports.length - (intOf d2).toNat)
   case atStart=>exact⟨0,aA _,rfl,af _,(λi c3=>by simp at c3),HZ0.o⟩
   case round=>
    obtain⟨u,T8,rfl,K6,hps9,b9⟩:=hrel;have Z6:=Hd hps9;clear hps9;clear HZ0 N3 N4 N5 N6;have HX9:=Hd K6;by_cases n9:u<of.ports.length
    ·rw[List.drop_eq_getElem_cons n9] at b9;obtain⟨p,o,n5,O9,hbw,J5,n6,O8,O0⟩:=Z7.o _ n9;subst O9;obtain⟨F,rfl,n7⟩:=O0;obtain⟨I6,rfl,d1⟩:=RX_iff.1 n7;have o5:=d1.oneCell;obtain⟨q7,i5,q8,q9,S1,S2,S3,S4⟩:=(n6.ext (l1.o.cx.ext.trans K6)).get8;obtain⟨i2,n8,k2,e7⟩:=de wr (.string of.ports[u].name) (.bool of.ports[u].o) (.int .i64 of.ports[u].w.op) (.string of.ports[u].w.name) (.int .i64 of.ports[u].w.n) (.int .i64 of.ports[u].w.w) (.int .u64 of.ports[u].w.v) I6 42;have r1:=n8.symm;obtain⟨V8,H9,V9,W1,W2,W3,W4,W5⟩:=e7.get8;obtain⟨cl,r9,O7,K0⟩:=(HXM.o.ext (K6.trans k2)).look of.ports[u].name true;simp only[if_true] at r9;obtain⟨m2,m3,h5,h9,i0,g7,rfl,oq⟩:=oo O7 K0;obtain⟨R8,O2,p1,O3⟩:=aV i2 (.int .i64 m2) (.string m3) (.int .i64 h5) (.int .i64 h9) (.int .u64 i0) g7 40;have hW5':=O2.symm;obtain⟨p2,p3,r2,r3,p4,p5,L2,r7⟩:=(e7.ext p1).get8;have HX10:=Hd (K6.trans (k2.trans p1));have U1:=Hd (λw'=>dZ 81 w');have U2:=Hd (λw'=>ei 81 zD w');have a0:=Hd b9;have HTK:=Hd (List.take_succ_eq_append_getElem n9);generalize of.ports[u]=i at*;obtain⟨l9,r6⟩:∃l9,l9=(a1 i.name).isSome:=⟨_,rfl⟩;obtain⟨f7,f6⟩:∃f7,f7=i.o:=⟨_,rfl⟩;rw[<-r6] at r9;rw[<-f6] at H9 p3 i5 r1;have e1:=Hd (aq r6 f6);clear b9 n6 n7 d1 O8 n8 k2 e7 O7 K0 O2 p1 O3 K6 r6 f6;cases l9 with
     |true=>
      have d3:=Hd (show b8=(do let _<-dp a1 (of.ports.drop (u+1));q1) by rw[a0.o,ry (.inl e1.o.1.symm)]);have Z4:=Hd (show∀i,i∈of.ports.take (u+1)->(a1 i.name).isSome=true\/i.o=true from λQ1 d7=>by
       rw[HTK.o] at d7;rcases y8e.1 d7 with d7|d7
       ·exact Z6.o Q1 d7
       ·rw[List.mem_singleton.1 d7];exact .inl e1.o.1.symm)
      go_wp2_with fail
      go_at_call 35;refine(U1.o _).mono ?_;rintro _ w9 ⟨rfl,rfl⟩;go_wp2_with fail
      go_roundw;case rel=>exact⟨u+1,zO,zN,HX10.o,Z4.o,d3.o⟩
      case measure=>simp[intOf];omega
     |false=>
      cases f7 with
      |true=>
       have d3:=Hd (show b8=(do let _<-dp a1 (of.ports.drop (u+1));q1) by rw[a0.o,ry (.inr e1.o.2.symm)]);have Z4:=Hd (show∀i,i∈of.ports.take (u+1)->(a1 i.name).isSome=true\/i.o=true from λQ1 d7=>by
        rw[HTK.o] at d7;rcases y8e.1 d7 with d7|d7
        ·exact Z6.o Q1 d7
        ·rw[List.mem_singleton.1 d7];exact .inr e1.o.2.symm)
       go_wp2_with fail
       go_at_call 35;refine(U1.o _).mono ?_;rintro _ w9 ⟨rfl,rfl⟩;go_wp2_with fail
       go_roundw;case rel=>exact⟨u+1,zO,zN,HX10.o,Z4.o,d3.o⟩
       case measure=>simp[intOf];omega
      |false=>
       have d3:=Hd (show b8=.error 81 by rw[a0.o,vw (λh=>by rw[<-e1.o.1,<-e1.o.2] at h;rcases h with h|h<;>cases h)];rfl);go_wp2_with fail
       go_at_call 35;refine(U2.o _).mono ?_;rintro _ w9 ⟨rfl,rfl⟩;exact⟨rfl,.no d3.o (Y4.o.trans (.of_ext HX10.o))⟩
    ·have O6:u=of.ports.length:=by omega
     subst O6;have a0:=Hd (show b8=q1 by rw[b9,List.drop_length];rfl);have HEN:=Hd (show∀i,i∈of.ports->(a1 i.name).isSome=true\/i.o=true from λi c3=>Z6.o i (by rw[List.take_length];exact c3));clear b9 K6 T8 n9;obtain⟨vs8,vp8,vc8,ve8,hmk8,hsc8⟩:=l1.o.ex;have K8:=HX9.o;obtain⟨P6,V2,P7,P8⟩:=(Y1.o.ext K8).later4;obtain⟨j0,j1,j2,j3,j4,j5,j6,j7,j8⟩:=(BX8.o.ext K8).later9;have l0:=cellAt ((BS8.o.ext K8).cell 0);have L0:=cellAt ((BT8.o.ext K8).cell 0);obtain⟨m0,d9,h4⟩:=(hsc8.blk.ext K8).later3;have hnm7:t.name.size<=64:=(lA T9 zO).2.1;have n1:¬(9223372036854775807<s.path.size+t.name.size):=by omega
     have n2:¬(9223372036854775807<s.path.size+t.name.size+1):=by omega
     have fo1:∀e0:ByteArray,e0++(⟨#[46]⟩:ByteArray)=e0++tDot:=λ_=>rfl
     have fz1:tDot.size=1:=rfl;have HMK8:=Hd hmk8;have HSC8:=Hd hsc8;clear hmk8 hsc8;go_wp2_with fail
     refine bD 11 (W:=wr) (Ext) (eqG [.pointer (some ⟨mb,0,none⟩),.agg #[.string of.name,e3,.slice W6 of.ports.length W7,e4],.map (some Y.heap.size),.pointer (some ⟨sb,0,none⟩),.pointer (some ⟨sb,0,none⟩),.pointer (some ⟨sb,2,none⟩),.string s.path,.pointer (some ⟨q4.heap.size,1,none⟩),.string t.name,.string (s.path++t.name),.string (s.path++t.name++tDot)]) (λ_ _=>False) (λ_=>true) zK (bo) zK zK ?_ (af _) (λd2 v w w' h C=>dz h C) ?_ (λK N1 w c c3=>c3.elim) ?_
     ·exact⟨rfl,rfl,rfl,rfl,rfl,rfl,rfl,rfl,rfl,rfl,rfl,trivial⟩
     ·refine⟨?_,?_,?_,?_,?_,?_,?_,?_,?_,?_,?_,trivial⟩
      all_goals
       intro K J A c l;obtain⟨E,rfl⟩:=ae A;try (have h9:=ab c 3 72 zD rfl;simp[eqG] at h9)
       try (have i0:=ab c 4 73 zD rfl;simp[eqG] at i0)
       try (have g7:=ab c 5 74 zD rfl;simp[eqG] at g7)
       try (have I1:=ab c 7 76 zD rfl;simp[eqG] at I1)
       try (have I0:=ab c 6 75 zD rfl;simp[eqG] at I0)
       try (have Q2:=ab c 8 77 zD rfl;simp[eqG] at Q2)
       try (have Q3:=ab c 9 78 zD rfl;simp[eqG] at Q3)
       have p2:=ah l 0 zK;simp at p2;have L2:=ah l 6 zK;simp at L2;have r8:=ah l 8 zK;simp at r8;have p4:=ah l 4 zK;simp at p4;have p5:=ah l 5 zK;simp at p5;clear c l;exact zA
     ·intro K J N;obtain⟨f4,rfl,A,c5,b⟩:=N.fin (n:=184) rfl;obtain⟨E,rfl⟩:=ae A;have a7:=b 0 zK;have u:=b 1 zK;have y:=b 2 zK;have z:=b 3 zK;have a8:=b 4 zK;have a9:=b 5 zK;have c6:=b 6 zK;have c9:=b 7 zK;have d8:=b 8 zK;have h3:=b 9 zK;have h2:=b 10 zK;have k6:f4 69=.pointer (some ⟨mb,0,none⟩):=c5 0 69 rfl rfl;have k7:f4 70=.agg #[.string of.name,e3,.slice W6 of.ports.length W7,e4]:=c5 1 70 rfl rfl;have k8:f4 71=.map (some Y.heap.size):=c5 2 71 rfl rfl;have k9:f4 79=.string (s.path++t.name++tDot):=c5 10 79 rfl rfl;clear c5 b;simp at a7 u y z a8 a9 c6 c9 d8 h3 h2;simp only[List.drop_succ_cons,List.drop_zero];simp[List.range,List.range.loop,a7,u,y,z,a8,a9,c6,c9,d8,h3,h2,k6,k7,k8,k9];clear a7 u y z a8 a9 c6 c9 d8 h3 h2 k6 k7 k8 k9;have i1:=Hd (HX9.o.trans E.ext);have s9:Q5.heap.size<=E.w.heap.size:=i1.o.size
      have M3:=Hd (qy W0 B N0 mb sb mp Y.heap.size (.slice O fl.length Q) vs8 vp8 vc8 of [.string of.name,e3,.slice W6 of.ports.length W7,e4] aB (s.path++t.name++tDot) 157 BC (λ_=>3) m E.w
       (l1.o.cx.later i1.o) l1.o.tab (HMK8.o.ext i1.o) l1.o.inv l1.o.gd.w l1.o.lo (HT8.o.ext i1.o) hIN.o ⟨e3,.slice W6 of.ports.length W7,e4,rfl,HP1.o,Z5.o,HP3.o⟩ (λi w' F C f=>yd B i w' F (f.ext C i8))
       (λp U F c2=>⟨c2,by have e6:=ay au of.params p U;have g2:au p=1+al p.x:=rfl;unfold ar at o0;omega,(hVM.2.1 p U).2⟩)
       (λi c3 F c2=>⟨c2,by have e6:=ay aJ of.ports i c3;have g2:aJ i=1+al i.w:=rfl;unfold ar at o0;omega,(hVM.2.2.1 i c3).2⟩)
       (by have:=aw au of.params du;unfold ar at o0;omega) zO (λi c3=>by have:=(hMay.2.2.1 i c3).1.2.1;omega)
       (by rw[ByteArray.size_append,ByteArray.size_append];omega))
      clear P6 V2 P7 P8 j0 j1 j2 j3 j4 j5 j6 j7 j8 l0 L0 m0 d9 h4 K8 n1 n2 fo1 fz1;go_wp2_with fail
      go_at_call 37;refine M3.o.mono ?_;rintro e Q4 (⟨a6,e0,f,rfl,P9,Q0,rfl,hnb,hng,g9,V,hpa,T5⟩|⟨F,f,rfl,V⟩);rotate_left
      ·exact⟨rfl,.no (by rw[a0.o,HR2.o,f];rfl) ((Y4.o.trans (.of_ext i1.o)).trans V)⟩
      have Z1:=Hd (rB f);obtain⟨d7,hhd⟩:∃Q1,Q1=a6:=⟨_,rfl⟩;have a2:FrQ N0 mb E.w Q4:=V;have HFQ:=Hd a2;have g0:=Hd g9;have HPA:=Hd (aq hpa T5);obtain⟨p6,a4,a3,W9,hk10,hs10⟩:=g9.ex;have c4:=Hd (a2.ec (l1.o.ext i1.o) hk10 (l1.o.gd.more Z1.o.1 g9.gd.w) g9.inv);have hogm:V6≠mb:=by omega
      have J7:N2≠mb:=by omega
      have J8:w.heap.size≠mb:=by omega
      have hgs2:q4.heap.size≠mb:=by omega
      have BO10:=Hd (a2.blk (Y1.o.ext i1.o) ⟨zD,zD,zD⟩ hogm);have BS10:=Hd (a2.blk (BS8.o.ext i1.o) ⟨zD,zD,zD⟩ J8);have HXM10:=Hd (a2.envX (HXM.o.ext i1.o) J7);have Q8:=Hd ((Y4.o.trans (.of_ext i1.o)).trans (a2 sb mp));have s10:E.w.heap.size<=Q4.heap.size:=a2.size
      obtain⟨q2,hR3⟩:∃q2:Mk->Rs Mk,q2=λd9=>(do
       let J0<-aZ (cf fl k) of.items a6.1 d9
       bZ s a6.1.sigs a1 of.ports J0.2:Rs Mk):=⟨_,rfl⟩
      have HR3:=Hd hR3;have HZ1:=Hd (show b8=(do let d9<-co s a6.1 a1 (of.ports.drop 0) a6.2;q2 d9) by rw[a0.o,HR2.o,f,hR3];rfl);clear f V g9 hpa T5 a2 hk10 hs10 hR3 M3 d7 hhd;obtain⟨P6,V2,P7,P8⟩:=BO10.o.get4;go_wp2_with fail
      go_loopw [84] (λd2 wr=>∃(y:Nat) (h4:Mk),y<=of.ports.length/\d2=.int .i64 y/\EC W0 B N0 mb sb mp (.slice O fl.length Q) h4 s wr/\EC W0 B N0 mb P9 Q0 (.slice O fl.length Q) h4 a6.1 wr/\FrQ N0 mb Q4 wr/\b8=(do let d9<-co s a6.1 a1 (of.ports.drop y) h4;q2 d9)) (λd2 _=>of.ports.length - (intOf d2).toNat)
      case atStart=>exact⟨0,a6.2,aA _,rfl,c4.o,g0.o,FrQ.refl _ _ _,HZ1.o⟩
      case round=>
       obtain⟨y,h4,hk2,rfl,j9,T4,a2,b9⟩:=hrel;clear HZ1 P6 V2 P7 P8 c4 g0;have c4:=Hd j9;have g0:=Hd T4;have Q9:=Hd a2;by_cases n9:y<of.ports.length
       ·rw[List.drop_eq_getElem_cons n9] at b9;have hprt:=an n9;have HSO:=Hd (Z1.o.2 of.ports[y] hprt);obtain⟨p,o,n5,O9,hbw,J5,n6,O8,O0⟩:=Z7.o _ n9;subst O9;obtain⟨F,rfl,n7⟩:=O0;obtain⟨I6,rfl,d1⟩:=RX_iff.1 n7;have o5:=d1.oneCell;obtain⟨q7,i5,q8,q9,S1,S2,S3,S4⟩:=(n6.ext j9.cx.ext).get8;obtain⟨i2,n8,k2,e7⟩:=de wr (.string of.ports[y].name) (.bool of.ports[y].o) (.int .i64 of.ports[y].w.op) (.string of.ports[y].w.name) (.int .i64 of.ports[y].w.n) (.int .i64 of.ports[y].w.w) (.int .u64 of.ports[y].w.v) I6 42;have r1:=n8.symm;obtain⟨V8,H9,V9,W1,W2,W3,W4,W5⟩:=e7.get8;have HB1:=Hd e7;have q6:=Hd k2;generalize of.ports[y]=i at*;obtain⟨f7,f6⟩:∃f7,f7=i.o:=⟨_,rfl⟩;rw[<-f6] at H9 i5 r1;have sv1:wr.heap.size<i2.heap.size:=e7.lt;have a0:=Hd b9;clear b9 n6 n7 d1 O8 n8 k2 e7 a2 j9 T4;cases f7 with
        |true=>
         have d3:=Hd (show b8=(do let d9<-co s a6.1 a1 (of.ports.drop (y+1)) h4;q2 d9) by rw[a0.o,vO f6.symm]);have HO1:=Hd (c4.o.ext q6.o);have HI1:=Hd (g0.o.ext q6.o);have HQ1:=Hd (Q9.o.trans (.of_ext q6.o));clear f6;go_wp2_with fail
         go_roundw;case rel=>exact⟨y+1,h4,zO,zN,HO1.o,HI1.o,HQ1.o,d3.o⟩
         case measure=>simp[intOf];omega
        |false=>
         have L7:=Hd f6;clear f6;obtain⟨p6,a4,a3,W9,T8,hs1⟩:=(c4.o.ext q6.o).ex;have hc0:=c4.o.inv.c0;have hc1:=c4.o.inv.c1;have m8:=Hd (ej N0 mb (.slice O fl.length Q) p6 a4 a3 h4 1 i2 T8 hc0 hc1 zD zD);clear T8 hs1;go_wp2_with fail
         go_at_call 75;refine m8.o.mono ?_;rintro e I5 (⟨q,e0,f,rfl,rfl,G,Z⟩|⟨F,f,rfl,Z⟩);rotate_left
         ·exact⟨rfl,.no (by rw[a0.o,co,if_neg (by rw[<-L7.o];decide),f];rfl) (((Q8.o.trans (Q9.o sb mp)).trans (.of_ext q6.o)).trans (.of_chg Z))⟩
         have J6:=ee f zD;have Z8:=Hd f;have hq11:FrQ N0 mb Q4 I5:=(Q9.o.trans (.of_ext q6.o)).trans (.of_chg Z);have K2:FrQ N0 mb wr I5:=(FrQ.of_ext q6.o).trans (.of_chg Z);have HEO3:=Hd (K2.ec c4.o G (by rw[J6.d];exact c4.o.gd) (c4.o.inv.cnt J6));have Y8:=Hd (K2.ec g0.o G (by rw[J6.d];exact g0.o.gd) (g0.o.inv.cnt J6));have HQ11:=Hd hq11;have hpm':wr.heap.size≠mb:=by have:=c4.o.mlt.1;omega
         have HB3:=Hd (Z.blk HB1.o hpm');have R1:=Hd G;have HCM3:=Hd J6;have sv2:i2.heap.size<=I5.heap.size:=Z.size;obtain⟨r,J9,O6⟩:∃r:Nat,a6.1.sigs i.name=some (r:Int)/\r<q.d.sigs.length:=by
          obtain⟨a,ha⟩:=Option.isSome_iff_exists.1 HSO.o;have:=Y8.o.gd.at_ _ _ ha;exact⟨a.toNat,by rw[ha];congr 1;omega,zO⟩
         obtain⟨x,C⟩:=Option.isSome_iff_exists.1 ((HEN.o i hprt).resolve_right (by rw[<-L7.o];decide));have m6:=Hd (aq J9 C);obtain⟨ux,uy,uz,ve3,hk3,hs3⟩:=Y8.o.ex;have HLM:=Hd (show∀w',Ext I5 w'->(Instr.lookup 93 (.map (some Q0)) (.string i.name) false).run Tryz.prog w'=.ok (.int .i64 (r:Int)) w' from λw' hw=>(hs3.map.ext hw).look0_some i.name J9);obtain⟨t0,t1,t2⟩:=hs3.blk.later3;obtain⟨b0,b1,b2,b3,b4,b5,b6,b7⟩:=HB3.o.later8;clear f G Z J6 hq11 K2 hk3 hs3 J9 C m8 V8 H9 V9 W1 W2 W3 W4 W5 q7 i5 q8 q9 S1 S2 S3 S4 r1;go_wp2_with fail
         refine bD 8 (W:=I5) (Ext) (eqG [.pointer (some ⟨P9,0,none⟩),.pointer (some ⟨P9,0,none⟩),.pointer (some ⟨P9,1,none⟩),.map (some Q0),.pointer (some ⟨wr.heap.size,0,none⟩),.string i.name,.int .i64 (r:Int),.int .i64 (r:Int)]) (λ_ _=>False) (λ_=>true) zK (bo) zK zK ?_ (af _) (λd2 v w w' h C=>dz h C) ?_ (λK N1 w c c3=>c3.elim) ?_
         ·exact⟨rfl,rfl,rfl,rfl,rfl,rfl,rfl,rfl,trivial⟩
         ·refine⟨?_,?_,?_,?_,?_,?_,?_,?_,trivial⟩;rotate_left 6
          ·intro K J A c l;obtain⟨E,rfl⟩:=ae A;have h9:=ab c 3 95 zK rfl;simp[eqG] at h9;have g7:=ab c 5 97 zK rfl;simp[eqG] at g7;clear c l;go_simp;have r9:=HLM.o E.w E.ext;exact zE
          all_goals
           intro K J A c l;obtain⟨E,rfl⟩:=ae A;try (have I0:=ab c 6 98 zD rfl;simp[eqG] at I0)
           try (have m2:=ab c 0 92 zD rfl;simp[eqG] at m2)
           try (have m3:=ab c 1 93 zD rfl;simp[eqG] at m3)
           try (have h5:=ab c 2 94 zD rfl;simp[eqG] at h5)
           try (have i0:=ab c 4 96 zD rfl;simp[eqG] at i0)
           have r15:=ah l 15 zK;simp at r15;have r17:=ah l 17 zK;simp at r17;clear c l;exact zA
         ·intro K J N;obtain⟨f4,rfl,A,c5,b⟩:=N.fin (n:=184) rfl;obtain⟨E,rfl⟩:=ae A;have a7:=b 0 zK;have u:=b 1 zK;have y:=b 2 zK;have z:=b 3 zK;have a8:=b 4 zK;have a9:=b 5 zK;have c6:=b 6 zK;have c9:=b 7 zK;have d8:=b 8 zK;have h3:=b 9 zK;have h2:=b 10 zK;have s0:=b 11 zK;have t3:=b 12 zK;have v2:=b 13 zK;have x0:=b 14 zK;have y1:=b 15 zK;have z2:=b 16 zK;have B8:=b 19 zK;have B9:=b 20 zK;have C0:=b 21 zK;have C1:=b 22 zK;have C2:=b 23 zK;have C3:=b 24 zK;have C4:=b 25 zK;have C5:=b 26 zK;have C6:=b 27 zK;have C7:=b 28 zK;have C8:=b 29 zK;have C9:=b 30 zK;have D0:=b 31 zK;have D1:=b 32 zK;have D2:=b 33 zK;have D3:=b 34 zK;have D4:=b 35 zK;have D5:=b 36 zK;have D6:=b 37 zK;have k3:=b 38 zK;have D7:=b 39 zK;have k4:=b 40 zK;have k5:=b 41 zK;have D8:=b 42 zK;have D9:=b 43 zK;have E0:=b 44 zK;have E1:=b 45 zK;have E2:=b 46 zK;have E3:=b 47 zK;have E4:=b 48 zK;have E5:=b 49 zK;have E6:=b 50 zK;have E7:=b 51 zK;have E8:=b 52 zK;have E9:=b 53 zK;have F0:=b 54 zK;have F1:=b 55 zK;have F2:=b 56 zK;have F3:=b 57 zK;have F4:=b 58 zK;have F5:=b 59 zK;have F6:=b 60 zK;have F8:=b 61 zK;have F9:=b 62 zK;have G0:=b 63 zK;have G1:=b 64 zK;have G2:=b 65 zK;have G3:=b 66 zK;have G4:=b 67 zK;have G5:=b 68 zK;have k6:=b 69 zK;have k7:=b 70 zK;have k8:=b 71 zK;have G6:=b 72 zK;have G7:=b 73 zK;have G8:=b 74 zK;have G9:=b 75 zK;have H0:=b 76 zK;have H1:=b 77 zK;have H2:=b 78 zK;have k9:=b 79 zK;have H3:=b 80 zK;have H4:=b 81 zK;have H5:=b 82 zK;have H6:=b 83 zK;have H7:=b 84 zK;have H8:=b 85 zK;have t4:=b 122 zK;have t5:=b 123 zK;have t6:=b 124 zK;have t7:=b 125 zK;have t8:=b 126 zK;have t9:=b 127 zK;have v0:=b 128 zK;have v1:=b 129 zK;have v7:=b 130 zK;have v9:=b 131 zK;have w0:=b 132 zK;have w1:=b 133 zK;have w2:=b 134 zK;have w3:=b 135 zK;have w4:=b 136 zK;have w5:=b 137 zK;have w7:=b 138 zK;have w8:=b 139 zK;have x1:=b 140 zK;have x2:=b 141 zK;have x3:=b 142 zK;have x4:=b 143 zK;have x5:=b 144 zK;have x6:=b 145 zK;have x7:=b 146 zK;have x8:=b 147 zK;have x9:=b 148 zK;have y0:=b 149 zK;have y2:=b 150 zK;have y3:=b 151 zK;have y4:=b 152 zK;have y5:=b 153 zK;have y6:=b 154 zK;have y7:=b 155 zK;have y8:=b 156 zK;have y9:=b 157 zK;have z0:=b 158 zK;have z1:=b 159 zK;have z3:=b 160 zK;have z4:=b 161 zK;have z5:=b 162 zK;have z6:=b 163 zK;have z7:=b 164 zK;have z8:=b 165 zK;have z9:=b 166 zK;have A0:=b 167 zK;have A1:=b 168 zK;have A2:=b 169 zK;have A4:=b 170 zK;have A5:=b 171 zK;have A6:=b 172 zK;have A7:=b 173 zK;have A8:=b 174 zK;have A9:=b 175 zK;have B0:=b 176 zK;have B1:=b 177 zK;have B2:=b 178 zK;have B3:=b 179 zK;have B4:=b 180 zK;have B5:=b 181 zK;have B6:=b 182 zK;have B7:=b 183 zK;have A3:=b 17 zK;have K9:f4 18=.int .i64 (r:Int):=c5 7 18 rfl rfl;clear c5 b;simp at a7 u y z a8 a9 c6 c9 d8 h3 h2 s0 t3 v2 x0 y1 z2 B8 B9 C0 C1 C2 C3 C4 C5 C6 C7 C8 C9 D0 D1 D2 D3 D4 D5 D6 k3 D7 k4 k5 D8 D9 E0 E1 E2 E3 E4 E5 E6 E7 E8 E9 F0 F1 F2 F3 F4 F5 F6 F8 F9 G0 G1 G2 G3 G4 G5 k6 k7 k8 G6 G7 G8 G9 H0 H1 H2 k9 H3 H4 H5 H6 H7 H8 t4 t5 t6 t7 t8 t9 v0 v1 v7 v9 w0 w1 w2 w3 w4 w5 w7 w8 x1 x2 x3 x4 x5 x6 x7 x8 x9 y0 y2 y3 y4 y5 y6 y7 y8 y9 z0 z1 z3 z4 z5 z6 z7 z8 z9 A0 A1 A2 A4 A5 A6 A7 A8 A9 B0 B1 B2 B3 B4 B5 B6 B7 A3;simp only[List.drop_succ_cons,List.drop_zero];simp[List.range,List.range.loop,a7,u,y,z,a8,a9,c6,c9,d8,h3,h2,s0,t3,v2,x0,y1,z2,B8,B9,C0,C1,C2,C3,C4,C5,C6,C7,C8,C9,D0,D1,D2,D3,D4,D5,D6,k3,D7,k4,k5,D8,D9,E0,E1,E2,E3,E4,E5,E6,E7,E8,E9,F0,F1,F2,F3,F4,F5,F6,F8,F9,G0,G1,G2,G3,G4,G5,k6,k7,k8,G6,G7,G8,G9,H0,H1,H2,k9,H3,H4,H5,H6,H7,H8,t4,t5,t6,t7,t8,t9,v0,v1,v7,v9,w0,w1,w2,w3,w4,w5,w7,w8,x1,x2,x3,x4,x5,x6,x7,x8,x9,y0,y2,y3,y4,y5,y6,y7,y8,y9,z0,z1,z3,z4,z5,z6,z7,z8,z9,A0,A1,A2,A4,A5,A6,A7,A8,A9,B0,B1,B2,B3,B4,B5,B6,B7,A3,K9];clear a7 u y z a8 a9 c6 c9 d8 h3 h2 s0 t3 v2 x0 y1 z2 B8 B9 C0 C1 C2 C3 C4 C5 C6 C7 C8 C9 D0 D1 D2 D3 D4 D5 D6 k3 D7 k4 k5 D8 D9 E0 E1 E2 E3 E4 E5 E6 E7 E8 E9 F0 F1 F2 F3 F4 F5 F6 F8 F9 G0 G1 G2 G3 G4 G5 k6 k7 k8 G6 G7 G8 G9 H0 H1 H2 k9 H3 H4 H5 H6 H7 H8 t4 t5 t6 t7 t8 t9 v0 v1 v7 v9 w0 w1 w2 w3 w4 w5 w7 w8 x1 x2 x3 x4 x5 x6 x7 x8 x9 y0 y2 y3 y4 y5 y6 y7 y8 y9 z0 z1 z3 z4 z5 z6 z7 z8 z9 A0 A1 A2 A4 A5 A6 A7 A8 A9 B0 B1 B2 B3 B4 B5 B6 B7 A3 K9;obtain⟨a5,hWb⟩:∃a5,a5=E.w:=⟨_,rfl⟩;have p7:Ext I5 a5:=hWb▸E.ext;rw[<-hWb];have XB:=Hd p7;have g8:=Hd (HEO3.o.ext p7);have Y9:=Hd (Y8.o.ext p7);have R2:=Hd (R1.o.ext p7);have HB4:=Hd (HB3.o.ext p7);have M0:=Hd (HQ11.o.trans (.of_ext p7));have BS4:=Hd (M0.o.blk BS10.o ⟨zD,zD,zD⟩ J8);have hxm4:=M0.o.envX HXM10.o J7;have sv3:I5.heap.size<=a5.heap.size:=p7.size;have hepl:=hxm4.lt;obtain⟨cx,hXX,hlx⟩:=hxm4.lookW i.name x m6.o.2;have HXX:=Hd hXX;obtain⟨I6,rfl,d1⟩:=RX_iff.1 hXX.rx;have ox5:=d1.oneCell;have HLX:=Hd hlx;have Z3:=Hd (show MayX x from by
           obtain⟨-,-,-,-,-,-,hbb⟩:=MayI_iff.1 T9;have O5:=m6.o.2;rw[HEQ.o] at O5;rcases lX _ _ O5 with h|⟨p,U,rfl⟩
           ·cases h
           ·exact(hbb p U).2)
          obtain⟨sz0,d4,hzv,hzc,P5⟩:=R2.o.sig.slT zD;subst hzv;obtain⟨c7,d0,gs,rfl,U6,hgl,N7,hg1,O1⟩:=P5 r O6;have hR':gs=_:=O1;subst hR';have l8:=g8.o.gd.w _ (an O6);have hsgb:c7≠mb:=λe=>absurd (U6.one (e▸R2.o.blk.tag)) zD
          have hk0:(0:Int)<=(r:Int):=by omega
          have hk1':(r:Int)<(q.d.sigs.length:Int):=by omega
          have Q6:=N7 1 _ rfl;have N8:=Hd (λ(D:Int) (h1:D=q.d.sigs[r].w)=>(by rw[h1,gh O6]:(aD q.d.sigs (r:Int)).w=D));obtain⟨D,h1⟩:∃D,D=q.d.sigs[r].w:=⟨_,rfl⟩;have R6:=Hd (N8.o D h1);rw[<-h1] at l8 Q6;have hgw1:(1:Int)<=D:=l8.1;have hgw2:D<=64:=l8.2;have HYW:=Hd Q6;have HWR:=Hd (show IntKind.i64.wrap (D - 1)=D - 1 by simp(disch:=omega) only[IntWalk.i64_in]);have U4:∃ve,ScI a5 sb mp ve s:=by obtain⟨_,_,_,ve,_,h⟩:=g8.o.ex;exact⟨ve,h⟩
          obtain⟨veO,U4⟩:=U4;have HST:=Hd (show StC W0 B N0 mb sb mp (.slice O fl.length Q) (.slice (some ⟨c7,d0,none⟩) q.d.sigs.length d4) a4 a3 veO q s a5 from⟨g8.o.cx,R2.o,U4,g8.o.gd,g8.o.inv.c0,g8.o.inv.c1,ad g8.o.lo hNm⟩);clear h1 N8 P5 N7 hg1 O1 U6 hgl p7 hWb hxm4 hXX hlx d1 t0 t1 t2 b0 b1 b2 b3 b4 b5 b6 b7 l8 Q6 U4;go_wp2_with fail
          refine eO 21 (eqS [18,19,20] [.pointer (some ⟨mb,0,none⟩),.int .i64 (r:Int),.pointer (some ⟨mb,0,none⟩),.pointer (some ⟨mb,0,none⟩),.pointer (some ⟨mb,1,none⟩),.pointer (some ⟨mb,1,none⟩),.slice (some ⟨c7,d0,none⟩) q.d.sigs.length d4,.int .i64 (r:Int),.pointer (some ⟨c7,d0+r*4,none⟩),.pointer (some ⟨c7,d0+r*4+1,none⟩),.int .i64 D,.int .i64 (D - 1),.pointer (some ⟨mb,0,none⟩),.pointer (some ⟨sb,0,none⟩),.map (some N2),.pointer (some ⟨wr.heap.size,0,none⟩),.string i.name,.agg #[.int .i64 x.op,.string x.name,.int .i64 x.n,.int .i64 x.w,.int .u64 x.v,I6],undef,undef,undef]) (chJ [(18,λf8 w=>Ext a5 w),(19,λf8 w=>WJ (aG s x q) N0 mb (.slice O fl.length Q) (.slice (some ⟨c7,d0,none⟩) q.d.sigs.length d4) a4 a3 q a5 (f8 117) w),(20,λf8 w=>WK (aG s x q) N0 mb (.slice O fl.length Q) (.slice (some ⟨c7,d0,none⟩) q.d.sigs.length d4) a4 a3 q a5 (r:Int) (D - 1) (f8 118) w)] (λf8 w=>WL (aG s x q) N0 mb (.slice O fl.length Q) (.slice (some ⟨c7,d0,none⟩) q.d.sigs.length d4) a4 a3 q a5 (r:Int) (D - 1) (f8 119) w)) (λN1 wz=>∃F,aG s x q=.error F/\N1=aR F/\FrS mb a5 wz) zK (λ_ _ _ _ h=>h) zK zK ?_ (gI _ ((af _).drew)) ?_ (λK N1 wz c c3=>by
           obtain⟨F,f,rfl,C⟩:=c3;obtain⟨tA,dA⟩:=K;simp only at c;subst c;have d3:=Hd (show RunsP b8 (λm' v w'=>v=aO/\EC W0 B N0 mb sb mp (.slice O fl.length Q) m' s w'/\FrI N0 mb sb mp w w') (FrI N0 mb sb mp w) (.panicked (aR F)) wz from .no (by rw[a0.o,mW L7.o.symm m6.o.1 m6.o.2,Z8.o];simp only[bind,Except.bind];rw[f]) ((Q8.o.trans (M0.o sb mp)).trans (.of_chg C)));exact⟨rfl,d3.o⟩) ?_
          ·simp[GuardsMet]
          ·refine⟨?_,?_,?_,?_,?_,?_,?_,?_,?_,?_,?_,?_,?_,?_,?_,?_,?_,?_,?_,?_,?_,trivial⟩;rotate_left 18
           ·refine StepI.chain 0 rfl zK zK ?_;intro K J h0 M c l;replace h0:=Hd h0;have q12:=ab c 12 111 zK rfl;simp[eqS] at q12;have q13:=ab c 13 112 zK rfl;simp[eqS] at q13;have q17:=ab c 17 116 zK rfl;simp[eqS] at q17;clear c l;replace M:Ext a5 J:=M;have KA:=Hd (ir W0 B N0 mb sb mp _ _ _ _ veO q s x _ J (HST.o.ext M) HXX.o Z3.o);have Z2:=Hd M;clear M;go_simp;refine KA.o.mono ?_;rintro e X6 (⟨I2,e0,f,rfl,k1,G,V,l7⟩|⟨F,f,rfl,V⟩);rotate_left
            ·exact⟨rfl,F,f,rfl,Z2.o.chg.trans V⟩
            obtain⟨I3,I4,rfl⟩:=k1.form;have L8:=Hd (show WJ (aG s x q) N0 mb (.slice O fl.length Q) (.slice (some ⟨c7,d0,none⟩) q.d.sigs.length d4) a4 a3 q a5 (.slice I3 1 I4) X6 from⟨I2,f,SlE9.turn k1 (bg (λ_=>False) _) (λp _ U=>⟨id,ad Z2.o.size U⟩),G,Z2.o.chg.trans V,l7⟩);clear f k1 G V l7;go_simp;refine⟨_,rfl,trivial,?_⟩;show WJ (aG s x q) N0 mb (.slice O fl.length Q) (.slice (some ⟨c7,d0,none⟩) q.d.sigs.length d4) a4 a3 q a5 (tau (K.put (some 117) (.slice I3 1 I4)) 117) X6;rw[dX (by rw[h0.o];exact of_decide_eq_true zK)];exact L8.o
           ·refine StepI.chain 1 rfl zK zK ?_;intro K J h0 M c l;replace h0:=Hd h0;have m3:=ab c 1 100 zK rfl;simp[eqS] at m3;have q11:=ab c 11 110 zK rfl;simp[eqS] at q11;clear c l;have HJ:=Hd M;obtain⟨I2,f,k1,-,-,-⟩:=M;obtain⟨I3,I4,K4⟩:=k1.form;have r117:K.tmps.getD 117 undef=_:=K4;have L8:=Hd (show WK (aG s x q) N0 mb (.slice O fl.length Q) (.slice (some ⟨c7,d0,none⟩) q.d.sigs.length d4) a4 a3 q a5 (r:Int) (D - 1) (.agg #[.int .i64 1,.int .i64 (r:Int),.int .i64 (D - 1),.int .i64 0,.slice I3 1 I4,.slice none 0 0]) J from⟨.slice I3 1 I4,by have h:=HJ.o;rw[show tau K 117=.slice I3 1 I4 from K4] at h;exact h,rfl⟩);simp only[Array.getD_eq_getD_getElem?] at r117;try simp at r117
            clear K4 k1 f HJ;go_simp;refine⟨_,rfl,trivial,?_⟩;show WK (aG s x q) N0 mb (.slice O fl.length Q) (.slice (some ⟨c7,d0,none⟩) q.d.sigs.length d4) a4 a3 q a5 (r:Int) (D - 1) (tau (K.put (some 118) (.agg #[.int .i64 1,.int .i64 (r:Int),.int .i64 (D - 1),.int .i64 0,.slice I3 1 I4,.slice none 0 0])) 118) J;rw[dX (by rw[h0.o];exact of_decide_eq_true zK)];exact L8.o
           ·refine StepI.chain 2 rfl zK zK ?_;intro K J h0 M c l;replace h0:=Hd h0;clear c l;obtain⟨v,⟨I2,f,k1,G,V,l7⟩,K4⟩:=M;have ov:=k1.oneCell;have r118:K.tmps.getD 118 undef=_:=K4;obtain⟨W8,hW8,e8,hb8⟩:=aV J (.int .i64 1) (.int .i64 (r:Int)) (.int .i64 (D - 1)) (.int .i64 0) v (.slice none 0 0) 73;have hV8:=hW8.symm;have L8:=Hd (show WL (aG s x q) N0 mb (.slice O fl.length Q) (.slice (some ⟨c7,d0,none⟩) q.d.sigs.length d4) a4 a3 q a5 (r:Int) (D - 1) (.slice (some ⟨J.heap.size,0,none⟩) 1 1) W8 from⟨I2,f,SlT9.one hb8 (ad V.size (ac _)) (RT9_iff.2 ⟨v,.slice none 0 0,rfl,SlE9.ext k1 e8,SlY.nil⟩),G.ext e8,V.trans e8.chg,l7⟩);simp only[Array.getD_eq_getD_getElem?] at r118;try simp at r118
            clear K4 k1 G V l7 hW8 e8 hb8 f;go_simp;refine⟨_,rfl,trivial,?_⟩;show WL (aG s x q) N0 mb (.slice O fl.length Q) (.slice (some ⟨c7,d0,none⟩) q.d.sigs.length d4) a4 a3 q a5 (r:Int) (D - 1) (tau (K.put (some 119) (.slice (some ⟨J.heap.size,0,none⟩) 1 1)) 119) W8;rw[dX (by rw[h0.o];exact of_decide_eq_true zK)];exact L8.o
           all_goals
            refine StepI.plain (S:=[18,19,20]) (T:=[117,118,119]) (I:=(λw=>FrS mb a5 w/\∃m',MkI w N0 mb (.slice O fl.length Q) (.slice (some ⟨c7,d0,none⟩) q.d.sigs.length d4) a4 a3 m')) (gi (T:=[117,118,119]) (λf8 τ' w d6 M=>?_) _ ⟨λf8 τ' w d6 M=>?_,λf8 τ' w d6 M=>?_,λf8 τ' w d6 M=>?_,trivial⟩) (λL f8 w h=>hK (I:=(λw=>FrS mb a5 w/\∃m',MkI w N0 mb (.slice O fl.length Q) (.slice (some ⟨c7,d0,none⟩) q.d.sigs.length d4) a4 a3 m')) h (λ_ _ h=>by obtain⟨I2,e6,g2,i6,i7,d1⟩:=h;exact⟨i7,_,i6⟩) ⟨λ_ _ h=>⟨h.chg,_,R2.o.ext h⟩,λ_ _ h=>by obtain⟨I2,e6,g2,i6,i7,d1⟩:=h;exact⟨i7,_,i6⟩,λ_ _ h=>by obtain⟨v,⟨I2,e6,g2,i6,i7,d1⟩,h6⟩:=h;exact⟨i7,_,i6⟩,trivial⟩) zD zD ?_
            ·try simp only[d6 117 zD,d6 118 zD,d6 119 zD]
             exact M
            ·try simp only[d6 117 zD,d6 118 zD,d6 119 zD]
             exact M
            ·try simp only[d6 117 zD,d6 118 zD,d6 119 zD]
             exact M
            ·try simp only[d6 117 zD,d6 118 zD,d6 119 zD]
             exact M
            intro K J hI c l;try (have h5:=ab c 2 101 zD rfl;simp[eqS] at h5)
            try (have h9:=ab c 3 102 zD rfl;simp[eqS] at h9)
            try (have i0:=ab c 4 103 zD rfl;simp[eqS] at i0)
            try (have g7:=ab c 5 104 zD rfl;simp[eqS] at g7)
            try (have I0:=ab c 6 105 zD rfl;simp[eqS] at I0)
            try (have I1:=ab c 7 106 zD rfl;simp[eqS] at I1)
            try (have Q2:=ab c 8 107 zD rfl;simp[eqS] at Q2)
            try (have Q3:=ab c 9 108 zD rfl;simp[eqS] at Q3)
            try (have q10:=ab c 10 109 zD rfl;simp[eqS] at q10)
            try (have q15:=ab c 15 114 zD rfl;simp[eqS] at q15)
            try (have q14:=ab c 14 113 zD rfl;simp[eqS] at q14)
            try (have q16:=ab c 16 115 zD rfl;simp[eqS] at q16)
            have p2:=ah l 0 zK;simp at p2;have r18:=ah l 18 zK;simp at r18;have p4:=ah l 4 zK;simp at p4;have r10:=ah l 10 zK;simp at r10;have r17:=ah l 17 zK;simp at r17;clear c l;obtain⟨N9,mI,hIk⟩:=hI;have P6:=hIk.blk.cell 1;have V2:=N9.cell HYW.o hsgb;have P7:=(N9.blk BS4.o J8).cell 0;have P8:=(N9.blk HB4.o hpm').cell 0;have iw:=HWR.o;have i4:=HLX.o J (N9.block N2 hepl J7);try simp only[List.getElem?_cons_succ,List.getElem?_cons_zero] at P6 P7 P8
            clear N9 hIk;exact zB
          ·intro K J N;obtain⟨f4,rfl,c5,b,M⟩:=N.fin (n:=184) rfl;replace M:(λf8 w=>WL (aG s x q) N0 mb (.slice O fl.length Q) (.slice (some ⟨c7,d0,none⟩) q.d.sigs.length d4) a4 a3 q a5 (r:Int) (D - 1) (f8 119) w) f4 J:=gz _ rfl M;have a7:=b 0 zK;have u:=b 1 zK;have y:=b 2 zK;have z:=b 3 zK;have a8:=b 4 zK;have a9:=b 5 zK;have c6:=b 6 zK;have c9:=b 7 zK;have d8:=b 8 zK;have h3:=b 9 zK;have h2:=b 10 zK;have s0:=b 11 zK;have t3:=b 12 zK;have v2:=b 13 zK;have x0:=b 14 zK;have y1:=b 15 zK;have z2:=b 16 zK;have B8:=b 19 zK;have B9:=b 20 zK;have C0:=b 21 zK;have C1:=b 22 zK;have C2:=b 23 zK;have C3:=b 24 zK;have C4:=b 25 zK;have C5:=b 26 zK;have C6:=b 27 zK;have C7:=b 28 zK;have C8:=b 29 zK;have C9:=b 30 zK;have D0:=b 31 zK;have D1:=b 32 zK;have D2:=b 33 zK;have D3:=b 34 zK;have D4:=b 35 zK;have D5:=b 36 zK;have D6:=b 37 zK;have k3:=b 38 zK;have D7:=b 39 zK;have k4:=b 40 zK;have k5:=b 41 zK;have D8:=b 42 zK;have D9:=b 43 zK;have E0:=b 44 zK;have E1:=b 45 zK;have E2:=b 46 zK;have E3:=b 47 zK;have E4:=b 48 zK;have E5:=b 49 zK;have E6:=b 50 zK;have E7:=b 51 zK;have E8:=b 52 zK;have E9:=b 53 zK;have F0:=b 54 zK;have F1:=b 55 zK;have F2:=b 56 zK;have F3:=b 57 zK;have F4:=b 58 zK;have F5:=b 59 zK;have F6:=b 60 zK;have F8:=b 61 zK;have F9:=b 62 zK;have G0:=b 63 zK;have G1:=b 64 zK;have G2:=b 65 zK;have G3:=b 66 zK;have G4:=b 67 zK;have G5:=b 68 zK;have k6:=b 69 zK;have k7:=b 70 zK;have k8:=b 71 zK;have G6:=b 72 zK;have G7:=b 73 zK;have G8:=b 74 zK;have G9:=b 75 zK;have H0:=b 76 zK;have H1:=b 77 zK;have H2:=b 78 zK;have k9:=b 79 zK;have H3:=b 80 zK;have H4:=b 81 zK;have H5:=b 82 zK;have H6:=b 83 zK;have H7:=b 84 zK;have H8:=b 85 zK;have t4:=b 122 zK;have t5:=b 123 zK;have t6:=b 124 zK;have t7:=b 125 zK;have t8:=b 126 zK;have t9:=b 127 zK;have v0:=b 128 zK;have v1:=b 129 zK;have v7:=b 130 zK;have v9:=b 131 zK;have w0:=b 132 zK;have w1:=b 133 zK;have w2:=b 134 zK;have w3:=b 135 zK;have w4:=b 136 zK;have w5:=b 137 zK;have w7:=b 138 zK;have w8:=b 139 zK;have x1:=b 140 zK;have x2:=b 141 zK;have x3:=b 142 zK;have x4:=b 143 zK;have x5:=b 144 zK;have x6:=b 145 zK;have x7:=b 146 zK;have x8:=b 147 zK;have x9:=b 148 zK;have y0:=b 149 zK;have y2:=b 150 zK;have y3:=b 151 zK;have y4:=b 152 zK;have y5:=b 153 zK;have y6:=b 154 zK;have y7:=b 155 zK;have y8:=b 156 zK;have y9:=b 157 zK;have z0:=b 158 zK;have z1:=b 159 zK;have z3:=b 160 zK;have z4:=b 161 zK;have z5:=b 162 zK;have z6:=b 163 zK;have z7:=b 164 zK;have z8:=b 165 zK;have z9:=b 166 zK;have A0:=b 167 zK;have A1:=b 168 zK;have A2:=b 169 zK;have A4:=b 170 zK;have A5:=b 171 zK;have A6:=b 172 zK;have A7:=b 173 zK;have A8:=b 174 zK;have A9:=b 175 zK;have B0:=b 176 zK;have B1:=b 177 zK;have B2:=b 178 zK;have B3:=b 179 zK;have B4:=b 180 zK;have B5:=b 181 zK;have B6:=b 182 zK;have B7:=b 183 zK;have A3:=b 17 zK;have K9:=b 18 zK;have k99:f4 99=.pointer (some ⟨mb,0,none⟩):=c5 0 99 rfl rfl;clear c5 b;obtain⟨p3,hr2,U5,G,V,l7⟩:=M;obtain⟨ya,yc,U7⟩:=U5.form;have k119:f4 119=.slice ya 1 yc:=U7;rw[k119] at U5;clear U7;simp at a7 u y z a8 a9 c6 c9 d8 h3 h2 s0 t3 v2 x0 y1 z2 B8 B9 C0 C1 C2 C3 C4 C5 C6 C7 C8 C9 D0 D1 D2 D3 D4 D5 D6 k3 D7 k4 k5 D8 D9 E0 E1 E2 E3 E4 E5 E6 E7 E8 E9 F0 F1 F2 F3 F4 F5 F6 F8 F9 G0 G1 G2 G3 G4 G5 k6 k7 k8 G6 G7 G8 G9 H0 H1 H2 k9 H3 H4 H5 H6 H7 H8 t4 t5 t6 t7 t8 t9 v0 v1 v7 v9 w0 w1 w2 w3 w4 w5 w7 w8 x1 x2 x3 x4 x5 x6 x7 x8 x9 y0 y2 y3 y4 y5 y6 y7 y8 y9 z0 z1 z3 z4 z5 z6 z7 z8 z9 A0 A1 A2 A4 A5 A6 A7 A8 A9 B0 B1 B2 B3 B4 B5 B6 B7 A3 K9;simp only[List.drop_succ_cons,List.drop_zero];simp[List.range,List.range.loop,a7,u,y,z,a8,a9,c6,c9,d8,h3,h2,s0,t3,v2,x0,y1,z2,B8,B9,C0,C1,C2,C3,C4,C5,C6,C7,C8,C9,D0,D1,D2,D3,D4,D5,D6,k3,D7,k4,k5,D8,D9,E0,E1,E2,E3,E4,E5,E6,E7,E8,E9,F0,F1,F2,F3,F4,F5,F6,F8,F9,G0,G1,G2,G3,G4,G5,k6,k7,k8,G6,G7,G8,G9,H0,H1,H2,k9,H3,H4,H5,H6,H7,H8,t4,t5,t6,t7,t8,t9,v0,v1,v7,v9,w0,w1,w2,w3,w4,w5,w7,w8,x1,x2,x3,x4,x5,x6,x7,x8,x9,y0,y2,y3,y4,y5,y6,y7,y8,y9,z0,z1,z3,z4,z5,z6,z7,z8,z9,A0,A1,A2,A4,A5,A6,A7,A8,A9,B0,B1,B2,B3,B4,B5,B6,B7,A3,K9,k99,k119];clear a7 u y z a8 a9 c6 c9 d8 h3 h2 s0 t3 v2 x0 y1 z2 B8 B9 C0 C1 C2 C3 C4 C5 C6 C7 C8 C9 D0 D1 D2 D3 D4 D5 D6 k3 D7 k4 k5 D8 D9 E0 E1 E2 E3 E4 E5 E6 E7 E8 E9 F0 F1 F2 F3 F4 F5 F6 F8 F9 G0 G1 G2 G3 G4 G5 k6 k7 k8 G6 G7 G8 G9 H0 H1 H2 k9 H3 H4 H5 H6 H7 H8 t4 t5 t6 t7 t8 t9 v0 v1 v7 v9 w0 w1 w2 w3 w4 w5 w7 w8 x1 x2 x3 x4 x5 x6 x7 x8 x9 y0 y2 y3 y4 y5 y6 y7 y8 y9 z0 z1 z3 z4 z5 z6 z7 z8 z9 A0 A1 A2 A4 A5 A6 A7 A8 A9 B0 B1 B2 B3 B4 B5 B6 B7 A3 K9 k99 k119;have HFR:=Hd V;have Y6:=Hd l7;have HR2':=Hd hr2;have KP:=Hd (iy N0 mb J.heap.size J.heap.size (.slice O fl.length Q) (.slice (some ⟨c7,d0,none⟩) q.d.sigs.length d4) a4 a3 p3.2 false [.mk 1 (r:Int) (D - 1) 0 [p3.1] []] (.slice ya 1 yc) J G (U5.slT (λm5 _=>RT9.rt6 m5)) (by rw[l7.d];exact g8.o.inv.pr));clear V G l7 hr2 U5;go_wp2_with fail
           go_at_call 107;refine KP.o.mono ?_;rintro e w6 (⟨L1,e0,f,rfl,rfl,vs',vp',vc',G,k0⟩|⟨F,f,rfl,k0⟩);rotate_left
           ·exact⟨rfl,.no (by rw[a0.o,mW L7.o.symm m6.o.1 m6.o.2,Z8.o];simp only[bind,Except.bind];rw[HR2'.o];simp only;rw[R6.o,f]) (((Q8.o.trans (M0.o sb mp)).trans (.of_chg HFR.o)).trans (k0.wide (ac _)))⟩
           have U0:FrQ N0 mb a5 w6:=(FrQ.of_chg HFR.o).trans (.of_fr k0);have hd5:L1.d.sigs=q.d.sigs:=by rw[(fC f).1];show p3.2.d.sigs=q.d.sigs;rw[Y6.o.d]
           have q0:=Hd (U0.ec g8.o G (by rw[hd5];exact g8.o.gd) ((g8.o.inv.cnt Y6.o).process f));have HI5:=Hd (U0.ec Y9.o G (by rw[hd5];exact Y9.o.gd) ((Y9.o.inv.cnt Y6.o).process f));have HQ5:=Hd (M0.o.trans U0);have d3:=Hd (show b8=(do let d9<-co s a6.1 a1 (of.ports.drop (y+1)) L1;q2 d9) by rw[a0.o,mW L7.o.symm m6.o.1 m6.o.2,Z8.o];simp only[bind,Except.bind];rw[HR2'.o];simp only;rw[R6.o,f]);clear f G k0 U0 hd5;go_wp2_with fail
           go_roundw;case rel=>exact⟨y+1,L1,zO,zN,q0.o,HI5.o,HQ5.o,d3.o⟩
           case measure=>simp[intOf];omega
       ·have hkl2:y=of.ports.length:=by omega
        subst hkl2;have a0:=Hd (show b8=q2 h4 by rw[b9,List.drop_length];rfl);obtain⟨p6,a4,a3,W9,hkI,U3⟩:=T4.ex;have BO11:=Hd (a2.blk BO10.o ⟨zD,zD,zD⟩ hogm);have BS11:=Hd (a2.blk BS10.o ⟨zD,zD,zD⟩ J8);have HXM11:=Hd (a2.envX HXM10.o J7);have F11:=Hd (Q8.o.trans (a2 sb mp));have HMI:=Hd U3.map;obtain⟨t0,t1,t2⟩:=U3.blk.get3;have KCL:=Hd (rp Q0 a6.1.sigs wr U3.map);have s11:Q4.heap.size<=wr.heap.size:=a2.size;clear b9 hkI U3 a2 j9 T4;go_wp2_with fail
        go_at_call 158;refine KCL.o.mono ?_;rintro _ w12 ⟨rfl,J5,P0⟩;have HCL:=Hd J5;have R9:=Hd P0;have Z0:=Hd (c4.o.ext P0);have Y7:=Hd (g0.o.ext P0);have BO12:=Hd (BO11.o.ext P0);have hpm12:wr.heap.size<w12.heap.size:=J5.lt;obtain⟨X7,X8,X9,Y0⟩:=BO12.o.get4;have KI:=Hd (HL.o P9 Q0 h4 a6.1 w12 e4 Y7.o (by
         have e6:=HPA.o.2;have g2:=aw au of.params du;unfold ar at o0;omega) (by
         rw[HPA.o.1,ByteArray.size_append,ByteArray.size_append];have e6:tDot.size=1:=rfl;have g2:=(lA T9 zO).2.1;unfold ar at o0;omega) HP3.o)
        clear J5 P0 KCL t0 t1 t2;go_wp2_with fail
        go_at_call 39;refine KI.o.mono ?_;rintro e w13 (⟨m5,e0,f,rfl,U7,g9,V,T5,hpe⟩|⟨F,f,rfl,V⟩);rotate_left
        ·exact⟨rfl,.no (by rw[a0.o,HR3.o];simp only[bind,Except.bind];rw[f]) (V.fresh w (F11.o.trans (.of_ext R9.o)) (.inl zO) (.inl zO))⟩
        subst U7;have HR13:=Hd f;have hmo:=gp (inst:=cf fl k) of.items (λJ0 _=>mg (kh fl k) J0) _ _ _ f;have L4:=Hd (V.fresh w (F11.o.trans (.of_ext R9.o)) (.inl zO) (.inl zO));obtain⟨p6,a4,a3,W9,hk13,hs13⟩:=g9.ex;have HEO13:=Hd (Z0.o.beside Y7.o V hk13 zO zO zO zO g9.cx.ext (Z0.o.gd.more hmo g9.gd.w) g9.inv);have BO13:=Hd (V.blk BO12.o ⟨zD,zD,zD⟩ hogm zO zO);have BS13:=Hd (V.blk (BS11.o.ext R9.o) ⟨zD,zD,zD⟩ J8 zO zO);have U9:=HXM11.o.ext R9.o;have HXM13:=Hd (U9.of_eq (V.block N2 U9.lt J7 zO zO (λa6=>by rcases a6.2 with h|h|h<;>exact U9.noTag h)));have hpmm:wr.heap.size≠mb:=by have:=c4.o.mlt.1;omega
        have HPM13:=Hd (V.map HCL.o hpmm (by have:=g0.o.mlt.2.1;omega) (by have:=g0.o.mlt.2.2.1;omega));have HSG:=Hd (show∀i,i∈of.ports->∃r:Nat,a6.1.sigs i.name=some (r:Int)/\r<m5.2.d.sigs.length from λi c3=>by
         obtain⟨a,ha⟩:=Option.isSome_iff_exists.1 (Z1.o.2 i c3);have:=g0.o.gd.at_ _ _ ha;exact⟨a.toNat,by rw[ha];congr 1;omega,zO⟩)
        have s13:w12.heap.size<=w13.heap.size:=V.size;obtain⟨pm,hpm9⟩:∃pm,pm=wr.heap.size:=⟨_,rfl⟩;have HZ2:=Hd (show b8=bZ s a6.1.sigs a1 (of.ports.drop 0) m5.2 by rw[a0.o,HR3.o];simp only[bind,Except.bind];rw[f];rfl);rw[<-hpm9] at HPM13 hpmm;have hpm9':=hpm9.symm;clear f hmo V g9 hk13 hs13 U9 T5 hpe X7 X8 X9 Y0 g0 c4 Q9 Y7 Z0 a0 KI hpm9 HCL hpm12;obtain⟨X7,X8,X9,Y0⟩:=BO13.o.get4;go_wp2_with fail
        go_loopw [135] (λd2 wr=>∃(z:Nat) (m1:Mk),z<=of.ports.length/\d2=.int .i64 z/\EC W0 B N0 mb sb mp (.slice O fl.length Q) m1 s wr/\FrQ N0 mb w13 wr/\m5.2.d.sigs.length<=m1.d.sigs.length/\b8=bZ s a6.1.sigs a1 (of.ports.drop z) m1) (λd2 _=>of.ports.length - (intOf d2).toNat)
        case atStart=>exact⟨0,m5.2,aA _,rfl,HEO13.o,FrQ.refl _ _ _,ac _,HZ2.o⟩
        case round=>
         obtain⟨z,m1,hk3,rfl,j9,a2,hml,b9⟩:=hrel;clear HZ2 X7 X8 X9 Y0 HEO13;have c4:=Hd j9;have HFQ3:=Hd a2;by_cases hlt3:z<of.ports.length
         ·rw[List.drop_eq_getElem_cons hlt3] at b9;have HPRT:=Hd (an hlt3);obtain⟨p,o,n5,O9,hbw,J5,n6,O8,O0⟩:=Z7.o _ hlt3;subst O9;obtain⟨F,rfl,n7⟩:=O0;obtain⟨I6,rfl,d1⟩:=RX_iff.1 n7;have o5:=d1.oneCell;obtain⟨q7,i5,q8,q9,S1,S2,S3,S4⟩:=(n6.ext j9.cx.ext).get8;obtain⟨i2,n8,k2,e7⟩:=de wr (.string of.ports[z].name) (.bool of.ports[z].o) (.int .i64 of.ports[z].w.op) (.string of.ports[z].w.name) (.int .i64 of.ports[z].w.n) (.int .i64 of.ports[z].w.w) (.int .u64 of.ports[z].w.v) I6 42;have r1:=n8.symm;obtain⟨V8,H9,V9,W1,W2,W3,W4,W5⟩:=e7.get8;have hxm3:=(a2.envX HXM13.o J7).ext k2;obtain⟨cl,r9,O7,K0⟩:=hxm3.look of.ports[z].name true;simp only[if_true] at r9;obtain⟨m2,m3,h5,h9,i0,g7,hclq,oq⟩:=oo O7 K0;subst hclq;obtain⟨R8,O2,p1,O3⟩:=aV i2 (.int .i64 m2) (.string m3) (.int .i64 h5) (.int .i64 h9) (.int .u64 i0) g7 40;have hW5':=O2.symm;obtain⟨p2,p3,r2,r3,p4,p5,L2,r7⟩:=(e7.ext p1).get8;have BP2:=Hd (e7.ext p1);have BQ2:=Hd O3;have Y2:=Hd (k2.trans p1);have sv1:wr.heap.size<i2.heap.size:=e7.lt;have sv2:i2.heap.size<R8.heap.size:=O3.lt;have a0:=Hd b9;have R3:=Hd hml;generalize of.ports[z]=i at*;obtain⟨l9,r6⟩:∃l9,l9=(a1 i.name).isSome:=⟨_,rfl⟩;obtain⟨f7,f6⟩:∃f7,f7=i.o:=⟨_,rfl⟩;rw[<-r6] at r9;rw[<-f6] at H9 p3 i5 r1;have e1:=Hd (aq r6 f6);have HL1:=Hd K0;have m7:=Hd (j9.ext Y2.o);have R5:=Hd (a2.trans (.of_ext Y2.o));clear b9 n6 n7 d1 O8 n8 k2 e7 O7 K0 O2 p1 O3 r6 f6 a2 j9 hml hxm3;by_cases T7:l9=true/\f7=true
          ·obtain⟨rfl,rfl⟩:=T7;obtain⟨x,C⟩:=Option.isSome_iff_exists.1 e1.o.1.symm;have R7:=Hd C;have HXX:=Hd (HL1.o x C);obtain⟨xx5,hcx,hh5⟩:=RX_iff.1 (HL1.o x C).rx;have oxx:=hh5.oneCell;simp only[List.cons.injEq,and_true,Value.int.injEq,Value.string.injEq,true_and] at hcx;obtain⟨rfl,rfl,rfl,rfl,rfl,rfl⟩:=hcx;obtain⟨r,J9,hkal⟩:=HSG.o i HPRT.o;have L6:=Hd J9;have Z3:=Hd (show MayX x from by
            obtain⟨-,-,-,-,-,-,hbb⟩:=MayI_iff.1 T9;have O5:=C;rw[HEQ.o] at O5;rcases lX _ _ O5 with h|⟨p,U,rfl⟩
            ·cases h
            ·exact(hbb p U).2)
           obtain⟨p6,a4,a3,W9,hk2',hs2'⟩:=m7.o.ex;have hc0:=m7.o.inv.c0;have hc1:=m7.o.inv.c1;have m8:=Hd (ej N0 mb (.slice O fl.length Q) p6 a4 a3 m1 1 R8 hk2' hc0 hc1 zD zD);have hnv:¬i2.heap.size=mb:=by have:=c4.o.mlt.1;omega
           have hnp:¬wr.heap.size=mb:=by have:=c4.o.mlt.1;omega
           clear C J9 hh5 hk2' hs2';go_wp2_with fail
           go_at_call 75;refine m8.o.mono ?_;rintro e X4 (⟨L1,e0,f,rfl,rfl,G,Z⟩|⟨F,f,rfl,Z⟩);rotate_left
           ·exact⟨rfl,.no (by rw[a0.o,ka R7.o e1.o.2.symm L6.o,f];rfl) ((L4.o.trans (R5.o sb mp)).trans (.of_chg Z))⟩
           have T3:=ee f zD;have Z9:=Hd f;have p9:=Hd ((FrQ.of_chg Z).ec m7.o G (by rw[T3.d];exact m7.o.gd) (m7.o.inv.cnt T3));have L9:=Hd (R5.o.trans (.of_chg Z));have BP3:=Hd (Z.blk BP2.o hnp);have BQ3:=Hd (Z.blk BQ2.o hnv);have Y3:=Hd (L9.o.blk BS13.o ⟨zD,zD,zD⟩ J8);have HD5:=Hd T3.d;have R1:=Hd G;have sv3:R8.heap.size<=X4.heap.size:=Z.size;have i9:=(Y3.o).cell 0;simp only[List.getElem?_cons_zero] at i9;obtain⟨b0,b1,b2,b3,b4,b5⟩:=BQ3.o.get6;obtain⟨us3,up3,uc3,ue3,hk3',hs3'⟩:=p9.o.ex;have KT:=Hd (pa W0 B N0 mb sb mp (.slice O fl.length Q) p6 a4 a3 ue3 L1 s false x [.int .i64 x.op,.string x.name,.int .i64 x.n,.int .i64 x.w,.int .u64 x.v,g7] X4 p9.o.cx HXX.o G hs3' p9.o.gd (λh34=>by
            have:=(MayX_iff.1 Z3.o).1.1;unfold eg at this;omega))
           clear f G Z T3 hk3' hs3' m8 p2 p3 r2 r3 p4 p5 L2 r7 V8 H9 V9 W1 W2 W3 W4 W5 q7 i5 q8 q9 S1 S2 S3 S4 r9 r1 hW5';go_wp2_with fail
           go_at_call 148;refine KT.o.mono ?_;rintro e d5 (⟨tr,e0,f,rfl,rfl,P1⟩|⟨F,f,rfl,P1⟩);rotate_left
           ·exact⟨rfl,.no (by rw[a0.o,ka R7.o e1.o.2.symm L6.o,Z9.o];simp only[bind,Except.bind];rw[f]) ((L4.o.trans (L9.o sb mp)).trans (.of_ext P1))⟩
           have HR15:=Hd f;obtain⟨I7,I8,I9⟩:=tr;obtain⟨Vz,hVz',hxz,T1⟩:=aV d5 (.int .i64 0) (.int .i64 0) (.int .i64 0) (.int .i64 0) (.slice none 0 0) (.slice none 0 0) 73;have hVz:=hVz'.symm;obtain⟨a7,u,y,k3',a8,a9⟩:=T1.get6;obtain⟨l0,L0,V3,l3,V4,l5⟩:=T1.free6;obtain⟨q3,S5⟩:∃q3,q3=(((((Vz.setCell ⟨d5.heap.size,0,none⟩ (.int .i64 1)).setCell ⟨d5.heap.size,1,none⟩ (.int .i64 I7)).setCell ⟨d5.heap.size,2,none⟩ (.int .i64 I8)).setCell ⟨d5.heap.size,3,none⟩ (.int .i64 I9)).setCell ⟨d5.heap.size,4,none⟩ (.slice none 0 0)).setCell ⟨d5.heap.size,5,none⟩ (.slice none 0 0):=⟨_,rfl⟩;have S8:=S5.symm;have hb5':Blk q3 d5.heap.size 73 [.int .i64 1,.int .i64 I7,.int .i64 I8,.int .i64 I9,.slice none 0 0,.slice none 0 0]:=by rw[S5];exact T1.store6 _ _ _ _ _ _
           have hx5':Ext d5 q3:=by rw[S5];exact(((((hxz.setCell (ac _) _).setCell (ac _) _).setCell (ac _) _).setCell (ac _) _).setCell (ac _) _).setCell (ac _) _
           have J3:=Hd (P1.trans hx5');have BT5:=Hd hb5';have HMK5:=Hd (R1.o.ext J3.o);have q0:=Hd (p9.o.ext J3.o);have sv5:X4.heap.size<=d5.heap.size:=P1.size;have sv6:d5.heap.size<q3.heap.size:=hb5'.lt;have hc0':=q0.o.inv.c0;have hc1':=q0.o.inv.c1;have m8:=Hd (ej N0 mb (.slice O fl.length Q) p6 a4 a3 L1 1 q3 HMK5.o hc0' hc1' zD zD);have hnt:¬d5.heap.size=mb:=by have:=c4.o.mlt.1;omega
           clear f P1 S5 hx5' hb5' hVz' hxz T1 KT i9 b0 b1 b2 b3 b4 b5;go_wp2_with fail
           go_at_call 75;refine m8.o.mono ?_;rintro e m4 (⟨g3,e0,f,rfl,rfl,G,Z⟩|⟨F,f,rfl,Z⟩);rotate_left
           ·exact⟨rfl,.no (by rw[a0.o,ka R7.o e1.o.2.symm L6.o,Z9.o];simp only[bind,Except.bind];rw[HR15.o];simp only;rw[f]) (((L4.o.trans (L9.o sb mp)).trans (.of_ext J3.o)).trans (.of_chg Z))⟩
           clear a7 u y k3' a8 a9 l0 L0 V3 l3 V4 l5 hVz S8;have r5:=ee f zD;have HR16:=Hd f;have HO6:=Hd ((FrQ.of_chg Z).ec q0.o G (by rw[r5.d];exact q0.o.gd) (q0.o.inv.cnt r5));have HQ6:=Hd ((L9.o.trans (.of_ext J3.o)).trans (.of_chg Z));have BP6:=Hd (Z.blk (BP3.o.ext J3.o) hnp);have Q7:=Hd (Z.blk BT5.o hnt);have HD6:=Hd (r5.d.trans HD5.o);have sv7:q3.heap.size<=m4.heap.size:=Z.size;have hkal6:r<g3.d.sigs.length:=by rw[HD6.o];have:=R3.o;omega
           obtain⟨sz0,d4,hzv,hzc,P5⟩:=G.sig.slT zD;subst hzv;obtain⟨c7,d0,gs,rfl,U6,hgl,N7,hg1,O1⟩:=P5 r hkal6;have hR':gs=_:=O1;subst hR';have l8:=HO6.o.gd.w _ (an hkal6);have hk0:(0:Int)<=(r:Int):=by omega
           have hk1':(r:Int)<(g3.d.sigs.length:Int):=by omega
           have Q6:=N7 1 _ rfl;have N8:=Hd (λ(D:Int) (h1:D=g3.d.sigs[r].w)=>(by rw[h1,gh hkal6]:(aD g3.d.sigs (r:Int)).w=D));obtain⟨D,h1⟩:∃D,D=g3.d.sigs[r].w:=⟨_,rfl⟩;have R6:=Hd (N8.o D h1);rw[<-h1] at l8 Q6;have hgw1:(1:Int)<=D:=l8.1;have hgw2:D<=64:=l8.2;have HMK6:=Hd G;have L0:=G.blk.cell 1;simp only[List.getElem?_cons_succ,List.getElem?_cons_zero] at L0;have V3:=BP6.o.cell 0;simp only[List.getElem?_cons_zero] at V3;have hlm:=(HQ6.o.envM HPM13.o hpmm).look0_some i.name L6.o;have HIW:=Hd (show IntKind.i64.wrap (D - 1)=D - 1 by simp(disch:=omega) only[IntWalk.i64_in]);obtain⟨V7,hV7',V0,hb7'⟩:=de m4 (.int .i64 2) (.int .i64 0) (.int .u64 0) (.int .i64 (r:Int)) (.int .i64 (D - 1)) (.int .i64 0) (.int .i64 0) (.slice none 0 0) 60;have hW7:=hV7'.symm;have sv8:m4.heap.size<V7.heap.size:=hb7'.lt;have S0:=Q7.o.ext V0;have l3:=S0.frozen 4;have V4:=S0.cell 4;simp only[List.getElem?_cons_succ,List.getElem?_cons_zero] at V4;obtain⟨m9,S6⟩:∃m9,m9=V7.setCell ⟨d5.heap.size,4,none⟩ (.slice (some ⟨m4.heap.size,0,none⟩) 1 1):=⟨_,rfl⟩;have hW8:=S6.symm;have bt8:Blk m9 d5.heap.size 73 [.int .i64 1,.int .i64 I7,.int .i64 I8,.int .i64 I9,.slice (some ⟨m4.heap.size,0,none⟩) 1 1,.slice none 0 0]:=by rw[S6];simpa using S0.set_ 4 (.slice (some ⟨m4.heap.size,0,none⟩) 1 1)
           have T2:Chg (λk=>k=d5.heap.size) V7 m9:=by rw[S6];exact dD _ _ _ _
           have be8:Blk m9 m4.heap.size 60 [.int .i64 2,.int .i64 0,.int .u64 0,.int .i64 (r:Int),.int .i64 (D - 1),.int .i64 0,.int .i64 0,.slice none 0 0]:=T2.blk hb7' zO;obtain⟨j0,j1,j2,j3,j4,j5⟩:=bt8.get6;obtain⟨J2,hV9',V1,hb9'⟩:=aV m9 (.int .i64 1) (.int .i64 I7) (.int .i64 I8) (.int .i64 I9) (.slice (some ⟨m4.heap.size,0,none⟩) 1 1) (.slice none 0 0) 73;have hW9:=hV9'.symm;have be9:=be8.ext V1;have T6:FrS mb X4 J2:=(((J3.o.chg.trans Z).trans V0.chg).trans_new T2 (λd2 hi=>by have:d2=d5.heap.size:=hi;omega)).trans V1.chg;have HMK9:=Hd (R1.o.back T6 G ((V0.chg.trans T2).trans V1.chg) zO r5);have R4:=Hd ((FrQ.of_chg T6).ec p9.o HMK9.o (by rw[r5.d];exact p9.o.gd) (p9.o.inv.cnt r5));have HQ9:=Hd (L9.o.trans (.of_chg T6));have hsl9:SlT6 J2 [eb (I7,I8,I9) (fW g3.d.sigs (r:Int))] (.slice (some ⟨m9.heap.size,0,none⟩) 1 1):=by
            have e6:SlE9 (λ_=>True) J2 [fW g3.d.sigs (r:Int)] (.slice (some ⟨m4.heap.size,0,none⟩) 1 1):=by
             unfold fW;rw[R6.o];exact SlE9.one be9 trivial (RE9.leaf 2 0 0 (r:Int) (D - 1) 0 0)
            exact(SlT9.one hb9' trivial (RT9_iff.2 ⟨_,.slice none 0 0,rfl,e6,SlY.nil⟩)).slT (λm5 _=>RT9.rt6 m5)
           have KP:=Hd (iy N0 mb J2.heap.size J2.heap.size (.slice O fl.length Q) _ a4 a3 g3 false [eb (I7,I8,I9) (fW g3.d.sigs (r:Int))] (.slice (some ⟨m9.heap.size,0,none⟩) 1 1) J2 HMK9.o hsl9 R4.o.inv.pr);have HRP:=Hd (show b8=(do let q<-ca false [eb (I7,I8,I9) (fW g3.d.sigs (r:Int))] g3;bZ s a6.1.sigs a1 (of.ports.drop (z+1)) q) by rw[a0.o,ka R7.o e1.o.2.symm L6.o,Z9.o];simp only[bind,Except.bind];rw[HR15.o];simp only;rw[HR16.o]);clear f G Z r5 P5 N7 hg1 O1 U6 hgl N8 h1 l8 hV7' V0 hb7' S0 S6 bt8 T2 be8 hV9' V1 hb9' be9 T6 hsl9 m8;have hiw:=HIW.o;go_wp2_with fail
           go_at_call 107;refine KP.o.mono ?_;clear hiw;rintro e w17 (⟨V5,e0,f,rfl,rfl,vs',vp',vc',G,k0⟩|⟨F,f,rfl,k0⟩);rotate_left
           ·exact⟨rfl,.no (by rw[HRP.o,f];rfl) ((L4.o.trans (HQ9.o sb mp)).trans (k0.wide (ac _)))⟩
           have hd7:V5.d.sigs=g3.d.sigs:=by rw[(fC f).1]
           have HO10:=Hd ((FrQ.of_fr k0).ec R4.o G (by rw[hd7];exact R4.o.gd) (R4.o.inv.process f));have HQ10:=Hd (HQ9.o.trans (.of_fr k0));have d3:=Hd (show b8=bZ s a6.1.sigs a1 (of.ports.drop (z+1)) V5 by rw[HRP.o,f];rfl);have HML7:=Hd (show m5.2.d.sigs.length<=V5.d.sigs.length by rw[hd7,HD6.o];exact R3.o);clear f G k0 hd7 L0 V3 l3 V4 hlm j0 j1 j2 j3 j4 j5;go_wp2_with fail
           go_roundw;case rel=>exact⟨z+1,V5,zO,zN,HO10.o,HQ10.o,HML7.o,d3.o⟩
           case measure=>simp[intOf];omega
          ·have d3:=Hd (show b8=bZ s a6.1.sigs a1 (of.ports.drop (z+1)) m1 by
            rw[a0.o,wy];rw[<-e1.o.1,<-e1.o.2];cases l9<;>cases f7<;>simp_all)
           cases l9 with
           |false=>
            clear T7;go_wp2_with fail
            go_roundw;case rel=>exact⟨z+1,m1,zO,zN,m7.o,R5.o,R3.o,d3.o⟩
            case measure=>simp[intOf];omega
           |true=>
            cases f7 with
            |true=>exact absurd ⟨rfl,rfl⟩ T7
            |false=>
             clear T7;go_wp2_with fail
             go_roundw;case rel=>exact⟨z+1,m1,zO,zN,m7.o,R5.o,R3.o,d3.o⟩
             case measure=>simp[intOf];omega
         ·have hkq:z=of.ports.length:=by omega
          have a0:=Hd (show b8=.ok m1 by rw[b9,hkq,List.drop_length];rfl);clear b9 j9 a2 hml hkq;go_wp2_with fail
          refine bodyPost_ret (v:=aO) ?_ rfl (.ok a0.o ⟨rfl,c4.o,L4.o.trans (HFQ3.o sb mp)⟩);simp[results,results111,go_sem,aO]
