import Derived.Test.YtlfmlodanoolhaaGreatDoorE49
set_option linter.all false
set_option maxRecDepth 200000
set_option maxHeartbeats 32000000
namespace Go.Proofs.YtlfmlodanoolhaaGreatDoor
open Go Go.RowKit Go.Proofs.Tryz
attribute [local go_sem] z0f
def mdV(W0:World)(B:Nat)(of:Mdl)(vals:List Value)(i:Nat)(v:Value):Prop:=
 if i=6∨i=7 then∃c0 c1 c2 c3,v=.tuple #[.agg #[c0,c1,c2,c3],.bool true]∧RM W0 B of [c0,c1,c2,c3]
 else if i=8 then∃c0 c1 c2 c3,v=.agg #[c0,c1,c2,c3]∧RM W0 B of [c0,c1,c2,c3]
 else v=vals.getD i undef
def mdF(W W0:World)(B:Nat)(of:Mdl)(vals:List Value)(i:Nat)(v:Value)(w:World):Prop:=
 if i=10 then∃g d0 d1 d2 d3,v=.pointer (some ⟨g,0,none⟩)∧W.heap.size≤g∧Blk w g 30 [d0,d1,d2,d3] else mdV W0 B of vals i v
def mdG(W W0:World)(B:Nat)(of:Mdl)(v:Value)(w:World):Prop:=∃g c0 c1 c2 c3,v=.pointer (some ⟨g,0,none⟩)∧W.heap.size≤g∧Blk w g 30 [c0,c1,c2,c3]∧RM W0 B of [c0,c1,c2,c3]
theorem k7e{W W0:World}{B:Nat}{of:Mdl}{vals:List Value}{i:Nat}{v:Value}{w w':World}(h:mdF W W0 B of vals i v w)(hx:Ext w w'):mdF W W0 B of vals i v w':=by
 unfold mdF at h⊢;split
 ·rename_i hi;rw[if_pos hi] at h;obtain⟨g,d0,d1,d2,d3,h1,h2,h3⟩:=h;exact⟨g,d0,d1,d2,d3,h1,h2,h3.ext hx⟩
 ·rename_i hi;rw[if_neg hi] at h;exact h
theorem k7d{W W0:World}{B:Nat}{of:Mdl}{v:Value}{w w':World}(h:mdG W W0 B of v w)(hx:Ext w w'):mdG W W0 B of v w':=by
 obtain⟨g,c0,c1,c2,c3,h1,h2,h3,h4⟩:=h;exact⟨g,c0,c1,c2,c3,h1,h2,h3.ext hx,h4⟩
theorem j9b{W W0:World}{B:Nat}{of:Mdl}{vals:List Value}{w:World}{g0:Nat}(u0 u1 u2 u3:Value){i:Nat}{v:Value}(h:mdF W W0 B of vals i v w):mdF W W0 B of vals i v ((((w.setCell ⟨g0,0,none⟩ u0).setCell ⟨g0,1,none⟩ u1).setCell ⟨g0,2,none⟩ u2).setCell ⟨g0,3,none⟩ u3):=by
 unfold mdF at h⊢;split
 ·rename_i hi
  rw[if_pos hi] at h;obtain⟨g,d0,d1,d2,d3,h1,h2,h3⟩:=h;by_cases hg:g=g0
  ·subst hg;exact⟨g,u0,u1,u2,u3,h1,h2,h3.store4 u0 u1 u2 u3⟩
  ·exact⟨g,d0,d1,d2,d3,h1,h2,(((h3.far hg _).far hg _).far hg _).far hg _⟩
 ·rename_i hi;rw[if_neg hi] at h;exact h
theorem j2a{W w:World}(hx:Ext W w){g:Nat}(hg:W.heap.size≤g)(u0 u1 u2 u3:Value):Ext W ((((w.setCell ⟨g,0,none⟩ u0).setCell ⟨g,1,none⟩ u1).setCell ⟨g,2,none⟩ u2).setCell ⟨g,3,none⟩ u3):=
 (((hx.setCell hg _).setCell hg _).setCell hg _).setCell hg _
def hpF(W:World)(cs:List Value)(vals:List Value)(i:Nat)(v:Value)(w:World):Prop:=
 if i=3 then∃g,v=.func (.func 68) #[] #[.pointer (some ⟨g,0,none⟩)]∧W.heap.size≤g∧Blk w g 30 cs else v=vals.getD i undef
theorem k7t{W:World}{cs vals:List Value}{i:Nat}{v:Value}{w w':World}(h:hpF W cs vals i v w)(hx:Ext w w'):hpF W cs vals i v w':=by
 unfold hpF at h⊢;split
 ·rename_i hk;rw[if_pos hk] at h;obtain⟨g,h1,h2,h3⟩:=h;exact⟨g,h1,h2,h3.ext hx⟩
 ·rename_i hk;rw[if_neg hk] at h;exact h
theorem z7c{w w':World}{tm:Nat}{o:ByteArray→Option Int}(hm:EnvM w tm o)(hc:Chg (fun k=>k=tm) w w'):∀g T,Tag w g T→w'.heap[g]? =w.heap[g]? :=fun g T hg=>hc.block g hg.lt (fun e=>hm.noTag (show Tag w tm T from(show g=tm from e)▸hg))
section
variable {W0 w w' : World} {B N0 mb sb mp : Nat} {vf vs vp vc ve : Value} {m : Mk} {s : Sc}
theorem Kp.tags(hs:∀g T,Tag w g T→w'.heap[g]? =w.heap[g]?):Kp w w':=fun b hb=>by
 rcases hb with hb|hb|hb<;>exact hs b _ hb
theorem MkI.tags(h:MkI w N0 mb vf vs vp vc m)(hs:∀g T,Tag w g T→w'.heap[g]? =w.heap[g]?):MkI w' N0 mb vf vs vp vc m:=
 ⟨(hs mb _ h.blk.tag).trans h.blk,h.sig.chg (fun g _ hg=>hs g _ hg) (fun _ _ h=>h),h.prc.chg (fun g _ hg=>hs g _ hg) (RPc.keep (Kp.tags hs)),h.chk.chg (fun g _ hg=>hs g _ hg) (RCk.keep (Kp.tags hs)),h.base⟩
theorem ScI.tags(h:ScI w sb mp ve s)(hs:∀g T,Tag w g T→w'.heap[g]? =w.heap[g]?)(hm:w'.heap[mp]? =w.heap[mp]?):ScI w' sb mp ve s:=
 ⟨(hs sb _ h.blk.tag).trans h.blk,h.env.keep (.inr (.inr rfl)) (Kp.tags hs) (fun _ _ _ h=>h),h.map.of_eq hm⟩
theorem Blk.tags{g:Nat}{T:TypeId}{cs:List Value}(h:Blk w g T cs)(hs:∀g T,Tag w g T→w'.heap[g]? =w.heap[g]?):Blk w' g T cs:=(hs g T h.tag).trans h
theorem EC.tags(h:EC W0 B N0 mb sb mp vf m s w)(hs:∀g T,Tag w g T→w'.heap[g]? =w.heap[g]?)(hm:w'.heap[mp]? =w.heap[mp]?)(hx:Ext W0 w'):EC W0 B N0 mb sb mp vf m s w':=by
 obtain⟨vs,vp,vc,ve,h1,h2⟩:=h.ex;exact⟨⟨vs,vp,vc,ve,h1.tags hs,h2.tags hs hm⟩,⟨h.cx.tabs,h.cx.hB,hx⟩,h.gd,h.inv,h.lo,h.ls,h.lm,h.tab⟩
theorem FrI.after{X:Nat→Prop}{W W':World}(h:FrI N0 mb sb mp w W)(hc:Chg X W W')(hX:∀k,X k→w.heap.size≤k):FrI N0 mb sb mp w W':=
 ⟨hc.os.trans h.os,hc.tape.trans h.tape,hc.output.trans h.output,y1k h.size hc.size,fun k hk h1 h2 h3 h4=>(hc.block k (y1m hk h.size) (fun hx=>absurd (hX k hx) (by omega))).trans (h.block k hk h1 h2 h3 h4)⟩
end
theorem j4m{α:Type}{K:ByteArray→Prop}{e:Int}{val:X→Rs α}{P:α→Prop}(hv:∀x v,val x=.ok v→P v):∀(l:List Bnd) (o r:ByteArray→Option α),(∀nm v,o nm=some v→P v)→z2w K e val l o=.ok r→∀nm v,r nm=some v→P v
 |[],o,r,ho,h=>by injection h with h;rw[←h];exact ho
 |b::l,o,r,ho,h=>by
  rw[z2w] at h;obtain⟨u,-,h⟩:=z0h h;obtain⟨v,hv1,h⟩:=z0h h;refine j4m hv l _ r (fun nm z hz=>?_) h;unfold z3h at hz;split at hz
  ·injection hz with hz;rw[←hz];exact hv _ _ hv1
  ·exact ho nm z hz
theorem q9y{E:ByteArray→Option X}{p:Prt}{l:List Prt}(h:(E p.name).isSome=true∨p.o=true):z9q E (p::l)=z9q E l:=by
 rw[z9q];unfold z0o;rw[if_pos h];rfl
theorem k4m{E:ByteArray→Option X}{p:Prt}{l:List Prt}(h:¬((E p.name).isSome=true∨p.o=true)):z9q E (p::l)=.error 81:=by
 rw[z9q];unfold z0o;rw[if_neg h];rfl
def FrQ(N0 mb:Nat)(w w':World):Prop:=∀g1 g2,FrI N0 mb g1 g2 w w'
section
variable {W0 a w w' : World} {B N0 mb sb mp : Nat} {vf vs vp vc : Value} {m m' : Mk} {s : Sc}
theorem FrQ.refl(N0 mb:Nat)(w:World):FrQ N0 mb w w:=fun g1 g2=>FrI.refl _ _ _ _ _
theorem FrQ.trans(h:FrQ N0 mb a w)(k:FrQ N0 mb w w'):FrQ N0 mb a w':=fun g1 g2=>(h g1 g2).trans (k g1 g2)
theorem FrQ.of_ext(h:Ext w w'):FrQ N0 mb w w':=fun _ _=>.of_ext h
theorem FrQ.of_chg(h:FrS mb w w'):FrQ N0 mb w w':=fun _ _=>.of_chg h
theorem FrQ.of_fr(h:FrI N0 mb w.heap.size w.heap.size w w'):FrQ N0 mb w w':=fun g1 g2=>h.fresh w (FrI.refl _ _ _ _ _) (.inl (y1j _)) (.inl (y1j _))
theorem FrQ.size(h:FrQ N0 mb w w'):w.heap.size≤w'.heap.size:=(h 0 0).size
theorem FrQ.blk(h:FrQ N0 mb w w'){g:Nat}{t:TypeId}{cs:List Value}(hb:Blk w g t cs)(ht:k8m t)(hne:g≠mb):Blk w' g t cs:=(h mb mb).blk hb ht hne hne hne
theorem FrQ.envX(h:FrQ N0 mb w w'){g:Nat}{env:ByteArray→Option X}(hb:EnvX W0 B w g env)(hne:g≠mb):EnvX W0 B w' g env:=
 hb.of_eq ((h mb mb).block g hb.lt hne hne hne (fun hh=>by rcases hh.2 with h|h|h<;>exact hb.noTag h))
theorem FrQ.envM(h:FrQ N0 mb w w'){g:Nat}{env:ByteArray→Option Int}(hb:EnvM w g env)(hne:g≠mb):EnvM w' g env:=(h mb mb).map hb hne hne hne
theorem FrQ.ec(h:FrQ N0 mb w w')(he:EC W0 B N0 mb sb mp vf m s w)(hk:MkI w' N0 mb vf vs vp vc m')(hg:Good m'.d.sigs s)(hi:MInv m'):EC W0 B N0 mb sb mp vf m' s w':=by
 obtain⟨us,up,uc,ue,h1,h2⟩:=he.ex;have hkp:Kp w w':=(h sb mp).kp h1.blk.tag (fun _=>h2.blk.tag) (fun _=>⟨_,h2.map⟩);exact he.frI (h sb mp) hk (h2.frN (h (sb+mp+1) (sb+mp+1)) hkp h1.blk.tag (by omega) (by omega) (by omega) (by omega)) hg hi
end
theorem q5h{kind:Prt→Int}:∀(l:List Prt) (s:Sc) (m:Mk) (r:Sc×Mk),z3v kind l s m=.ok r→m.d.sigs.length≤r.2.d.sigs.length∧(∀nm,(s.sigs nm).isSome=true→(r.1.sigs nm).isSome=true)∧∀p,p∈l→(r.1.sigs p.name).isSome=true
 |[],s,m,r,h=>by injection h with h;rw[←h];exact⟨y1j _,fun _ h=>h,fun p hp=>by cases hp⟩
 |p::l,s,m,r,h=>by
  rw[z3v] at h;obtain⟨w,-,h⟩:=z0h h;obtain⟨z,hz,h⟩:=z0h h;obtain⟨h1,h2,h3⟩:=q5h l z.1 z.2 r h;have he:=(z3p hz).1;have hs:∀nm,(s.sigs nm).isSome=true∨p.name=nm→(z.1.sigs nm).isSome=true:=fun nm hn=>by
   rw[he];show(z3h s.sigs p.name (m.d.sigs.length:Int) nm).isSome=true;unfold z3h;split
   ·rfl
   ·rename_i hne;exact hn.resolve_right hne
  refine⟨y1k (by rw[he];simp) h1,fun nm hn=>h2 nm (hs nm (.inl hn)),fun q hq=>?_⟩;rcases List.mem_cons.1 hq with rfl|hq
  ·exact h2 _ (hs _ (.inr rfl))
  ·exact h3 q hq
theorem q9h{of:Mdl}{z4e:ByteArray→Option Int}{path:ByteArray}{kind:Prt→Int}{m:Mk}{r:Sc×Mk}(h:q4k of z4e path kind m=.ok r):m.d.sigs.length≤r.2.d.sigs.length∧∀p,p∈of.ports→(r.1.sigs p.name).isSome=true:=by
 unfold q4k at h;obtain⟨s,-,h⟩:=z0h h;obtain⟨h1,-,h3⟩:=q5h _ _ _ _ h;exact⟨h1,h3⟩
theorem EnvM.look0{w:World}{m:Nat}{env:ByteArray→Option Int}(h:EnvM w m env)(s:ByteArray):
 (Instr.lookup 93 (.map (some m)) (.string s) false).run Tryz.prog w=.ok (.int .i64 ((env s).getD 0)) w:=by
 obtain⟨L,h1,h2,h3⟩:=h;have:=h1.lookup (et:=3) underlying93 underlying9 (k:=.string s) trivial h2 (z:=.int .i64 0) (by kernel_rfl) false;rw[this,h3];cases env s<;>rfl
theorem EnvM.look0_some{w:World}{m:Nat}{env:ByteArray→Option Int}(h:EnvM w m env)(s:ByteArray){a:Int}(ha:env s=some a):
 (Instr.lookup 93 (.map (some m)) (.string s) false).run Tryz.prog w=.ok (.int .i64 a) w:=by
 have:=h.look0 s;rw[ha] at this;exact this
theorem EC.beside{W0 w w':World}{B N0 mb sb mp g gm:Nat}{vf vs vp vc:Value}{m m' m2:Mk}{s s2:Sc}(he:EC W0 B N0 mb sb mp vf m s w)(h0:EC W0 B N0 mb g gm vf m2 s2 w)(hf:FrI N0 mb g gm w w')(hk:MkI w' N0 mb vf vs vp vc m')(h1:sb≠g)(h2:sb≠gm)(h3:mp≠g)(h4:mp≠gm)(hx:Ext W0 w')(hg:Good m'.d.sigs s)(hi:MInv m'):EC W0 B N0 mb sb mp vf m' s w':=by
 obtain⟨us,up,uc,ue,k1,k2⟩:=he.ex;obtain⟨us',up',uc',ue',l1,l2⟩:=h0.ex;have hkp:Kp w w':=hf.kp k1.blk.tag (fun _=>l2.blk.tag) (fun _=>⟨_,l2.map⟩);exact⟨⟨vs,vp,vc,ue,hk,k2.frN hf hkp k1.blk.tag h1 h2 h3 h4⟩,⟨he.cx.tabs,he.cx.hB,hx⟩,hg,hi,he.lo,he.ls,he.lm,he.tab⟩
theorem q4h{s inn:Sc}{E:ByteArray→Option X}:∀(l:List Prt) (m m':Mk),q4z s inn E l m=.ok m'→m'.d.sigs=m.d.sigs
 |[],m,m',h=>by injection h with h;rw[←h]
 |p::l,m,m',h=>by
  rw[q4z] at h;split at h
  ·exact q4h l m m' h
  ·obtain⟨m1,h1,h⟩:=z0h h;obtain⟨y,h2,h⟩:=z0h h;obtain⟨m2,h3,h⟩:=z0h h;rw[q4h l m2 m' h,(z2u h3).1];show y.2.d.sigs=_;rw[(z8m s _ m1 y h2).2.1,j0h h1]
theorem q1l{s:Sc}{sigs:ByteArray→Option Int}{E:ByteArray→Option X}:∀(l:List Prt) (m m':Mk),z5p s sigs E l m=.ok m'→m'.d.sigs=m.d.sigs
 |[],m,m',h=>by injection h with h;rw[←h]
 |p::l,m,m',h=>by
  rw[z5p] at h;split at h
  ·obtain⟨m1,h1,h⟩:=z0h h;obtain⟨t,h2,h⟩:=z0h h;obtain⟨m2,h3,h⟩:=z0h h;obtain⟨m3,h4,h⟩:=z0h h;rw[q1l l m3 m' h,(z2u h4).1];show m2.d.sigs=_;rw[j0h h3,j0h h1]
  ·exact q1l l m m' h
theorem z8w(fl:List Mdl):∀k,y0e (z6o fl k)
 |0=>fun t s m m' h=>by rw[z6o] at h;cases h
 |k+1=>fun t s m m' h=>by
  rw[z6o] at h;obtain⟨z4e,-,h⟩:=z0h h;obtain⟨E,-,h⟩:=z0h h;obtain⟨u,-,h⟩:=z0h h;obtain⟨hd,h1,h⟩:=z0h h;obtain⟨m1,h2,h⟩:=z0h h;obtain⟨z,h3,h⟩:=z0h h;have a:=(q9h h1).1;have b:=q4h _ _ _ h2;have c:=z3n _ (fun z _=>q1t (z8w fl k) z) _ _ _ h3;have d:=q1l _ _ _ h;rw[d];rw[b] at c;omega
theorem k3a{s:Sc}{sigs:ByteArray→Option Int}{E:ByteArray→Option X}{p:Prt}{l:List Prt}{m:Mk}(h:¬((E p.name).isSome=true∧p.o=true)):z5p s sigs E (p::l) m=z5p s sigs E l m:=by
 rw[z5p];split
 ·rename_i x he ho
  exact absurd ⟨by rw[he];rfl,ho⟩ h
 ·rfl
theorem q0d{s:Sc}{sigs:ByteArray→Option Int}{E:ByteArray→Option X}{p:Prt}{l:List Prt}{m:Mk}{x:X}{a:Int}(h:E p.name=some x)(ho:p.o=true)(ha:sigs p.name=some a):z5p s sigs E (p::l) m=(do
 let m1←z7a 1 m
 let t←z2t m1.d.sigs s false x
 let m2←z7a 1 m1
 let m3←z1g false [j4n t (k8i m2.d.sigs a)] m2
 z5p s sigs E l m3):=by rw[z5p,h,ho,ha];rfl
theorem SlE9.one{Y:Nat→Prop}{w:World}{x:DE}{g:Nat}{cs:List Value}(hb:Blk w g 60 cs)(hY:Y g)(hR:RE9 Y w x cs):SlE9 Y w [x] (.slice (some ⟨g,0,none⟩) 1 1):=
 ⟨some ⟨g,0,none⟩,1,rfl,y1j _,fun k hk=>by
  obtain rfl:k=0:=by simp at hk;omega
  exact⟨g,0,cs,rfl,hY,hb.tag,hR.len,by simpa using hb.cells,hR.one,hR⟩⟩
theorem q2e{nm:ByteArray}{x:X}:∀(l:List Bnd) (o:ByteArray→Option X),z7t l o nm=some x→o nm=some x∨∃b,b∈l∧b.x=x
 |[],o,h=>.inl h
 |b::l,o,h=>by
  rcases q2e l (z3h o b.name b.x) h with h|⟨c,hc,e⟩
  ·unfold z3h at h;split at h
   ·injection h with h;exact .inr ⟨b,y1s ..,h⟩
   ·exact .inl h
  ·exact .inr ⟨c,y1r _ hc,e⟩
theorem EnvX.lookW{W0 w:World}{B m:Nat}{env:ByteArray→Option X}(h:EnvX W0 B w m env)(s:ByteArray)(x:X)(hx:env s=some x):
 ∃cs,XOk W0 B x cs∧∀w':World,w'.heap[m]? =w.heap[m]?→(Instr.lookup 205 (.map (some m)) (.string s) false).run Tryz.prog w'=.ok (.agg cs.toArray) w':=by
 obtain⟨L,⟨es,cl,h0,h1⟩,h2,h3⟩:=h;obtain⟨cs,hg,hx⟩:=(h3 s).2 x hx;refine⟨cs,hx,fun w' he=>?_⟩;have:=(show MV w' m L from⟨es,cl,he.trans h0,h1⟩).lookup (et:=40) underlying205 underlying9 (k:=.string s) trivial h2 (z:=.agg zeroXc.toArray) (by kernel_rfl) false;rw[this,hg];rfl
def WJ(D:Rs (DE×Mk))(N0 mb:Nat)(vf vs vp vc:Value)(m:Mk)(W:World)(u:Value)(w:World):Prop:=
 ∃r,D=.ok r∧SlE9 (fun b=>W.heap.size≤b) w [r.1] u∧MkI w N0 mb vf vs vp vc r.2∧FrS mb W w∧CntM m r.2
def WK(D:Rs (DE×Mk))(N0 mb:Nat)(vf vs vp vc:Value)(m:Mk)(W:World)(a hi:Int)(u:Value)(w:World):Prop:=
 ∃v,WJ D N0 mb vf vs vp vc m W v w∧u=.agg #[.int .i64 1,.int .i64 a,.int .i64 hi,.int .i64 0,v,.slice none 0 0]
def WL(D:Rs (DE×Mk))(N0 mb:Nat)(vf vs vp vc:Value)(m:Mk)(W:World)(a hi:Int)(u:Value)(w:World):Prop:=
 ∃r,D=.ok r∧SlT9 (fun b=>W.heap.size≤b) w [.mk 1 a hi 0 [r.1] []] u∧MkI w N0 mb vf vs vp vc r.2∧FrS mb W w∧CntM m r.2
theorem k3z{s inn:Sc}{E:ByteArray→Option X}{p:Prt}{l:List Prt}{m:Mk}(h:p.o=true):q4z s inn E (p::l) m=q4z s inn E l m:=by rw[q4z,if_pos h]
theorem j1t{s inn:Sc}{E:ByteArray→Option X}{p:Prt}{l:List Prt}{m:Mk}(h:p.o=false){a:Int}(ha:inn.sigs p.name=some a){x:X}(hx:E p.name=some x):q4z s inn E (p::l) m=(do
 let m1←z7a 1 m
 let y←z0q s x m1
 let m2←z1g false [.mk 1 a ((z9s m1.d.sigs a).w - 1) 0 [y.1] []] y.2
 q4z s inn E l m2):=by rw[q4z,if_neg (by rw[h];decide),ha,hx];rfl
theorem q5r{W0:World}{B:Nat}{o:Option X}{cl:List Value}(h0:o=none→cl=zeroXc)(h1:∀x,o=some x→XOk W0 B x cl):
 ∃(g0:Int) (g1:ByteArray) (g2 g3 g4:Int) (g5:Value),cl=[.int .i64 g0,.string g1,.int .i64 g2,.int .i64 g3,.int .u64 g4,g5]∧g5.oneCell'=true:=by
 cases o with
 |none=>exact⟨_,_,_,_,_,_,h0 rfl,rfl⟩
 |some x=>
  obtain⟨x5,h2,h3⟩:=RX_iff.1 (h1 x rfl).rx;exact⟨_,_,_,_,_,_,h2,h3.oneCell⟩
theorem k3y(W0:World)(B N0 mb:Nat)(va:Option Addr)(vcap:Nat)(fl:List Mdl)(k:Nat)(t:Itm)(of:Mdl)(hfd:z5z fl t.of=some of)(hVM:VM of)(hMay:j2j of)(hszM:z0x of≤65536)(hvt:VI t)(hmt:MayI t)(hop:t.op=7)
 (hSf:Sl (RM W0 B) W0 B 4 fl (.slice va fl.length vcap)) (hlf:fl.length≤1000000) (hTs:z0i t≤65536)
 (hL:q0w W0 B N0 mb (.slice va fl.length vcap) (z6o fl k) k of.items):k1w W0 B N0 mb (.slice va fl.length vcap) (z6o fl (k+1)) (k+1) t:=by
 intro sb mp m s w cs h hph hR;have H:=Hd h;have HL:=Hd hL;have hSI:=z0r t;obtain⟨hmw,hsw,hpw,hsm,hpm,hps,hNm⟩:=h.mlt;obtain⟨vs,vp,vc,ve,hmk0,hsc0⟩:=h.ex;have HMK:=Hd hmk0;have HSC:=Hd hsc0;have hN0:=h.lo;have hW0w:=h.cx.ext.size;have hBW:=h.cx.hB;obtain⟨v3,v4,v5,v6,v7,v8,rfl,h3,h4,h5,h6,h7,h8⟩:=RI_iff.1 hR;have o3:=h3.oneCell;have o4:=h4.oneCell;have o5:=h5.oneCell;have o6:=h6.oneCell;have o7:=h7.oneCell;have o8:=h8.oneCell;have HX7:=Hd h7;have HX8:=Hd h8;obtain⟨W1,hW1,hx1,hb1'⟩:=z4w w (.pointer (some ⟨sb,0,none⟩)) 100;obtain⟨W2,hW2,hx2,hb2'⟩:=q0y W1 (.int .i64 t.op) (.string t.name) (.string t.of) v3 v4 v5 v6 v7 v8 37;obtain⟨e2,he2⟩:=y1h (W:=W2) (w:=W2) (y1g _);have hV1:=hW1.symm;have hV2:=hW2.symm.trans he2;have s1:w.heap.size<W1.heap.size:=hb1'.lt;have s2:W1.heap.size<W2.heap.size:=hb2'.lt;have BS:=Hd (hb1'.ext hx2);have BX:=Hd hb2';have X2:=Hd (hx1.trans hx2);obtain⟨c0,c1,c2,c3,c4,c5,c6,c7,c8⟩:=hb2'.later9;obtain⟨g0,g1,g2,g3,g4,g5⟩:=(hmk0.blk.ext (hx1.trans hx2)).later6;have KF:=Hd (show∀w',Ext W2 w'→Calls Tryz.prog 33 #[.agg #[.slice va fl.length vcap],.string t.of] w' fun e w''=>∃c0 c1 c2 c3,e=.returned (.tuple #[.agg #[c0,c1,c2,c3],.bool true])∧RM W0 B of [c0,c1,c2,c3]∧Ext w' w'' from fun w' hx=>by
  have hxa:=(h.cx.ext.trans (hx1.trans hx2)).trans hx;refine(j3z B fl t.of w' _ (hSf.extRM hxa hBW) (y1k hBW hxa.size) (by omega)).mono ?_;rintro e w'' ⟨d0,d1,d2,d3,rfl,hrm,hx'⟩;rw[hfd] at hrm⊢;exact⟨d0,d1,d2,d3,rfl,RM.keep (fun p hp=>((hxa.trans hx').cell (by omega)).symm) (y1j _) _ _ hrm,hx'⟩)
 have HD:=Hd (show z6o fl (k+1) t s m=(do
  let z4e←z2w (fun nm=>∃b,b∈of.params∧b.name=nm) 82 (fun x=>z1p s x) t.params (fun _=>none)
  let ends←z2w (fun nm=>∃p,p∈of.ports∧p.name=nm) 81 (fun x=>.ok x) t.binds (fun _=>none)
  let _←z9q ends of.ports
  let h←q4k of z4e (s.path++t.name++tDot) (fun _=>3) m
  let m1←q4z s h.1 ends of.ports h.2
  let z←z1r (z6o fl k) of.items h.1 m1
  z5p s h.1.sigs ends of.ports z.2) by rw[z6o,hfd];rfl)
 obtain⟨R,hRR⟩:∃R,R=z6o fl (k+1) t s m:=⟨_,rfl⟩;rw[←hRR] at HD⊢;have HE2:=Hd he2;rw[hop] at hV2 c0;rw[hop];clear he2 hW1 hW2 hx1 hx2 hb1' hb2' h h3 h4 h5 h6 h7 h8 hR hmk0 hsc0 hL hRR hfd hSf;have hmf:=@hmf_ Tryz.prog;have hmm:=@run_makeMap Tryz.prog;go_enter func111,ntmps111;go_wp2_with fail
 refine z6d (W:=W2) (mdF W2 W0 B of [.pointer (some ⟨mb,0,none⟩),.pointer (some ⟨mb,0,none⟩),.pointer (some ⟨mb,0,none⟩),.agg #[.slice va fl.length vcap],.pointer (some ⟨W1.heap.size,2,none⟩),.string t.of,undef,undef,undef,.bool true,undef,undef,.bool true]) (mdG W2 W0 B of) 11 10 6 (by kernel_rfl) (by kernel_rfl) (by kernel_rfl) (by decide) (by decide) ?_ (y1i e2) (fun i v w w' h hx=>k7e h hx) (fun v w w' h hx=>k7d h hx) ?_ ?_
 ·simp[GuardsMet,mdF]
 ·refine⟨?_,?_,?_,?_,?_,?_,?_,?_,?_,?_,?_,?_,?_,trivial⟩
  ·intro A wa hxa hd h0;obtain⟨ea,rfl⟩:=y1h hxa;have r0:=z0c h0 0 (by kernel_rfl);simp at r0;clear hd h0;go_simp;first|exact⟨_,rfl,y1g _,rfl⟩|exact⟨y1g _,rfl⟩|exact⟨_,rfl,rfl⟩|exact rfl
  ·intro A wa hxa hd h0;obtain⟨ea,rfl⟩:=y1h hxa;have q0:=z0d hd 0 27 (by kernel_rfl) rfl;simp[mdF,mdV] at q0;clear hd h0;go_simp;first|exact⟨_,rfl,y1g _,rfl⟩|exact⟨y1g _,rfl⟩|exact⟨_,rfl,rfl⟩|exact rfl
  ·intro A wa hxa hd h0;obtain⟨ea,rfl⟩:=y1h hxa;have q1:=z0d hd 1 28 (by kernel_rfl) rfl;simp[mdF,mdV] at q1;clear hd h0;go_simp;first|exact⟨_,rfl,y1g _,rfl⟩|exact⟨y1g _,rfl⟩|exact⟨_,rfl,rfl⟩|exact rfl
  ·intro A wa hxa hd h0;obtain⟨ea,rfl⟩:=y1h hxa;have q2:=z0d hd 2 29 (by kernel_rfl) rfl;simp[mdF,mdV] at q2;clear hd h0;go_simp;first|exact⟨_,rfl,y1g _,rfl⟩|exact⟨y1g _,rfl⟩|exact⟨_,rfl,rfl⟩|exact rfl
  ·intro A wa hxa hd h0;obtain⟨ea,rfl⟩:=y1h hxa;have r5:=z0c h0 5 (by kernel_rfl);simp at r5;clear hd h0;go_simp;first|exact⟨_,rfl,y1g _,rfl⟩|exact⟨y1g _,rfl⟩|exact⟨_,rfl,rfl⟩|exact rfl
  ·intro A wa hxa hd h0;obtain⟨ea,rfl⟩:=y1h hxa;have q4:=z0d hd 4 31 (by kernel_rfl) rfl;simp[mdF,mdV] at q4;clear hd h0;go_simp;first|exact⟨_,rfl,y1g _,rfl⟩|exact⟨y1g _,rfl⟩|exact⟨_,rfl,rfl⟩|exact rfl
  ·intro A wa hxa hd h0;obtain⟨ea,rfl⟩:=y1h hxa;have q3:=z0d hd 3 30 (by kernel_rfl) rfl;simp[mdF,mdV] at q3;have q5:=z0d hd 5 32 (by kernel_rfl) rfl;simp[mdF,mdV] at q5;clear hd h0;go_simp;refine(KF.o ea.w ea.ext).mono ?_;rintro e wk ⟨a0,a1,a2,a3,rfl,hrm,hx⟩;have HRM:=Hd hrm;clear hrm;go_simp;first|exact⟨_,rfl,hx,_,_,_,_,rfl,HRM.o⟩|exact⟨hx,_,_,_,_,rfl,HRM.o⟩|exact⟨_,rfl,_,_,_,_,rfl,HRM.o⟩
  ·intro A wa hxa hd h0;obtain⟨ea,rfl⟩:=y1h hxa;obtain⟨a0,a1,a2,a3,q6,hrm⟩:=z0d hd 6 33 (by kernel_rfl) rfl;simp at q6;clear hd h0;have HRM:=Hd hrm;clear hrm;go_simp;first|exact⟨_,rfl,y1g _,_,_,_,_,rfl,HRM.o⟩|exact⟨y1g _,_,_,_,_,rfl,HRM.o⟩|exact⟨_,rfl,_,_,_,_,rfl,HRM.o⟩|exact⟨_,_,_,_,rfl,HRM.o⟩
  ·intro A wa hxa hd h0;obtain⟨ea,rfl⟩:=y1h hxa;obtain⟨a0,a1,a2,a3,q7,hrm⟩:=z0d hd 7 26 (by kernel_rfl) rfl;simp at q7;clear hd h0;have HRM:=Hd hrm;clear hrm;go_simp;first|exact⟨_,rfl,y1g _,_,_,_,_,rfl,HRM.o⟩|exact⟨y1g _,_,_,_,_,rfl,HRM.o⟩|exact⟨_,rfl,_,_,_,_,rfl,HRM.o⟩|exact⟨_,_,_,_,rfl,HRM.o⟩
  ·intro A wa hxa hd h0;obtain⟨ea,rfl⟩:=y1h hxa;obtain⟨a0,a1,a2,a3,q7,hrm⟩:=z0d hd 7 26 (by kernel_rfl) rfl;simp at q7;clear hd h0;go_simp;first|exact⟨_,rfl,y1g _,rfl⟩|exact⟨y1g _,rfl⟩|exact⟨_,rfl,rfl⟩|exact rfl
  ·intro A wa hxa hd h0;obtain⟨ea,rfl⟩:=y1h hxa;clear hd h0;obtain⟨W4,hW4,hx4,hb4⟩:=q2d ea.w (.string ⟨#[]⟩) (.slice none 0 0) (.slice none 0 0) (.slice none 0 0) 30;have hV4:=hW4.symm;have HG:=Hd (y1x hx4 hb4);have HZ:=Hd ea.ext.size;clear hW4 hx4 hb4;go_simp;exact⟨_,rfl,HG.o.1,_,_,_,_,_,rfl,HZ.o,HG.o.2⟩
  ·intro A wa hxa hd h0;obtain⟨ea,rfl⟩:=y1h hxa;obtain⟨g,d0,d1,d2,d3,q10,hge,hbk⟩:=z0d hd 10 6 (by kernel_rfl) rfl;simp at q10;obtain⟨a0,a1,a2,a3,q8,hrm⟩:=z0d hd 8 34 (by kernel_rfl) rfl;simp at q8;clear hd h0;obtain⟨z0,z1,z2,z3⟩:=hbk.get4;obtain⟨f0,f1,f2,f3⟩:=hbk.free4;have hrm':=hrm;obtain⟨v1',v2',v3',hcs,hp1,hq1,hi1⟩:=hrm';simp only[List.cons.injEq,and_true] at hcs;obtain⟨rfl,rfl,rfl,rfl⟩:=hcs;have o1:=hp1.oneCell;have o2:=hq1.oneCell;have o3:=hi1.oneCell;clear hp1 hq1 hi1;have HG:=Hd (y1x hge (y1x hbk hrm));clear hge hbk hrm;go_simp;exact⟨j2a ea.ext HG.o.1 _ _ _ _,fun j u h=>j9b _ _ _ _ h,_,_,_,_,_,rfl,HG.o.1,HG.o.2.1.store4 _ _ _ _,HG.o.2.2⟩
  ·intro A wa hxa hd h0;obtain⟨ea,rfl⟩:=y1h hxa;have q9:=z0d hd 9 35 (by kernel_rfl) rfl;simp[mdF,mdV] at q9;clear hd h0;go_simp;first|exact⟨_,rfl,y1g _,rfl⟩|exact⟨y1g _,rfl⟩|exact⟨_,rfl,rfl⟩|exact rfl
 ·intro A wa hk hG;obtain⟨f9,rfl,hxa,hdn,hrs⟩:=(KnownR.mk (R:=Ext) hk.ext hk.size hk.defers hk.done hk.rest).fin (n:=184) rfl;obtain⟨ea,rfl⟩:=y1h hxa;obtain⟨og,a0,a1,a2,a3,k6,hog,hbo,hrm⟩:=hG;simp at k6;have k7:f9 7=.bool true:=hdn 12 7 rfl rfl;have k0:=hrs 0 (by kernel_rfl);simp at k0;have k1:=hrs 1 (by kernel_rfl);simp at k1;have k2:=hrs 2 (by kernel_rfl);simp at k2;have k3:=hrs 3 (by kernel_rfl);simp at k3;have k4:=hrs 4 (by kernel_rfl);simp at k4;have k5:=hrs 5 (by kernel_rfl);simp at k5;clear hdn hrs;simp only[List.drop_succ_cons,List.drop_zero];simp[List.range,List.range.loop,k6,k7,k0,k1,k2,k3,k4,k5];clear k6 k7 k0 k1 k2 k3 k4 k5;obtain⟨va1,va2,va3,hcs,hp1,hp2,hp3⟩:=hrm;simp only[List.cons.injEq,and_true] at hcs;obtain⟨rfl,rfl,rfl,rfl⟩:=hcs;have oa1:=hp1.oneCell;have oa2:=hp2.oneCell;have oa3:=hp3.oneCell;have HP1:=Hd hp1;have HP2:=Hd hp2;have HP3:=Hd hp3;obtain⟨W3,hW3⟩:∃W3,W3=ea.w:=⟨_,rfl⟩;have hb3:=hW3▸hbo;have hx3:Ext W2 W3:=hW3▸ea.ext;rw[←hW3];have X3:=Hd (X2.o.trans hx3);have BO:=Hd hb3;have BX3:=Hd (BX.o.ext hx3);have BS3:=Hd (BS.o.ext hx3);have s3:og<W3.heap.size:=hb3.lt;have s23:W2.heap.size≤W3.heap.size:=hx3.size;clear hbo hW3 hx3 hp1 hp2 hp3 c0 c1 c2 c3 c4 c5 c6 c7 c8 g0 g1 g2 g3 g4 g5 KF;obtain⟨W4,hW4⟩:∃W4,W4=W3.alloc (.map #[] 0):=⟨_,rfl⟩;have hV4:=hW4.symm;have hx4:Ext W3 W4:=by rw[hW4];exact y1v _ _
  have hm4:EnvM W4 W3.heap.size (fun _=>none):=by rw[hW4];exact EnvM.new _
  obtain⟨W5,hW5,hx5,hb5⟩:=z4w W4 (.map (some W3.heap.size)) 93;obtain⟨e5,he5⟩:=y1h (W:=W5) (w:=W5) (y1g _);have hV5:=hW5.symm.trans he5;have s4:W3.heap.size<W4.heap.size:=hm4.lt;have s5:W4.heap.size<W5.heap.size:=hb5.lt;have HM5:=Hd (hm4.ext hx5);have BT:=Hd hb5;have X5:=Hd (X3.o.trans (hx4.trans hx5));have BO5:=Hd (BO.o.ext (hx4.trans hx5));have BX5:=Hd (BX3.o.ext (hx4.trans hx5));have BS5:=Hd (BS3.o.ext (hx4.trans hx5));obtain⟨c0,c1,c2,c3,c4,c5,c6,c7,c8⟩:=BX5.o.later9;obtain⟨g0,g1,g2,g3⟩:=BO5.o.later4;have KH:=Hd (fun w'=>q2o (.string of.name) a1 a2 a3 rfl oa1 oa2 oa3 w');clear hW4 hx4 hm4 hW5 hx5 hb5 he5 hb3;go_wp2_with fail
  refine z0m 5 (W:=W5) (Ext) (hpF W5 [.string of.name,a1,a2,a3] [.pointer (some ⟨W1.heap.size,7,none⟩),v7,.agg #[.string of.name,a1,a2,a3],undef,.func (.func 152) #[] #[.pointer (some ⟨w.heap.size,0,none⟩),.pointer (some ⟨W4.heap.size,0,none⟩)]]) (fun _ _=>False) (fun _=>true) (by kernel_rfl) (z0s) (by kernel_rfl) (by kernel_rfl) ?_ (y1i e5) (fun i v w w' h hx=>k7t h hx) ?_ (fun A ch w hd hp=>hp.elim) ?_
  ·exact⟨rfl,rfl,rfl,rfl,rfl,trivial⟩
  ·refine⟨?_,?_,?_,?_,?_,trivial⟩;rotate_left 3
   ·intro A wa hxa hd h0;obtain⟨ea,rfl⟩:=y1h hxa;have q2:=z0d hd 2 39 (by kernel_rfl) rfl;simp[hpF] at q2;clear hd h0;go_simp;refine(KH.o ea.w).mono ?_;rintro _ wk ⟨rfl,hbk,hx⟩;have HBK:=Hd hbk;have HZ:=Hd ea.ext.size;clear hbk;go_simp;first|exact⟨_,rfl,hx,_,rfl,HZ.o,HBK.o⟩|exact⟨hx,_,rfl,HZ.o,HBK.o⟩|exact⟨_,rfl,_,rfl,HZ.o,HBK.o⟩
   all_goals
    intro A wa hxa hd h0;obtain⟨ea,rfl⟩:=y1h hxa;try (have q0:=z0d hd 0 37 (by decide) rfl;simp[hpF] at q0)
    have r4:=z0c h0 4 (by kernel_rfl);simp at r4;have r8:=z0c h0 8 (by kernel_rfl);simp at r8;have r5:=z0c h0 5 (by kernel_rfl);simp at r5;have r6:=z0c h0 6 (by kernel_rfl);simp at r6;clear hd h0;go_simp;first|exact⟨_,rfl,y1g _,rfl⟩|exact⟨y1g _,rfl⟩|exact rfl|exact⟨_,rfl,rfl⟩|exact y1g _
  ·intro A wa hk;obtain⟨f,rfl,hxa,hdn,hrs⟩:=hk.fin (n:=184) rfl;obtain⟨ea,rfl⟩:=y1h hxa;have k0:=hrs 0 (by kernel_rfl);have k1:=hrs 1 (by kernel_rfl);have k2:=hrs 2 (by kernel_rfl);have k3:=hrs 3 (by kernel_rfl);have k4:=hrs 4 (by kernel_rfl);have k5:=hrs 5 (by kernel_rfl);have k6:=hrs 6 (by kernel_rfl);have k7:=hrs 7 (by kernel_rfl);have k8:=hrs 8 (by kernel_rfl);have k38:f 38=v7:=hdn 1 38 rfl rfl;have k41:f 41=.func (.func 152) #[] #[.pointer (some ⟨w.heap.size,0,none⟩),.pointer (some ⟨W4.heap.size,0,none⟩)]:=hdn 4 41 rfl rfl;obtain⟨hg,k40,hhg,hbh⟩:=hdn 3 40 rfl rfl;clear hdn hrs;simp at k0 k1 k2 k3 k4 k5 k6 k7 k8;simp only[List.drop_succ_cons,List.drop_zero];simp[List.range,List.range.loop,k0,k1,k2,k3,k4,k5,k6,k7,k8,k38,k41,k40];clear k0 k1 k2 k3 k4 k5 k6 k7 k8 k38 k41 k40;obtain⟨W6,hW6⟩:∃W6,W6=ea.w:=⟨_,rfl⟩;have hx6:Ext W5 W6:=hW6▸ea.ext;have BH6:=Hd (show Blk W6 hg 30 [.string of.name,a1,a2,a3] from hW6▸hbh);rw[←hW6];have X6:=Hd (X5.o.trans hx6);have HM6:=Hd (HM5.o.ext hx6);have BT6:=Hd (BT.o.ext hx6);have BO6:=Hd (BO5.o.ext hx6);have BX6:=Hd (BX5.o.ext hx6);have BS6:=Hd (BS5.o.ext hx6);have s6:W5.heap.size≤W6.heap.size:=hx6.size;have HE6:=Hd (H.o.ext X6.o);have hsB:=z0g z1c;have htm0:w.heap.size≤W3.heap.size:=X3.o.size;have htm1:W3.heap.size<W6.heap.size:=by omega
   have hmp6:¬mp=W3.heap.size:=by omega
   have hXt:=Hd (show∀b,b∈t.params→∀c,RX W0 B b.x c→XOk W0 B b.x c from fun b hb c hc=>⟨hc,by
    have h1:=z0g z1c t.params b hb;have h2:z1c b=1+z0l b.x:=rfl;omega,((VI_iff.1 hvt).2.2.2.2.2.2.1 b hb).2⟩)
   have KB:=Hd (j0m (α:=Int) W0 B (fun nm=>∃b,b∈of.params∧b.name=nm) 68 152 #[.pointer (some ⟨hg,0,none⟩)] #[.pointer (some ⟨w.heap.size,0,none⟩),.pointer (some ⟨W4.heap.size,0,none⟩)] j6h q9o 82 (by decide) (fun x=>z1p s x) (fun b=>b=W3.heap.size) (fun o w'=>EnvM w' W3.heap.size o) W6 t.params v7 HX7.o
    (by have:=z0b z1c t.params z1z;omega) HE6.o.cx.ext hBW (fun b hb=>by have:b=W3.heap.size:=hb;omega) hXt.o
    (fun o a b hj hc=>hj.of_eq (hc.block _ hj.lt (fun hx=>absurd (show W6.heap.size≤W3.heap.size from hx) (by omega))))
    (fun nm w' hc=>by
      have hb:=BH6.o.tags (z7c HM6.o hc);have hxa:Ext W0 w':=hc.ext HE6.o.cx.ext (fun k hk=>by have:k=W3.heap.size:=hk;omega);exact q8z B of.params a1 nm hg w' (hb.cell 1) (HP1.o.extRB hxa hBW) (y1k hBW hxa.size) (by have:=z0b z1c of.params z1z;unfold z0x at hszM;omega) hb.lt)
    (fun b hb o w' cs hc hj hrb=>by
      have ht:=z7c HM6.o hc;have hxa:Ext W0 w':=hc.ext HE6.o.cx.ext (fun k hk=>by have:k=W3.heap.size:=hk;omega);refine(j7k W0 B sb mp W3.heap.size w.heap.size W4.heap.size ve s b cs o w' ⟨HE6.o.cx.tabs,hBW,hxa⟩ ((HSC.o.ext X6.o).tags ht (hc.block mp (y1m hpw X6.o.size) hmp6)) H.o.gd.env (BS6.o.tags ht) (BT6.o.tags ht) hj hrb (hXt.o b hb)).mono ?_;rintro e w'' (⟨v,u,h1,rfl,h2,h3,h4⟩|⟨c,h1,rfl,h2⟩)
      ·exact .ok h1 ⟨h2,h3,h4⟩
      ·exact .no h1 h2)
    HM6.o)
   clear c0 c1 c2 c3 c4 c5 c6 c7 c8 g0 g1 g2 g3 KH hx6 hW6 hbh hsB;go_wp2_with fail
   go_at_call 151;refine KB.o.mono ?_;rintro e w7 (⟨z4e,u,hr,rfl,em,rfl,hem,hxm,hj,hch⟩|⟨c,hr,rfl,hch⟩);rotate_left
   ·exact⟨rfl,.no (by rw[HD.o,hr];rfl) ((y1z X6.o).after hch (fun k hk=>by have:k=W3.heap.size:=hk;omega))⟩
   have HR7:=Hd hr;have HTOLD:=Hd hj;have hIN:=Hd (j4m (P:=z1j) (fun x v h=>q0o h) t.params _ z4e (fun nm v h=>by cases h) hr);have ht7:=z7c HM6.o hch;have hxa7:Ext W0 w7:=hch.ext HE6.o.cx.ext (fun k hk=>by have:k=W3.heap.size:=hk;omega);have HE7:=Hd (HE6.o.tags ht7 (hch.block mp (y1m hpw X6.o.size) hmp6) hxa7);have BO7:=Hd (BO6.o.tags ht7);have BX7:=Hd (BX6.o.tags ht7);have BS7:=Hd (BS6.o.tags ht7);have BT7:=Hd (BT6.o.tags ht7);have F7:=Hd ((y1z (N0:=N0) (mb:=mb) (sb:=sb) (mp:=mp) X6.o).after hch (fun k hk=>by have:k=W3.heap.size:=hk;omega));have s7:W6.heap.size≤w7.heap.size:=hch.size;clear hr hem hxm hj hch ht7 KB;obtain⟨c0,c1,c2,c3,c4,c5,c6,c7,c8⟩:=BX7.o.get9;have hXb:=Hd (show∀b,b∈t.binds→∀c,RX W0 B b.x c→XOk W0 B b.x c from fun b hb c hc=>⟨hc,by
    have h1:=z0g z1c t.binds b hb;have h2:z1c b=1+z0l b.x:=rfl;omega,((VI_iff.1 hvt).2.2.2.2.2.2.2 b hb).2⟩)
   have KB:=Hd (j0m (α:=X) W0 B (fun nm=>∃p,p∈of.ports∧p.name=nm) 153 156 #[.pointer (some ⟨og,0,none⟩)] #[] j6g j2g 81 (by decide) (fun x=>.ok x) (fun _=>False) (fun _ _=>True) w7 t.binds v8 HX8.o
    (by have:=z0b z1c t.binds z1z;omega) hxa7 hBW (fun b hb=>hb.elim) hXb.o (fun _ _ _ _ _=>trivial)
    (fun nm w' hc=>by
      have hx:Ext w7 w':=hc.ext (y1g _) (fun k hk=>hk.elim);have hb:=BO7.o.ext hx;exact j9h B of.ports a2 nm og w' (hb.cell 2) (HP2.o.extRP (hxa7.trans hx) hBW) (y1k hBW (hxa7.trans hx).size) (by have:=z0b z3k of.ports (fun p=>by unfold z3k;omega);unfold z0x at hszM;omega) hb.lt)
    (fun b hb o w' cs hc hj hrb=>by
      refine(k0z B b w' cs (RB.keep (fun p hp=>(hc.ext hxa7 (fun k hk=>hk.elim)).cell (by omega)) (y1j _) b cs hrb)).mono ?_;rintro e w'' ⟨rfl,hx⟩;exact .ok rfl ⟨rfl,trivial,hx.chg⟩)
    trivial)
   go_wp2_with fail
   go_at_call 151;refine KB.o.mono ?_;rintro e w8 (⟨E,u,hr,rfl,ep,rfl,hep,hxm,-,hch⟩|⟨c,hr,rfl,hch⟩);rotate_left
   ·exact⟨rfl,.no (by rw[HD.o,HR7.o];simp only[bind,Except.bind];rw[hr]) (F7.o.after hch (fun k hk=>hk.elim))⟩
   have hE:E=z7t t.binds (fun _=>none):=j0k _ _ _ hr;rw[←hE] at hxm;have HEQ:=Hd hE;have hx8:Ext w7 w8:=hch.ext (y1g _) (fun k hk=>hk.elim);have HXM:=Hd hxm;have hep8:ep<w8.heap.size:=hxm.lt;have HE8:=Hd (HE7.o.ext hx8);have HT8:=Hd (HTOLD.o.ext hx8);have BO8:=Hd (BO7.o.ext hx8);have BX8:=Hd (BX7.o.ext hx8);have BS8:=Hd (BS7.o.ext hx8);have BT8:=Hd (BT7.o.ext hx8);have F8:=Hd (F7.o.trans (.of_ext hx8));have s8:w7.heap.size≤w8.heap.size:=hx8.size
   obtain⟨R2,hR2⟩:∃R2,R2=(do
    let h←q4k of z4e (s.path++t.name++tDot) (fun _=>3) m
    let m1←q4z s h.1 E of.ports h.2
    let z←z1r (z6o fl k) of.items h.1 m1
    z5p s h.1.sigs E of.ports z.2:Rs Mk):=⟨_,rfl⟩
   have HR2:=Hd hR2;have HZ0:=Hd (show R=(do let _←z9q E (of.ports.drop 0);R2) by rw[HD.o,HR7.o];simp only[bind,Except.bind];rw[hr,hR2];rfl);clear hr hxm hch hx8 KB hR2 c0 c1 c2 c3 c4 c5 c6 c7 c8 HD hE;obtain⟨g0,g1,g2,g3⟩:=BO8.o.get4;obtain⟨qa,qc,rfl,hqc,hqr⟩:=HP2.o;have HQR:=Hd hqr;have hlq:of.ports.length≤65536:=by have:=z0b z3k of.ports (fun p=>by unfold z3k;omega);unfold z0x at hszM;omega
   clear hqr;go_wp2_with fail
   go_loopw [51] (fun i wr=>∃k1:Nat,k1≤of.ports.length∧i=.int .i64 k1∧Ext w8 wr∧(∀p,p∈of.ports.take k1→(E p.name).isSome=true∨p.o=true)∧R=(do let _←z9q E (of.ports.drop k1);R2)) (fun i _=>of.ports.length - (intOf i).toNat)
   case atStart=>exact⟨0,y1p _,rfl,y1g _,(fun p hp=>by simp at hp),HZ0.o⟩
   case round=>
    obtain⟨k1,hk1,rfl,hx9,hps9,hR⟩:=hrel;have HPS:=Hd hps9;clear hps9;clear HZ0 g0 g1 g2 g3;have HX9:=Hd hx9;by_cases hlt:k1<of.ports.length
    ·rw[List.drop_eq_getElem_cons hlt] at hR;obtain⟨b,o,cs,hsa,hbw,hcl,hC,ho1,hRP⟩:=HQR.o _ hlt;subst hsa;obtain⟨c,rfl,hRX⟩:=hRP;obtain⟨x5,rfl,h5⟩:=RX_iff.1 hRX;have o5:=h5.oneCell;obtain⟨d0,d1,d2,d3,d4,d5,d6,d7⟩:=(hC.ext (HE8.o.cx.ext.trans hx9)).get8;obtain⟨V1,hV1',hy1,hbb1⟩:=q7r wr (.string of.ports[k1].name) (.bool of.ports[k1].o) (.int .i64 of.ports[k1].w.op) (.string of.ports[k1].w.name) (.int .i64 of.ports[k1].w.n) (.int .i64 of.ports[k1].w.w) (.int .u64 of.ports[k1].w.v) x5 42;have hW4':=hV1'.symm;obtain⟨p0,p1,p2,p3,p4,p5,p6,p7⟩:=hbb1.get8;obtain⟨cl,hlk,hl0,hl1⟩:=(HXM.o.ext (hx9.trans hy1)).look of.ports[k1].name true;simp only[if_true] at hlk;obtain⟨q0,q1,q2,q3,q4,q5,rfl,oq⟩:=q5r hl0 hl1;obtain⟨V2,hV2',hy2,hbb2⟩:=z6v V1 (.int .i64 q0) (.string q1) (.int .i64 q2) (.int .i64 q3) (.int .u64 q4) q5 40;have hW5':=hV2'.symm;obtain⟨r0,r1,r2,r3,r4,r5,r6,r7⟩:=(hbb1.ext hy2).get8;have HX10:=Hd (hx9.trans (hy1.trans hy2));have U1:=Hd (fun w'=>z1q 81 w');have U2:=Hd (fun w'=>z2h 81 (by decide) w');have HRR:=Hd hR;have HTK:=Hd (List.take_succ_eq_append_getElem hlt);generalize of.ports[k1]=p at*;obtain⟨ib,hib⟩:∃ib,ib=(E p.name).isSome:=⟨_,rfl⟩;obtain⟨ob,hob⟩:∃ob,ob=p.o:=⟨_,rfl⟩;rw[←hib] at hlk;rw[←hob] at p1 r1 d1 hW4';have HIO:=Hd (y1x hib hob);clear hR hC hRX h5 ho1 hV1' hy1 hbb1 hl0 hl1 hV2' hy2 hbb2 hx9 hib hob;cases ib with
     |true=>
      have HN:=Hd (show R=(do let _←z9q E (of.ports.drop (k1+1));R2) by rw[HRR.o,q9y (.inl HIO.o.1.symm)]);have HNP:=Hd (show∀p,p∈of.ports.take (k1+1)→(E p.name).isSome=true∨p.o=true from fun q hq=>by
       rw[HTK.o] at hq;rcases y2e.1 hq with hq|hq
       ·exact HPS.o q hq
       ·rw[List.mem_singleton.1 hq];exact .inl HIO.o.1.symm)
      go_wp2_with fail
      go_at_call 35;refine(U1.o _).mono ?_;rintro _ w9 ⟨rfl,rfl⟩;go_wp2_with fail
      go_roundw;case rel=>exact⟨k1+1,by omega,by go_num,HX10.o,HNP.o,HN.o⟩
      case measure=>simp[intOf];omega
     |false=>
      cases ob with
      |true=>
       have HN:=Hd (show R=(do let _←z9q E (of.ports.drop (k1+1));R2) by rw[HRR.o,q9y (.inr HIO.o.2.symm)]);have HNP:=Hd (show∀p,p∈of.ports.take (k1+1)→(E p.name).isSome=true∨p.o=true from fun q hq=>by
        rw[HTK.o] at hq;rcases y2e.1 hq with hq|hq
        ·exact HPS.o q hq
        ·rw[List.mem_singleton.1 hq];exact .inr HIO.o.2.symm)
       go_wp2_with fail
       go_at_call 35;refine(U1.o _).mono ?_;rintro _ w9 ⟨rfl,rfl⟩;go_wp2_with fail
       go_roundw;case rel=>exact⟨k1+1,by omega,by go_num,HX10.o,HNP.o,HN.o⟩
       case measure=>simp[intOf];omega
      |false=>
       have HN:=Hd (show R=.error 81 by rw[HRR.o,k4m (fun h=>by rw[←HIO.o.1,←HIO.o.2] at h;rcases h with h|h<;>cases h)];rfl);go_wp2_with fail
       go_at_call 35;refine(U2.o _).mono ?_;rintro _ w9 ⟨rfl,rfl⟩;exact⟨rfl,.no HN.o (F8.o.trans (.of_ext HX10.o))⟩
    ·have hkl:k1=of.ports.length:=by omega
     subst hkl;have HRR:=Hd (show R=R2 by rw[hR,List.drop_length];rfl);have HEN:=Hd (show∀p,p∈of.ports→(E p.name).isSome=true∨p.o=true from fun p hp=>HPS.o p (by rw[List.take_length];exact hp));clear hR hx9 hk1 hlt;obtain⟨vs8,vp8,vc8,ve8,hmk8,hsc8⟩:=HE8.o.ex;have hxw:=HX9.o;obtain⟨i0,i1,i2,i3⟩:=(BO8.o.ext hxw).later4;obtain⟨j0,j1,j2,j3,j4,j5,j6,j7,j8⟩:=(BX8.o.ext hxw).later9;have l0:=cellAt ((BS8.o.ext hxw).cell 0);have l1:=cellAt ((BT8.o.ext hxw).cell 0);obtain⟨m0,m1,m2⟩:=(hsc8.blk.ext hxw).later3;have hnm7:t.name.size≤64:=(j3y hmt (by omega)).2.1;have n1:¬(9223372036854775807<s.path.size+t.name.size):=by omega
     have n2:¬(9223372036854775807<s.path.size+t.name.size+1):=by omega
     have fo1:∀u:ByteArray,u++(⟨#[46]⟩:ByteArray)=u++tDot:=fun _=>rfl
     have fz1:tDot.size=1:=rfl;have HMK8:=Hd hmk8;have HSC8:=Hd hsc8;clear hmk8 hsc8;go_wp2_with fail
     refine z0m 11 (W:=wr) (Ext) (eqG [.pointer (some ⟨mb,0,none⟩),.agg #[.string of.name,a1,.slice qa of.ports.length qc,a3],.map (some W3.heap.size),.pointer (some ⟨sb,0,none⟩),.pointer (some ⟨sb,0,none⟩),.pointer (some ⟨sb,2,none⟩),.string s.path,.pointer (some ⟨W1.heap.size,1,none⟩),.string t.name,.string (s.path++t.name),.string (s.path++t.name++tDot)]) (fun _ _=>False) (fun _=>true) (by kernel_rfl) (z0s) (by kernel_rfl) (by kernel_rfl) ?_ (y1g _) (fun i v w w' h hx=>z7l h hx) ?_ (fun A ch w hd hp=>hp.elim) ?_
     ·exact⟨rfl,rfl,rfl,rfl,rfl,rfl,rfl,rfl,rfl,rfl,rfl,trivial⟩
     ·refine⟨?_,?_,?_,?_,?_,?_,?_,?_,?_,?_,?_,trivial⟩
      all_goals
       intro A wa hxa hd h0;obtain⟨ea,rfl⟩:=y1h hxa;try (have q3:=z0d hd 3 72 (by decide) rfl;simp[eqG] at q3)
       try (have q4:=z0d hd 4 73 (by decide) rfl;simp[eqG] at q4)
       try (have q5:=z0d hd 5 74 (by decide) rfl;simp[eqG] at q5)
       try (have q7:=z0d hd 7 76 (by decide) rfl;simp[eqG] at q7)
       try (have q6:=z0d hd 6 75 (by decide) rfl;simp[eqG] at q6)
       try (have q8:=z0d hd 8 77 (by decide) rfl;simp[eqG] at q8)
       try (have q9:=z0d hd 9 78 (by decide) rfl;simp[eqG] at q9)
       have r0:=z0c h0 0 (by kernel_rfl);simp at r0;have r6:=z0c h0 6 (by kernel_rfl);simp at r6;have r8:=z0c h0 8 (by kernel_rfl);simp at r8;have r4:=z0c h0 4 (by kernel_rfl);simp at r4;have r5:=z0c h0 5 (by kernel_rfl);simp at r5;clear hd h0;go_simp;first|exact⟨_,rfl,y1g _,rfl⟩|exact⟨y1g _,rfl⟩|exact rfl|exact⟨_,rfl,rfl⟩|exact y1g _
     ·intro A wa hk;obtain⟨f,rfl,hxa,hdn,hrs⟩:=hk.fin (n:=184) rfl;obtain⟨ea,rfl⟩:=y1h hxa;have k0:=hrs 0 (by kernel_rfl);have k1:=hrs 1 (by kernel_rfl);have k2:=hrs 2 (by kernel_rfl);have k3:=hrs 3 (by kernel_rfl);have k4:=hrs 4 (by kernel_rfl);have k5:=hrs 5 (by kernel_rfl);have k6:=hrs 6 (by kernel_rfl);have k7:=hrs 7 (by kernel_rfl);have k8:=hrs 8 (by kernel_rfl);have k9:=hrs 9 (by kernel_rfl);have k10:=hrs 10 (by kernel_rfl);have k69:f 69=.pointer (some ⟨mb,0,none⟩):=hdn 0 69 rfl rfl;have k70:f 70=.agg #[.string of.name,a1,.slice qa of.ports.length qc,a3]:=hdn 1 70 rfl rfl;have k71:f 71=.map (some W3.heap.size):=hdn 2 71 rfl rfl;have k79:f 79=.string (s.path++t.name++tDot):=hdn 10 79 rfl rfl;clear hdn hrs;simp at k0 k1 k2 k3 k4 k5 k6 k7 k8 k9 k10;simp only[List.drop_succ_cons,List.drop_zero];simp[List.range,List.range.loop,k0,k1,k2,k3,k4,k5,k6,k7,k8,k9,k10,k69,k70,k71,k79];clear k0 k1 k2 k3 k4 k5 k6 k7 k8 k9 k10 k69 k70 k71 k79;have HW9:=Hd (HX9.o.trans ea.ext);have s9:w8.heap.size≤ea.w.heap.size:=HW9.o.size
      have KH:=Hd (j3v W0 B N0 mb sb mp W3.heap.size (.slice va fl.length vcap) vs8 vp8 vc8 of [.string of.name,a1,.slice qa of.ports.length qc,a3] z4e (s.path++t.name++tDot) 157 q9q (fun _=>3) m ea.w
       (HE8.o.cx.later HW9.o) HE8.o.tab (HMK8.o.ext HW9.o) HE8.o.inv HE8.o.gd.w HE8.o.lo (HT8.o.ext HW9.o) hIN.o ⟨a1,.slice qa of.ports.length qc,a3,rfl,HP1.o,HP2.o,HP3.o⟩ (fun p w' c hx hr=>j9i B p w' c (hr.ext hx hBW))
       (fun b hb c hc=>⟨hc,by have h1:=z0g z1c of.params b hb;have h2:z1c b=1+z0l b.x:=rfl;unfold z0x at hszM;omega,(hVM.2.1 b hb).2⟩)
       (fun p hp c hc=>⟨hc,by have h1:=z0g z3k of.ports p hp;have h2:z3k p=1+z0l p.w:=rfl;unfold z0x at hszM;omega,(hVM.2.2.1 p hp).2⟩)
       (by have:=z0b z1c of.params z1z;unfold z0x at hszM;omega) (by omega) (fun p hp=>by have:=(hMay.2.2.1 p hp).1.2.1;omega)
       (by rw[ByteArray.size_append,ByteArray.size_append];omega))
      clear i0 i1 i2 i3 j0 j1 j2 j3 j4 j5 j6 j7 j8 l0 l1 m0 m1 m2 hxw n1 n2 fo1 fz1;go_wp2_with fail
      go_at_call 37;refine KH.o.mono ?_;rintro e w10 (⟨hh,u,hr,rfl,nb,ng,rfl,hnb,hng,hec,hfr,hpa,hel⟩|⟨c,hr,rfl,hfr⟩);rotate_left
      ·exact⟨rfl,.no (by rw[HRR.o,HR2.o,hr];rfl) ((F8.o.trans (.of_ext HW9.o)).trans hfr)⟩
      have HHH:=Hd (q9h hr);obtain⟨hq,hhd⟩:∃q,q=hh:=⟨_,rfl⟩;have hfq:FrQ N0 mb ea.w w10:=hfr;have HFQ:=Hd hfq;have HEI:=Hd hec;have HPA:=Hd (y1x hpa hel);obtain⟨us,up,uc,ue,hk10,hs10⟩:=hec.ex;have HEO:=Hd (hfq.ec (HE8.o.ext HW9.o) hk10 (HE8.o.gd.more HHH.o.1 hec.gd.w) hec.inv);have hogm:og≠mb:=by omega
      have hepm:ep≠mb:=by omega
      have hgs1:w.heap.size≠mb:=by omega
      have hgs2:W1.heap.size≠mb:=by omega
      have BO10:=Hd (hfq.blk (BO8.o.ext HW9.o) ⟨by decide,by decide,by decide⟩ hogm);have BS10:=Hd (hfq.blk (BS8.o.ext HW9.o) ⟨by decide,by decide,by decide⟩ hgs1);have HXM10:=Hd (hfq.envX (HXM.o.ext HW9.o) hepm);have F10:=Hd ((F8.o.trans (.of_ext HW9.o)).trans (hfq sb mp));have s10:ea.w.heap.size≤w10.heap.size:=hfq.size
      obtain⟨R3,hR3⟩:∃R3:Mk→Rs Mk,R3=fun m1=>(do
       let z←z1r (z6o fl k) of.items hh.1 m1
       z5p s hh.1.sigs E of.ports z.2:Rs Mk):=⟨_,rfl⟩
      have HR3:=Hd hR3;have HZ1:=Hd (show R=(do let m1←q4z s hh.1 E (of.ports.drop 0) hh.2;R3 m1) by rw[HRR.o,HR2.o,hr,hR3];rfl);clear hr hfr hec hpa hel hfq hk10 hs10 hR3 KH hq hhd;obtain⟨i0,i1,i2,i3⟩:=BO10.o.get4;go_wp2_with fail
      go_loopw [84] (fun i wr=>∃(k2:Nat) (m2:Mk),k2≤of.ports.length∧i=.int .i64 k2∧EC W0 B N0 mb sb mp (.slice va fl.length vcap) m2 s wr∧EC W0 B N0 mb nb ng (.slice va fl.length vcap) m2 hh.1 wr∧FrQ N0 mb w10 wr∧R=(do let m1←q4z s hh.1 E (of.ports.drop k2) m2;R3 m1)) (fun i _=>of.ports.length - (intOf i).toNat)
      case atStart=>exact⟨0,hh.2,y1p _,rfl,HEO.o,HEI.o,FrQ.refl _ _ _,HZ1.o⟩
      case round=>
       obtain⟨k2,m2,hk2,rfl,heo,hei,hfq,hR⟩:=hrel;clear HZ1 i0 i1 i2 i3 HEO HEI;have HEO:=Hd heo;have HEI:=Hd hei;have HFQ2:=Hd hfq;by_cases hlt:k2<of.ports.length
       ·rw[List.drop_eq_getElem_cons hlt] at hR;have hprt:=y1l hlt;have HSO:=Hd (HHH.o.2 of.ports[k2] hprt);obtain⟨b,o,cs,hsa,hbw,hcl,hC,ho1,hRP⟩:=HQR.o _ hlt;subst hsa;obtain⟨c,rfl,hRX⟩:=hRP;obtain⟨x5,rfl,h5⟩:=RX_iff.1 hRX;have o5:=h5.oneCell;obtain⟨d0,d1,d2,d3,d4,d5,d6,d7⟩:=(hC.ext heo.cx.ext).get8;obtain⟨V1,hV1',hy1,hbb1⟩:=q7r wr (.string of.ports[k2].name) (.bool of.ports[k2].o) (.int .i64 of.ports[k2].w.op) (.string of.ports[k2].w.name) (.int .i64 of.ports[k2].w.n) (.int .i64 of.ports[k2].w.w) (.int .u64 of.ports[k2].w.v) x5 42;have hW4':=hV1'.symm;obtain⟨p0,p1,p2,p3,p4,p5,p6,p7⟩:=hbb1.get8;have HB1:=Hd hbb1;have Y1:=Hd hy1;generalize of.ports[k2]=p at*;obtain⟨ob,hob⟩:∃ob,ob=p.o:=⟨_,rfl⟩;rw[←hob] at p1 d1 hW4';have sv1:wr.heap.size<V1.heap.size:=hbb1.lt;have HRR:=Hd hR;clear hR hC hRX h5 ho1 hV1' hy1 hbb1 hfq heo hei;cases ob with
        |true=>
         have HN:=Hd (show R=(do let m1←q4z s hh.1 E (of.ports.drop (k2+1)) m2;R3 m1) by rw[HRR.o,k3z hob.symm]);have HO1:=Hd (HEO.o.ext Y1.o);have HI1:=Hd (HEI.o.ext Y1.o);have HQ1:=Hd (HFQ2.o.trans (.of_ext Y1.o));clear hob;go_wp2_with fail
         go_roundw;case rel=>exact⟨k2+1,m2,by omega,by go_num,HO1.o,HI1.o,HQ1.o,HN.o⟩
         case measure=>simp[intOf];omega
        |false=>
         have HOB:=Hd hob;clear hob;obtain⟨us,up,uc,ue,hk1,hs1⟩:=(HEO.o.ext Y1.o).ex;have hc0:=HEO.o.inv.c0;have hc1:=HEO.o.inv.c1;have KC:=Hd (z1k N0 mb (.slice va fl.length vcap) us up uc m2 1 V1 hk1 hc0 hc1 (by decide) (by decide));clear hk1 hs1;go_wp2_with fail
         go_at_call 75;refine KC.o.mono ?_;rintro e w11 (⟨m3,u,hr,rfl,rfl,hmk,hfs⟩|⟨c,hr,rfl,hfs⟩);rotate_left
         ·exact⟨rfl,.no (by rw[HRR.o,q4z,if_neg (by rw[←HOB.o];decide),hr];rfl) (((F10.o.trans (HFQ2.o sb mp)).trans (.of_ext Y1.o)).trans (.of_chg hfs))⟩
         have hcm3:=z6s hr (by decide);have HR11:=Hd hr;have hq11:FrQ N0 mb w10 w11:=(HFQ2.o.trans (.of_ext Y1.o)).trans (.of_chg hfs);have hq1:FrQ N0 mb wr w11:=(FrQ.of_ext Y1.o).trans (.of_chg hfs);have HEO3:=Hd (hq1.ec HEO.o hmk (by rw[hcm3.d];exact HEO.o.gd) (HEO.o.inv.cnt hcm3));have HEI3:=Hd (hq1.ec HEI.o hmk (by rw[hcm3.d];exact HEI.o.gd) (HEI.o.inv.cnt hcm3));have HQ11:=Hd hq11;have hpm':wr.heap.size≠mb:=by have:=HEO.o.mlt.1;omega
         have HB3:=Hd (hfs.blk HB1.o hpm');have HMK3:=Hd hmk;have HCM3:=Hd hcm3;have sv2:V1.heap.size≤w11.heap.size:=hfs.size;obtain⟨ka,hka,hkl⟩:∃ka:Nat,hh.1.sigs p.name=some (ka:Int)∧ka<m3.d.sigs.length:=by
          obtain⟨a,ha⟩:=Option.isSome_iff_exists.1 HSO.o;have:=HEI3.o.gd.at_ _ _ ha;exact⟨a.toNat,by rw[ha];congr 1;omega,by omega⟩
         obtain⟨x,hx⟩:=Option.isSome_iff_exists.1 ((HEN.o p hprt).resolve_right (by rw[←HOB.o];decide));have HIN:=Hd (y1x hka hx);obtain⟨ux,uy,uz,ve3,hk3,hs3⟩:=HEI3.o.ex;have HLM:=Hd (show∀w',Ext w11 w'→(Instr.lookup 93 (.map (some ng)) (.string p.name) false).run Tryz.prog w'=.ok (.int .i64 (ka:Int)) w' from fun w' hw=>(hs3.map.ext hw).look0_some p.name hka);obtain⟨t0,t1,t2⟩:=hs3.blk.later3;obtain⟨b0,b1,b2,b3,b4,b5,b6,b7⟩:=HB3.o.later8;clear hr hmk hfs hcm3 hq11 hq1 hk3 hs3 hka hx KC p0 p1 p2 p3 p4 p5 p6 p7 d0 d1 d2 d3 d4 d5 d6 d7 hW4';go_wp2_with fail
         refine z0m 8 (W:=w11) (Ext) (eqG [.pointer (some ⟨nb,0,none⟩),.pointer (some ⟨nb,0,none⟩),.pointer (some ⟨nb,1,none⟩),.map (some ng),.pointer (some ⟨wr.heap.size,0,none⟩),.string p.name,.int .i64 (ka:Int),.int .i64 (ka:Int)]) (fun _ _=>False) (fun _=>true) (by kernel_rfl) (z0s) (by kernel_rfl) (by kernel_rfl) ?_ (y1g _) (fun i v w w' h hx=>z7l h hx) ?_ (fun A ch w hd hp=>hp.elim) ?_
         ·exact⟨rfl,rfl,rfl,rfl,rfl,rfl,rfl,rfl,trivial⟩
         ·refine⟨?_,?_,?_,?_,?_,?_,?_,?_,trivial⟩;rotate_left 6
          ·intro A wa hxa hd h0;obtain⟨ea,rfl⟩:=y1h hxa;have q3:=z0d hd 3 95 (by kernel_rfl) rfl;simp[eqG] at q3;have q5:=z0d hd 5 97 (by kernel_rfl) rfl;simp[eqG] at q5;clear hd h0;go_simp;have hlk:=HLM.o ea.w ea.ext;go_simp;first|exact⟨_,rfl,y1g _,rfl⟩|exact⟨y1g _,rfl⟩|exact⟨_,rfl,rfl⟩|exact rfl
          all_goals
           intro A wa hxa hd h0;obtain⟨ea,rfl⟩:=y1h hxa;try (have q6:=z0d hd 6 98 (by decide) rfl;simp[eqG] at q6)
           try (have q0:=z0d hd 0 92 (by decide) rfl;simp[eqG] at q0)
           try (have q1:=z0d hd 1 93 (by decide) rfl;simp[eqG] at q1)
           try (have q2:=z0d hd 2 94 (by decide) rfl;simp[eqG] at q2)
           try (have q4:=z0d hd 4 96 (by decide) rfl;simp[eqG] at q4)
           have r15:=z0c h0 15 (by kernel_rfl);simp at r15;have r17:=z0c h0 17 (by kernel_rfl);simp at r17;clear hd h0;go_simp;first|exact⟨_,rfl,y1g _,rfl⟩|exact⟨y1g _,rfl⟩|exact rfl|exact⟨_,rfl,rfl⟩|exact y1g _
         ·intro A wa hk;obtain⟨f,rfl,hxa,hdn,hrs⟩:=hk.fin (n:=184) rfl;obtain⟨ea,rfl⟩:=y1h hxa;have k0:=hrs 0 (by kernel_rfl);have k1:=hrs 1 (by kernel_rfl);have k2:=hrs 2 (by kernel_rfl);have k3:=hrs 3 (by kernel_rfl);have k4:=hrs 4 (by kernel_rfl);have k5:=hrs 5 (by kernel_rfl);have k6:=hrs 6 (by kernel_rfl);have k7:=hrs 7 (by kernel_rfl);have k8:=hrs 8 (by kernel_rfl);have k9:=hrs 9 (by kernel_rfl);have k10:=hrs 10 (by kernel_rfl);have k11:=hrs 11 (by kernel_rfl);have k12:=hrs 12 (by kernel_rfl);have k13:=hrs 13 (by kernel_rfl);have k14:=hrs 14 (by kernel_rfl);have k15:=hrs 15 (by kernel_rfl);have k16:=hrs 16 (by kernel_rfl);have k19:=hrs 19 (by kernel_rfl);have k20:=hrs 20 (by kernel_rfl);have k21:=hrs 21 (by kernel_rfl);have k22:=hrs 22 (by kernel_rfl);have k23:=hrs 23 (by kernel_rfl);have k24:=hrs 24 (by kernel_rfl);have k25:=hrs 25 (by kernel_rfl);have k26:=hrs 26 (by kernel_rfl);have k27:=hrs 27 (by kernel_rfl);have k28:=hrs 28 (by kernel_rfl);have k29:=hrs 29 (by kernel_rfl);have k30:=hrs 30 (by kernel_rfl);have k31:=hrs 31 (by kernel_rfl);have k32:=hrs 32 (by kernel_rfl);have k33:=hrs 33 (by kernel_rfl);have k34:=hrs 34 (by kernel_rfl);have k35:=hrs 35 (by kernel_rfl);have k36:=hrs 36 (by kernel_rfl);have k37:=hrs 37 (by kernel_rfl);have k38:=hrs 38 (by kernel_rfl);have k39:=hrs 39 (by kernel_rfl);have k40:=hrs 40 (by kernel_rfl);have k41:=hrs 41 (by kernel_rfl);have k42:=hrs 42 (by kernel_rfl);have k43:=hrs 43 (by kernel_rfl);have k44:=hrs 44 (by kernel_rfl);have k45:=hrs 45 (by kernel_rfl);have k46:=hrs 46 (by kernel_rfl);have k47:=hrs 47 (by kernel_rfl);have k48:=hrs 48 (by kernel_rfl);have k49:=hrs 49 (by kernel_rfl);have k50:=hrs 50 (by kernel_rfl);have k51:=hrs 51 (by kernel_rfl);have k52:=hrs 52 (by kernel_rfl);have k53:=hrs 53 (by kernel_rfl);have k54:=hrs 54 (by kernel_rfl);have k55:=hrs 55 (by kernel_rfl);have k56:=hrs 56 (by kernel_rfl);have k57:=hrs 57 (by kernel_rfl);have k58:=hrs 58 (by kernel_rfl);have k59:=hrs 59 (by kernel_rfl);have k60:=hrs 60 (by kernel_rfl);have k61:=hrs 61 (by kernel_rfl);have k62:=hrs 62 (by kernel_rfl);have k63:=hrs 63 (by kernel_rfl);have k64:=hrs 64 (by kernel_rfl);have k65:=hrs 65 (by kernel_rfl);have k66:=hrs 66 (by kernel_rfl);have k67:=hrs 67 (by kernel_rfl);have k68:=hrs 68 (by kernel_rfl);have k69:=hrs 69 (by kernel_rfl);have k70:=hrs 70 (by kernel_rfl);have k71:=hrs 71 (by kernel_rfl);have k72:=hrs 72 (by kernel_rfl);have k73:=hrs 73 (by kernel_rfl);have k74:=hrs 74 (by kernel_rfl);have k75:=hrs 75 (by kernel_rfl);have k76:=hrs 76 (by kernel_rfl);have k77:=hrs 77 (by kernel_rfl);have k78:=hrs 78 (by kernel_rfl);have k79:=hrs 79 (by kernel_rfl);have k80:=hrs 80 (by kernel_rfl);have k81:=hrs 81 (by kernel_rfl);have k82:=hrs 82 (by kernel_rfl);have k83:=hrs 83 (by kernel_rfl);have k84:=hrs 84 (by kernel_rfl);have k85:=hrs 85 (by kernel_rfl);have k122:=hrs 122 (by kernel_rfl);have k123:=hrs 123 (by kernel_rfl);have k124:=hrs 124 (by kernel_rfl);have k125:=hrs 125 (by kernel_rfl);have k126:=hrs 126 (by kernel_rfl);have k127:=hrs 127 (by kernel_rfl);have k128:=hrs 128 (by kernel_rfl);have k129:=hrs 129 (by kernel_rfl);have k130:=hrs 130 (by kernel_rfl);have k131:=hrs 131 (by kernel_rfl);have k132:=hrs 132 (by kernel_rfl);have k133:=hrs 133 (by kernel_rfl);have k134:=hrs 134 (by kernel_rfl);have k135:=hrs 135 (by kernel_rfl);have k136:=hrs 136 (by kernel_rfl);have k137:=hrs 137 (by kernel_rfl);have k138:=hrs 138 (by kernel_rfl);have k139:=hrs 139 (by kernel_rfl);have k140:=hrs 140 (by kernel_rfl);have k141:=hrs 141 (by kernel_rfl);have k142:=hrs 142 (by kernel_rfl);have k143:=hrs 143 (by kernel_rfl);have k144:=hrs 144 (by kernel_rfl);have k145:=hrs 145 (by kernel_rfl);have k146:=hrs 146 (by kernel_rfl);have k147:=hrs 147 (by kernel_rfl);have k148:=hrs 148 (by kernel_rfl);have k149:=hrs 149 (by kernel_rfl);have k150:=hrs 150 (by kernel_rfl);have k151:=hrs 151 (by kernel_rfl);have k152:=hrs 152 (by kernel_rfl);have k153:=hrs 153 (by kernel_rfl);have k154:=hrs 154 (by kernel_rfl);have k155:=hrs 155 (by kernel_rfl);have k156:=hrs 156 (by kernel_rfl);have k157:=hrs 157 (by kernel_rfl);have k158:=hrs 158 (by kernel_rfl);have k159:=hrs 159 (by kernel_rfl);have k160:=hrs 160 (by kernel_rfl);have k161:=hrs 161 (by kernel_rfl);have k162:=hrs 162 (by kernel_rfl);have k163:=hrs 163 (by kernel_rfl);have k164:=hrs 164 (by kernel_rfl);have k165:=hrs 165 (by kernel_rfl);have k166:=hrs 166 (by kernel_rfl);have k167:=hrs 167 (by kernel_rfl);have k168:=hrs 168 (by kernel_rfl);have k169:=hrs 169 (by kernel_rfl);have k170:=hrs 170 (by kernel_rfl);have k171:=hrs 171 (by kernel_rfl);have k172:=hrs 172 (by kernel_rfl);have k173:=hrs 173 (by kernel_rfl);have k174:=hrs 174 (by kernel_rfl);have k175:=hrs 175 (by kernel_rfl);have k176:=hrs 176 (by kernel_rfl);have k177:=hrs 177 (by kernel_rfl);have k178:=hrs 178 (by kernel_rfl);have k179:=hrs 179 (by kernel_rfl);have k180:=hrs 180 (by kernel_rfl);have k181:=hrs 181 (by kernel_rfl);have k182:=hrs 182 (by kernel_rfl);have k183:=hrs 183 (by kernel_rfl);have k17:=hrs 17 (by kernel_rfl);have k18:f 18=.int .i64 (ka:Int):=hdn 7 18 rfl rfl;clear hdn hrs;simp at k0 k1 k2 k3 k4 k5 k6 k7 k8 k9 k10 k11 k12 k13 k14 k15 k16 k19 k20 k21 k22 k23 k24 k25 k26 k27 k28 k29 k30 k31 k32 k33 k34 k35 k36 k37 k38 k39 k40 k41 k42 k43 k44 k45 k46 k47 k48 k49 k50 k51 k52 k53 k54 k55 k56 k57 k58 k59 k60 k61 k62 k63 k64 k65 k66 k67 k68 k69 k70 k71 k72 k73 k74 k75 k76 k77 k78 k79 k80 k81 k82 k83 k84 k85 k122 k123 k124 k125 k126 k127 k128 k129 k130 k131 k132 k133 k134 k135 k136 k137 k138 k139 k140 k141 k142 k143 k144 k145 k146 k147 k148 k149 k150 k151 k152 k153 k154 k155 k156 k157 k158 k159 k160 k161 k162 k163 k164 k165 k166 k167 k168 k169 k170 k171 k172 k173 k174 k175 k176 k177 k178 k179 k180 k181 k182 k183 k17;simp only[List.drop_succ_cons,List.drop_zero];simp[List.range,List.range.loop,k0,k1,k2,k3,k4,k5,k6,k7,k8,k9,k10,k11,k12,k13,k14,k15,k16,k19,k20,k21,k22,k23,k24,k25,k26,k27,k28,k29,k30,k31,k32,k33,k34,k35,k36,k37,k38,k39,k40,k41,k42,k43,k44,k45,k46,k47,k48,k49,k50,k51,k52,k53,k54,k55,k56,k57,k58,k59,k60,k61,k62,k63,k64,k65,k66,k67,k68,k69,k70,k71,k72,k73,k74,k75,k76,k77,k78,k79,k80,k81,k82,k83,k84,k85,k122,k123,k124,k125,k126,k127,k128,k129,k130,k131,k132,k133,k134,k135,k136,k137,k138,k139,k140,k141,k142,k143,k144,k145,k146,k147,k148,k149,k150,k151,k152,k153,k154,k155,k156,k157,k158,k159,k160,k161,k162,k163,k164,k165,k166,k167,k168,k169,k170,k171,k172,k173,k174,k175,k176,k177,k178,k179,k180,k181,k182,k183,k17,k18];clear k0 k1 k2 k3 k4 k5 k6 k7 k8 k9 k10 k11 k12 k13 k14 k15 k16 k19 k20 k21 k22 k23 k24 k25 k26 k27 k28 k29 k30 k31 k32 k33 k34 k35 k36 k37 k38 k39 k40 k41 k42 k43 k44 k45 k46 k47 k48 k49 k50 k51 k52 k53 k54 k55 k56 k57 k58 k59 k60 k61 k62 k63 k64 k65 k66 k67 k68 k69 k70 k71 k72 k73 k74 k75 k76 k77 k78 k79 k80 k81 k82 k83 k84 k85 k122 k123 k124 k125 k126 k127 k128 k129 k130 k131 k132 k133 k134 k135 k136 k137 k138 k139 k140 k141 k142 k143 k144 k145 k146 k147 k148 k149 k150 k151 k152 k153 k154 k155 k156 k157 k158 k159 k160 k161 k162 k163 k164 k165 k166 k167 k168 k169 k170 k171 k172 k173 k174 k175 k176 k177 k178 k179 k180 k181 k182 k183 k17 k18;obtain⟨Wb,hWb⟩:∃Wb,Wb=ea.w:=⟨_,rfl⟩;have xb:Ext w11 Wb:=hWb▸ea.ext;rw[←hWb];have XB:=Hd xb;have HEO4:=Hd (HEO3.o.ext xb);have HEI4:=Hd (HEI3.o.ext xb);have HMK4:=Hd (HMK3.o.ext xb);have HB4:=Hd (HB3.o.ext xb);have HQ4:=Hd (HQ11.o.trans (.of_ext xb));have BS4:=Hd (HQ4.o.blk BS10.o ⟨by decide,by decide,by decide⟩ hgs1);have hxm4:=HQ4.o.envX HXM10.o hepm;have sv3:w11.heap.size≤Wb.heap.size:=xb.size;have hepl:=hxm4.lt;obtain⟨cx,hXX,hlx⟩:=hxm4.lookW p.name x HIN.o.2;have HXX:=Hd hXX;obtain⟨x5,rfl,h5⟩:=RX_iff.1 hXX.rx;have ox5:=h5.oneCell;have HLX:=Hd hlx;have HMX:=Hd (show MayX x from by
           obtain⟨-,-,-,-,-,-,hbb⟩:=MayI_iff.1 hmt;have hex:=HIN.o.2;rw[HEQ.o] at hex;rcases q2e _ _ hex with h|⟨b,hb,rfl⟩
           ·cases h
           ·exact(hbb b hb).2)
          obtain⟨sz0,szc,hzv,hzc,hzr⟩:=HMK4.o.sig.slT (by decide);subst hzv;obtain⟨sgb,sgo,gs,rfl,htg,hgl,hCg,hg1,hRg⟩:=hzr ka hkl;have hR':gs=_:=hRg;subst hR';have hgw:=HEO4.o.gd.w _ (y1l hkl);have hsgb:sgb≠mb:=fun e=>absurd (htg.one (e▸HMK4.o.blk.tag)) (by decide)
          have hk0:(0:Int)≤(ka:Int):=by omega
          have hk1':(ka:Int)<(m3.d.sigs.length:Int):=by omega
          have yw:=hCg 1 _ rfl;have hD1:=Hd (fun(wd:Int) (hwd:wd=m3.d.sigs[ka].w)=>(by rw[hwd,q3b hkl]:(z9s m3.d.sigs (ka:Int)).w=wd));obtain⟨wd,hwd⟩:∃wd,wd=m3.d.sigs[ka].w:=⟨_,rfl⟩;have HWD:=Hd (hD1.o wd hwd);rw[←hwd] at hgw yw;have hgw1:(1:Int)≤wd:=hgw.1;have hgw2:wd≤64:=hgw.2;have HYW:=Hd yw;have HWR:=Hd (show IntKind.i64.wrap (wd - 1)=wd - 1 by simp(disch:=omega) only[IntWalk.i64_in]);have hscO:∃ve,ScI Wb sb mp ve s:=by obtain⟨_,_,_,ve,_,h⟩:=HEO4.o.ex;exact⟨ve,h⟩
          obtain⟨veO,hscO⟩:=hscO;have HST:=Hd (show StC W0 B N0 mb sb mp (.slice va fl.length vcap) (.slice (some ⟨sgb,sgo,none⟩) m3.d.sigs.length szc) up uc veO m3 s Wb from⟨HEO4.o.cx,HMK4.o,hscO,HEO4.o.gd,HEO4.o.inv.c0,HEO4.o.inv.c1,y1k HEO4.o.lo hNm⟩);clear hwd hD1 hzr hCg hg1 hRg htg hgl xb hWb hxm4 hXX hlx h5 t0 t1 t2 b0 b1 b2 b3 b4 b5 b6 b7 hgw yw hscO;go_wp2_with fail
          refine z1y 21 (eqS [18,19,20] [.pointer (some ⟨mb,0,none⟩),.int .i64 (ka:Int),.pointer (some ⟨mb,0,none⟩),.pointer (some ⟨mb,0,none⟩),.pointer (some ⟨mb,1,none⟩),.pointer (some ⟨mb,1,none⟩),.slice (some ⟨sgb,sgo,none⟩) m3.d.sigs.length szc,.int .i64 (ka:Int),.pointer (some ⟨sgb,sgo+ka*4,none⟩),.pointer (some ⟨sgb,sgo+ka*4+1,none⟩),.int .i64 wd,.int .i64 (wd - 1),.pointer (some ⟨mb,0,none⟩),.pointer (some ⟨sb,0,none⟩),.map (some ep),.pointer (some ⟨wr.heap.size,0,none⟩),.string p.name,.agg #[.int .i64 x.op,.string x.name,.int .i64 x.n,.int .i64 x.w,.int .u64 x.v,x5],undef,undef,undef]) (chJ [(18,fun τ w=>Ext Wb w),(19,fun τ w=>WJ (z0q s x m3) N0 mb (.slice va fl.length vcap) (.slice (some ⟨sgb,sgo,none⟩) m3.d.sigs.length szc) up uc m3 Wb (τ 117) w),(20,fun τ w=>WK (z0q s x m3) N0 mb (.slice va fl.length vcap) (.slice (some ⟨sgb,sgo,none⟩) m3.d.sigs.length szc) up uc m3 Wb (ka:Int) (wd - 1) (τ 118) w)] (fun τ w=>WL (z0q s x m3) N0 mb (.slice va fl.length vcap) (.slice (some ⟨sgb,sgo,none⟩) m3.d.sigs.length szc) up uc m3 Wb (ka:Int) (wd - 1) (τ 119) w)) (fun ch wz=>∃c,z0q s x m3=.error c∧ch=z2c c∧FrS mb Wb wz) (by kernel_rfl) (fun _ _ _ _ h=>h) (by kernel_rfl) (by kernel_rfl) ?_ (z6u _ ((y1g _).drew)) ?_ (fun A ch wz hd hp=>by
           obtain⟨c,hr,rfl,hx⟩:=hp;obtain⟨tA,dA⟩:=A;simp only at hd;subst hd;have HN:=Hd (show RunsP R (fun m' v w'=>v=z1w∧EC W0 B N0 mb sb mp (.slice va fl.length vcap) m' s w'∧FrI N0 mb sb mp w w') (FrI N0 mb sb mp w) (.panicked (z2c c)) wz from .no (by rw[HRR.o,j1t HOB.o.symm HIN.o.1 HIN.o.2,HR11.o];simp only[bind,Except.bind];rw[hr]) ((F10.o.trans (HQ4.o sb mp)).trans (.of_chg hx)));exact⟨rfl,HN.o⟩) ?_
          ·simp[GuardsMet]
          ·refine⟨?_,?_,?_,?_,?_,?_,?_,?_,?_,?_,?_,?_,?_,?_,?_,?_,?_,?_,?_,?_,?_,trivial⟩;rotate_left 18
           ·refine StepI.chain 0 rfl (by kernel_rfl) (by kernel_rfl) ?_;intro A wa hsz hj hd h0;replace hsz:=Hd hsz;have q12:=z0d hd 12 111 (by kernel_rfl) rfl;simp[eqS] at q12;have q13:=z0d hd 13 112 (by kernel_rfl) rfl;simp[eqS] at q13;have q17:=z0d hd 17 116 (by kernel_rfl) rfl;simp[eqS] at q17;clear hd h0;replace hj:Ext Wb wa:=hj;have KA:=Hd (z7z W0 B N0 mb sb mp _ _ _ _ veO m3 s x _ wa (HST.o.ext hj) HXX.o HMX.o);have HJX:=Hd hj;clear hj;go_simp;refine KA.o.mono ?_;rintro e wk (⟨r,u,hr,rfl,hsy,hmk,hfr,hcm⟩|⟨c,hr,rfl,hfr⟩);rotate_left
            ·exact⟨rfl,c,hr,rfl,HJX.o.chg.trans hfr⟩
            obtain⟨ua,ucap,rfl⟩:=hsy.form;have HP:=Hd (show WJ (z0q s x m3) N0 mb (.slice va fl.length vcap) (.slice (some ⟨sgb,sgo,none⟩) m3.d.sigs.length szc) up uc m3 Wb (.slice ua 1 ucap) wk from⟨r,hr,SlE9.turn hsy (y1u (fun _=>False) _) (fun b _ hb=>⟨id,y1k HJX.o.size hb⟩),hmk,HJX.o.chg.trans hfr,hcm⟩);clear hr hsy hmk hfr hcm;go_simp;refine⟨_,rfl,trivial,?_⟩;show WJ (z0q s x m3) N0 mb (.slice va fl.length vcap) (.slice (some ⟨sgb,sgo,none⟩) m3.d.sigs.length szc) up uc m3 Wb (tau (A.put (some 117) (.slice ua 1 ucap)) 117) wk;rw[z2r (by rw[hsz.o];exact of_decide_eq_true (by kernel_rfl))];exact HP.o
           ·refine StepI.chain 1 rfl (by kernel_rfl) (by kernel_rfl) ?_;intro A wa hsz hj hd h0;replace hsz:=Hd hsz;have q1:=z0d hd 1 100 (by kernel_rfl) rfl;simp[eqS] at q1;have q11:=z0d hd 11 110 (by kernel_rfl) rfl;simp[eqS] at q11;clear hd h0;have HJ:=Hd hj;obtain⟨r,hr,hsy,-,-,-⟩:=hj;obtain⟨ua,ucap,hv⟩:=hsy.form;have r117:A.tmps.getD 117 undef=_:=hv;have HP:=Hd (show WK (z0q s x m3) N0 mb (.slice va fl.length vcap) (.slice (some ⟨sgb,sgo,none⟩) m3.d.sigs.length szc) up uc m3 Wb (ka:Int) (wd - 1) (.agg #[.int .i64 1,.int .i64 (ka:Int),.int .i64 (wd - 1),.int .i64 0,.slice ua 1 ucap,.slice none 0 0]) wa from⟨.slice ua 1 ucap,by have h:=HJ.o;rw[show tau A 117=.slice ua 1 ucap from hv] at h;exact h,rfl⟩);simp only[Array.getD_eq_getD_getElem?] at r117;try simp at r117
            clear hv hsy hr HJ;go_simp;refine⟨_,rfl,trivial,?_⟩;show WK (z0q s x m3) N0 mb (.slice va fl.length vcap) (.slice (some ⟨sgb,sgo,none⟩) m3.d.sigs.length szc) up uc m3 Wb (ka:Int) (wd - 1) (tau (A.put (some 118) (.agg #[.int .i64 1,.int .i64 (ka:Int),.int .i64 (wd - 1),.int .i64 0,.slice ua 1 ucap,.slice none 0 0])) 118) wa;rw[z2r (by rw[hsz.o];exact of_decide_eq_true (by kernel_rfl))];exact HP.o
           ·refine StepI.chain 2 rfl (by kernel_rfl) (by kernel_rfl) ?_;intro A wa hsz hj hd h0;replace hsz:=Hd hsz;clear hd h0;obtain⟨v,⟨r,hr,hsy,hmk,hfr,hcm⟩,hv⟩:=hj;have ov:=hsy.oneCell;have r118:A.tmps.getD 118 undef=_:=hv;obtain⟨W8,hW8,hx8,hb8⟩:=z6v wa (.int .i64 1) (.int .i64 (ka:Int)) (.int .i64 (wd - 1)) (.int .i64 0) v (.slice none 0 0) 73;have hV8:=hW8.symm;have HP:=Hd (show WL (z0q s x m3) N0 mb (.slice va fl.length vcap) (.slice (some ⟨sgb,sgo,none⟩) m3.d.sigs.length szc) up uc m3 Wb (ka:Int) (wd - 1) (.slice (some ⟨wa.heap.size,0,none⟩) 1 1) W8 from⟨r,hr,SlT9.one hb8 (y1k hfr.size (y1j _)) (RT9_iff.2 ⟨v,.slice none 0 0,rfl,SlE9.ext hsy hx8,SlY.nil⟩),hmk.ext hx8,hfr.trans hx8.chg,hcm⟩);simp only[Array.getD_eq_getD_getElem?] at r118;try simp at r118
            clear hv hsy hmk hfr hcm hW8 hx8 hb8 hr;go_simp;refine⟨_,rfl,trivial,?_⟩;show WL (z0q s x m3) N0 mb (.slice va fl.length vcap) (.slice (some ⟨sgb,sgo,none⟩) m3.d.sigs.length szc) up uc m3 Wb (ka:Int) (wd - 1) (tau (A.put (some 119) (.slice (some ⟨wa.heap.size,0,none⟩) 1 1)) 119) W8;rw[z2r (by rw[hsz.o];exact of_decide_eq_true (by kernel_rfl))];exact HP.o
           all_goals
            refine StepI.plain (S:=[18,19,20]) (T:=[117,118,119]) (I:=(fun w=>FrS mb Wb w∧∃m',MkI w N0 mb (.slice va fl.length vcap) (.slice (some ⟨sgb,sgo,none⟩) m3.d.sigs.length szc) up uc m')) (z5k (T:=[117,118,119]) (fun τ τ' w hT hj=>?_) _ ⟨fun τ τ' w hT hj=>?_,fun τ τ' w hT hj=>?_,fun τ τ' w hT hj=>?_,trivial⟩) (fun L τ w h=>q2b (I:=(fun w=>FrS mb Wb w∧∃m',MkI w N0 mb (.slice va fl.length vcap) (.slice (some ⟨sgb,sgo,none⟩) m3.d.sigs.length szc) up uc m')) h (fun _ _ h=>by obtain⟨r,h1,h2,h3,h4,h5⟩:=h;exact⟨h4,_,h3⟩) ⟨fun _ _ h=>⟨h.chg,_,HMK4.o.ext h⟩,fun _ _ h=>by obtain⟨r,h1,h2,h3,h4,h5⟩:=h;exact⟨h4,_,h3⟩,fun _ _ h=>by obtain⟨v,⟨r,h1,h2,h3,h4,h5⟩,h6⟩:=h;exact⟨h4,_,h3⟩,trivial⟩) (by decide) (by decide) ?_
            ·try simp only[hT 117 (by decide),hT 118 (by decide),hT 119 (by decide)]
             exact hj
            ·try simp only[hT 117 (by decide),hT 118 (by decide),hT 119 (by decide)]
             exact hj
            ·try simp only[hT 117 (by decide),hT 118 (by decide),hT 119 (by decide)]
             exact hj
            ·try simp only[hT 117 (by decide),hT 118 (by decide),hT 119 (by decide)]
             exact hj
            intro A wa hI hd h0;try (have q2:=z0d hd 2 101 (by decide) rfl;simp[eqS] at q2)
            try (have q3:=z0d hd 3 102 (by decide) rfl;simp[eqS] at q3)
            try (have q4:=z0d hd 4 103 (by decide) rfl;simp[eqS] at q4)
            try (have q5:=z0d hd 5 104 (by decide) rfl;simp[eqS] at q5)
            try (have q6:=z0d hd 6 105 (by decide) rfl;simp[eqS] at q6)
            try (have q7:=z0d hd 7 106 (by decide) rfl;simp[eqS] at q7)
            try (have q8:=z0d hd 8 107 (by decide) rfl;simp[eqS] at q8)
            try (have q9:=z0d hd 9 108 (by decide) rfl;simp[eqS] at q9)
            try (have q10:=z0d hd 10 109 (by decide) rfl;simp[eqS] at q10)
            try (have q15:=z0d hd 15 114 (by decide) rfl;simp[eqS] at q15)
            try (have q14:=z0d hd 14 113 (by decide) rfl;simp[eqS] at q14)
            try (have q16:=z0d hd 16 115 (by decide) rfl;simp[eqS] at q16)
            have r0:=z0c h0 0 (by kernel_rfl);simp at r0;have r18:=z0c h0 18 (by kernel_rfl);simp at r18;have r4:=z0c h0 4 (by kernel_rfl);simp at r4;have r10:=z0c h0 10 (by kernel_rfl);simp at r10;have r17:=z0c h0 17 (by kernel_rfl);simp at r17;clear hd h0;obtain⟨hIF,mI,hIk⟩:=hI;have i0:=hIk.blk.cell 1;have i1:=hIF.cell HYW.o hsgb;have i2:=(hIF.blk BS4.o hgs1).cell 0;have i3:=(hIF.blk HB4.o hpm').cell 0;have iw:=HWR.o;have i4:=HLX.o wa (hIF.block ep hepl hepm);try simp only[List.getElem?_cons_succ,List.getElem?_cons_zero] at i0 i2 i3
            clear hIF hIk;go_simp;first|exact⟨_,rfl,rfl,rfl⟩|exact⟨_,rfl,rfl⟩|exact⟨rfl,rfl⟩|exact rfl
          ·intro A wa hk;obtain⟨f,rfl,hdn,hrs,hj⟩:=hk.fin (n:=184) rfl;replace hj:(fun τ w=>WL (z0q s x m3) N0 mb (.slice va fl.length vcap) (.slice (some ⟨sgb,sgo,none⟩) m3.d.sigs.length szc) up uc m3 Wb (ka:Int) (wd - 1) (τ 119) w) f wa:=z9r _ rfl hj;have k0:=hrs 0 (by kernel_rfl);have k1:=hrs 1 (by kernel_rfl);have k2:=hrs 2 (by kernel_rfl);have k3:=hrs 3 (by kernel_rfl);have k4:=hrs 4 (by kernel_rfl);have k5:=hrs 5 (by kernel_rfl);have k6:=hrs 6 (by kernel_rfl);have k7:=hrs 7 (by kernel_rfl);have k8:=hrs 8 (by kernel_rfl);have k9:=hrs 9 (by kernel_rfl);have k10:=hrs 10 (by kernel_rfl);have k11:=hrs 11 (by kernel_rfl);have k12:=hrs 12 (by kernel_rfl);have k13:=hrs 13 (by kernel_rfl);have k14:=hrs 14 (by kernel_rfl);have k15:=hrs 15 (by kernel_rfl);have k16:=hrs 16 (by kernel_rfl);have k19:=hrs 19 (by kernel_rfl);have k20:=hrs 20 (by kernel_rfl);have k21:=hrs 21 (by kernel_rfl);have k22:=hrs 22 (by kernel_rfl);have k23:=hrs 23 (by kernel_rfl);have k24:=hrs 24 (by kernel_rfl);have k25:=hrs 25 (by kernel_rfl);have k26:=hrs 26 (by kernel_rfl);have k27:=hrs 27 (by kernel_rfl);have k28:=hrs 28 (by kernel_rfl);have k29:=hrs 29 (by kernel_rfl);have k30:=hrs 30 (by kernel_rfl);have k31:=hrs 31 (by kernel_rfl);have k32:=hrs 32 (by kernel_rfl);have k33:=hrs 33 (by kernel_rfl);have k34:=hrs 34 (by kernel_rfl);have k35:=hrs 35 (by kernel_rfl);have k36:=hrs 36 (by kernel_rfl);have k37:=hrs 37 (by kernel_rfl);have k38:=hrs 38 (by kernel_rfl);have k39:=hrs 39 (by kernel_rfl);have k40:=hrs 40 (by kernel_rfl);have k41:=hrs 41 (by kernel_rfl);have k42:=hrs 42 (by kernel_rfl);have k43:=hrs 43 (by kernel_rfl);have k44:=hrs 44 (by kernel_rfl);have k45:=hrs 45 (by kernel_rfl);have k46:=hrs 46 (by kernel_rfl);have k47:=hrs 47 (by kernel_rfl);have k48:=hrs 48 (by kernel_rfl);have k49:=hrs 49 (by kernel_rfl);have k50:=hrs 50 (by kernel_rfl);have k51:=hrs 51 (by kernel_rfl);have k52:=hrs 52 (by kernel_rfl);have k53:=hrs 53 (by kernel_rfl);have k54:=hrs 54 (by kernel_rfl);have k55:=hrs 55 (by kernel_rfl);have k56:=hrs 56 (by kernel_rfl);have k57:=hrs 57 (by kernel_rfl);have k58:=hrs 58 (by kernel_rfl);have k59:=hrs 59 (by kernel_rfl);have k60:=hrs 60 (by kernel_rfl);have k61:=hrs 61 (by kernel_rfl);have k62:=hrs 62 (by kernel_rfl);have k63:=hrs 63 (by kernel_rfl);have k64:=hrs 64 (by kernel_rfl);have k65:=hrs 65 (by kernel_rfl);have k66:=hrs 66 (by kernel_rfl);have k67:=hrs 67 (by kernel_rfl);have k68:=hrs 68 (by kernel_rfl);have k69:=hrs 69 (by kernel_rfl);have k70:=hrs 70 (by kernel_rfl);have k71:=hrs 71 (by kernel_rfl);have k72:=hrs 72 (by kernel_rfl);have k73:=hrs 73 (by kernel_rfl);have k74:=hrs 74 (by kernel_rfl);have k75:=hrs 75 (by kernel_rfl);have k76:=hrs 76 (by kernel_rfl);have k77:=hrs 77 (by kernel_rfl);have k78:=hrs 78 (by kernel_rfl);have k79:=hrs 79 (by kernel_rfl);have k80:=hrs 80 (by kernel_rfl);have k81:=hrs 81 (by kernel_rfl);have k82:=hrs 82 (by kernel_rfl);have k83:=hrs 83 (by kernel_rfl);have k84:=hrs 84 (by kernel_rfl);have k85:=hrs 85 (by kernel_rfl);have k122:=hrs 122 (by kernel_rfl);have k123:=hrs 123 (by kernel_rfl);have k124:=hrs 124 (by kernel_rfl);have k125:=hrs 125 (by kernel_rfl);have k126:=hrs 126 (by kernel_rfl);have k127:=hrs 127 (by kernel_rfl);have k128:=hrs 128 (by kernel_rfl);have k129:=hrs 129 (by kernel_rfl);have k130:=hrs 130 (by kernel_rfl);have k131:=hrs 131 (by kernel_rfl);have k132:=hrs 132 (by kernel_rfl);have k133:=hrs 133 (by kernel_rfl);have k134:=hrs 134 (by kernel_rfl);have k135:=hrs 135 (by kernel_rfl);have k136:=hrs 136 (by kernel_rfl);have k137:=hrs 137 (by kernel_rfl);have k138:=hrs 138 (by kernel_rfl);have k139:=hrs 139 (by kernel_rfl);have k140:=hrs 140 (by kernel_rfl);have k141:=hrs 141 (by kernel_rfl);have k142:=hrs 142 (by kernel_rfl);have k143:=hrs 143 (by kernel_rfl);have k144:=hrs 144 (by kernel_rfl);have k145:=hrs 145 (by kernel_rfl);have k146:=hrs 146 (by kernel_rfl);have k147:=hrs 147 (by kernel_rfl);have k148:=hrs 148 (by kernel_rfl);have k149:=hrs 149 (by kernel_rfl);have k150:=hrs 150 (by kernel_rfl);have k151:=hrs 151 (by kernel_rfl);have k152:=hrs 152 (by kernel_rfl);have k153:=hrs 153 (by kernel_rfl);have k154:=hrs 154 (by kernel_rfl);have k155:=hrs 155 (by kernel_rfl);have k156:=hrs 156 (by kernel_rfl);have k157:=hrs 157 (by kernel_rfl);have k158:=hrs 158 (by kernel_rfl);have k159:=hrs 159 (by kernel_rfl);have k160:=hrs 160 (by kernel_rfl);have k161:=hrs 161 (by kernel_rfl);have k162:=hrs 162 (by kernel_rfl);have k163:=hrs 163 (by kernel_rfl);have k164:=hrs 164 (by kernel_rfl);have k165:=hrs 165 (by kernel_rfl);have k166:=hrs 166 (by kernel_rfl);have k167:=hrs 167 (by kernel_rfl);have k168:=hrs 168 (by kernel_rfl);have k169:=hrs 169 (by kernel_rfl);have k170:=hrs 170 (by kernel_rfl);have k171:=hrs 171 (by kernel_rfl);have k172:=hrs 172 (by kernel_rfl);have k173:=hrs 173 (by kernel_rfl);have k174:=hrs 174 (by kernel_rfl);have k175:=hrs 175 (by kernel_rfl);have k176:=hrs 176 (by kernel_rfl);have k177:=hrs 177 (by kernel_rfl);have k178:=hrs 178 (by kernel_rfl);have k179:=hrs 179 (by kernel_rfl);have k180:=hrs 180 (by kernel_rfl);have k181:=hrs 181 (by kernel_rfl);have k182:=hrs 182 (by kernel_rfl);have k183:=hrs 183 (by kernel_rfl);have k17:=hrs 17 (by kernel_rfl);have k18:=hrs 18 (by kernel_rfl);have k99:f 99=.pointer (some ⟨mb,0,none⟩):=hdn 0 99 rfl rfl;clear hdn hrs;obtain⟨r1,hr2,hsl,hmk,hfr,hcm⟩:=hj;obtain⟨ya,yc,hu⟩:=hsl.form;have k119:f 119=.slice ya 1 yc:=hu;rw[k119] at hsl;clear hu;simp at k0 k1 k2 k3 k4 k5 k6 k7 k8 k9 k10 k11 k12 k13 k14 k15 k16 k19 k20 k21 k22 k23 k24 k25 k26 k27 k28 k29 k30 k31 k32 k33 k34 k35 k36 k37 k38 k39 k40 k41 k42 k43 k44 k45 k46 k47 k48 k49 k50 k51 k52 k53 k54 k55 k56 k57 k58 k59 k60 k61 k62 k63 k64 k65 k66 k67 k68 k69 k70 k71 k72 k73 k74 k75 k76 k77 k78 k79 k80 k81 k82 k83 k84 k85 k122 k123 k124 k125 k126 k127 k128 k129 k130 k131 k132 k133 k134 k135 k136 k137 k138 k139 k140 k141 k142 k143 k144 k145 k146 k147 k148 k149 k150 k151 k152 k153 k154 k155 k156 k157 k158 k159 k160 k161 k162 k163 k164 k165 k166 k167 k168 k169 k170 k171 k172 k173 k174 k175 k176 k177 k178 k179 k180 k181 k182 k183 k17 k18;simp only[List.drop_succ_cons,List.drop_zero];simp[List.range,List.range.loop,k0,k1,k2,k3,k4,k5,k6,k7,k8,k9,k10,k11,k12,k13,k14,k15,k16,k19,k20,k21,k22,k23,k24,k25,k26,k27,k28,k29,k30,k31,k32,k33,k34,k35,k36,k37,k38,k39,k40,k41,k42,k43,k44,k45,k46,k47,k48,k49,k50,k51,k52,k53,k54,k55,k56,k57,k58,k59,k60,k61,k62,k63,k64,k65,k66,k67,k68,k69,k70,k71,k72,k73,k74,k75,k76,k77,k78,k79,k80,k81,k82,k83,k84,k85,k122,k123,k124,k125,k126,k127,k128,k129,k130,k131,k132,k133,k134,k135,k136,k137,k138,k139,k140,k141,k142,k143,k144,k145,k146,k147,k148,k149,k150,k151,k152,k153,k154,k155,k156,k157,k158,k159,k160,k161,k162,k163,k164,k165,k166,k167,k168,k169,k170,k171,k172,k173,k174,k175,k176,k177,k178,k179,k180,k181,k182,k183,k17,k18,k99,k119];clear k0 k1 k2 k3 k4 k5 k6 k7 k8 k9 k10 k11 k12 k13 k14 k15 k16 k19 k20 k21 k22 k23 k24 k25 k26 k27 k28 k29 k30 k31 k32 k33 k34 k35 k36 k37 k38 k39 k40 k41 k42 k43 k44 k45 k46 k47 k48 k49 k50 k51 k52 k53 k54 k55 k56 k57 k58 k59 k60 k61 k62 k63 k64 k65 k66 k67 k68 k69 k70 k71 k72 k73 k74 k75 k76 k77 k78 k79 k80 k81 k82 k83 k84 k85 k122 k123 k124 k125 k126 k127 k128 k129 k130 k131 k132 k133 k134 k135 k136 k137 k138 k139 k140 k141 k142 k143 k144 k145 k146 k147 k148 k149 k150 k151 k152 k153 k154 k155 k156 k157 k158 k159 k160 k161 k162 k163 k164 k165 k166 k167 k168 k169 k170 k171 k172 k173 k174 k175 k176 k177 k178 k179 k180 k181 k182 k183 k17 k18 k99 k119;have HFR:=Hd hfr;have HCM:=Hd hcm;have HR2':=Hd hr2;have KP:=Hd (z5e N0 mb wa.heap.size wa.heap.size (.slice va fl.length vcap) (.slice (some ⟨sgb,sgo,none⟩) m3.d.sigs.length szc) up uc r1.2 false [.mk 1 (ka:Int) (wd - 1) 0 [r1.1] []] (.slice ya 1 yc) wa hmk (hsl.slT (fun y _=>RT9.rt6 y)) (by rw[hcm.d];exact HEO4.o.inv.pr));clear hfr hmk hcm hr2 hsl;go_wp2_with fail
           go_at_call 107;refine KP.o.mono ?_;rintro e w6 (⟨m5,u,hr,rfl,rfl,vs',vp',vc',hmk,hfp⟩|⟨c,hr,rfl,hfp⟩);rotate_left
           ·exact⟨rfl,.no (by rw[HRR.o,j1t HOB.o.symm HIN.o.1 HIN.o.2,HR11.o];simp only[bind,Except.bind];rw[HR2'.o];simp only;rw[HWD.o,hr]) (((F10.o.trans (HQ4.o sb mp)).trans (.of_chg HFR.o)).trans (hfp.wide (y1j _)))⟩
           have hq5:FrQ N0 mb Wb w6:=(FrQ.of_chg HFR.o).trans (.of_fr hfp);have hd5:m5.d.sigs=m3.d.sigs:=by rw[(z2u hr).1];show r1.2.d.sigs=m3.d.sigs;rw[HCM.o.d]
           have HO5:=Hd (hq5.ec HEO4.o hmk (by rw[hd5];exact HEO4.o.gd) ((HEO4.o.inv.cnt HCM.o).process hr));have HI5:=Hd (hq5.ec HEI4.o hmk (by rw[hd5];exact HEI4.o.gd) ((HEI4.o.inv.cnt HCM.o).process hr));have HQ5:=Hd (HQ4.o.trans hq5);have HN:=Hd (show R=(do let m1←q4z s hh.1 E (of.ports.drop (k2+1)) m5;R3 m1) by rw[HRR.o,j1t HOB.o.symm HIN.o.1 HIN.o.2,HR11.o];simp only[bind,Except.bind];rw[HR2'.o];simp only;rw[HWD.o,hr]);clear hr hmk hfp hq5 hd5;go_wp2_with fail
           go_roundw;case rel=>exact⟨k2+1,m5,by omega,by go_num,HO5.o,HI5.o,HQ5.o,HN.o⟩
           case measure=>simp[intOf];omega
       ·have hkl2:k2=of.ports.length:=by omega
        subst hkl2;have HRR:=Hd (show R=R3 m2 by rw[hR,List.drop_length];rfl);obtain⟨us,up,uc,ue,hkI,hsI⟩:=hei.ex;have BO11:=Hd (hfq.blk BO10.o ⟨by decide,by decide,by decide⟩ hogm);have BS11:=Hd (hfq.blk BS10.o ⟨by decide,by decide,by decide⟩ hgs1);have HXM11:=Hd (hfq.envX HXM10.o hepm);have F11:=Hd (F10.o.trans (hfq sb mp));have HMI:=Hd hsI.map;obtain⟨t0,t1,t2⟩:=hsI.blk.get3;have KCL:=Hd (j0i ng hh.1.sigs wr hsI.map);have s11:w10.heap.size≤wr.heap.size:=hfq.size;clear hR hkI hsI hfq heo hei;go_wp2_with fail
        go_at_call 158;refine KCL.o.mono ?_;rintro _ w12 ⟨rfl,hcl,hx12⟩;have HCL:=Hd hcl;have X12:=Hd hx12;have HEO12:=Hd (HEO.o.ext hx12);have HEI12:=Hd (HEI.o.ext hx12);have BO12:=Hd (BO11.o.ext hx12);have hpm12:wr.heap.size<w12.heap.size:=hcl.lt;obtain⟨z0,z1,z2,z3⟩:=BO12.o.get4;have KI:=Hd (HL.o nb ng m2 hh.1 w12 a3 HEI12.o (by
         have h1:=HPA.o.2;have h2:=z0b z1c of.params z1z;unfold z0x at hszM;omega) (by
         rw[HPA.o.1,ByteArray.size_append,ByteArray.size_append];have h1:tDot.size=1:=rfl;have h2:=(j3y hmt (by omega)).2.1;unfold z0x at hszM;omega) HP3.o)
        clear hcl hx12 KCL t0 t1 t2;go_wp2_with fail
        go_at_call 39;refine KI.o.mono ?_;rintro e w13 (⟨y,u,hr,rfl,hu,hec,hfr,hel,hpe⟩|⟨c,hr,rfl,hfr⟩);rotate_left
        ·exact⟨rfl,.no (by rw[HRR.o,HR3.o];simp only[bind,Except.bind];rw[hr]) (hfr.fresh w (F11.o.trans (.of_ext X12.o)) (.inl (by omega)) (.inl (by omega)))⟩
        subst hu;have HR13:=Hd hr;have hmo:=z3n (inst:=z6o fl k) of.items (fun z _=>q1t (z8w fl k) z) _ _ _ hr;have F13:=Hd (hfr.fresh w (F11.o.trans (.of_ext X12.o)) (.inl (by omega)) (.inl (by omega)));obtain⟨us,up,uc,ue,hk13,hs13⟩:=hec.ex;have HEO13:=Hd (HEO12.o.beside HEI12.o hfr hk13 (by omega) (by omega) (by omega) (by omega) hec.cx.ext (HEO12.o.gd.more hmo hec.gd.w) hec.inv);have BO13:=Hd (hfr.blk BO12.o ⟨by decide,by decide,by decide⟩ hogm (by omega) (by omega));have BS13:=Hd (hfr.blk (BS11.o.ext X12.o) ⟨by decide,by decide,by decide⟩ hgs1 (by omega) (by omega));have hx13e:=HXM11.o.ext X12.o;have HXM13:=Hd (hx13e.of_eq (hfr.block ep hx13e.lt hepm (by omega) (by omega) (fun hh=>by rcases hh.2 with h|h|h<;>exact hx13e.noTag h)));have hpmm:wr.heap.size≠mb:=by have:=HEO.o.mlt.1;omega
        have HPM13:=Hd (hfr.map HCL.o hpmm (by have:=HEI.o.mlt.2.1;omega) (by have:=HEI.o.mlt.2.2.1;omega));have HSG:=Hd (show∀p,p∈of.ports→∃ka:Nat,hh.1.sigs p.name=some (ka:Int)∧ka<y.2.d.sigs.length from fun p hp=>by
         obtain⟨a,ha⟩:=Option.isSome_iff_exists.1 (HHH.o.2 p hp);have:=HEI.o.gd.at_ _ _ ha;exact⟨a.toNat,by rw[ha];congr 1;omega,by omega⟩)
        have s13:w12.heap.size≤w13.heap.size:=hfr.size;obtain⟨pm,hpm9⟩:∃pm,pm=wr.heap.size:=⟨_,rfl⟩;have HZ2:=Hd (show R=z5p s hh.1.sigs E (of.ports.drop 0) y.2 by rw[HRR.o,HR3.o];simp only[bind,Except.bind];rw[hr];rfl);rw[←hpm9] at HPM13 hpmm;have hpm9':=hpm9.symm;clear hr hmo hfr hec hk13 hs13 hx13e hel hpe z0 z1 z2 z3 HEI HEO HFQ2 HEI12 HEO12 HRR KI hpm9 HCL hpm12;obtain⟨z0,z1,z2,z3⟩:=BO13.o.get4;go_wp2_with fail
        go_loopw [135] (fun i wr=>∃(k3:Nat) (m4:Mk),k3≤of.ports.length∧i=.int .i64 k3∧EC W0 B N0 mb sb mp (.slice va fl.length vcap) m4 s wr∧FrQ N0 mb w13 wr∧y.2.d.sigs.length≤m4.d.sigs.length∧R=z5p s hh.1.sigs E (of.ports.drop k3) m4) (fun i _=>of.ports.length - (intOf i).toNat)
        case atStart=>exact⟨0,y.2,y1p _,rfl,HEO13.o,FrQ.refl _ _ _,y1j _,HZ2.o⟩
        case round=>
         obtain⟨k3,m4,hk3,rfl,heo,hfq,hml,hR⟩:=hrel;clear HZ2 z0 z1 z2 z3 HEO13;have HEO:=Hd heo;have HFQ3:=Hd hfq;by_cases hlt3:k3<of.ports.length
         ·rw[List.drop_eq_getElem_cons hlt3] at hR;have HPRT:=Hd (y1l hlt3);obtain⟨b,o,cs,hsa,hbw,hcl,hC,ho1,hRP⟩:=HQR.o _ hlt3;subst hsa;obtain⟨c,rfl,hRX⟩:=hRP;obtain⟨x5,rfl,h5⟩:=RX_iff.1 hRX;have o5:=h5.oneCell;obtain⟨d0,d1,d2,d3,d4,d5,d6,d7⟩:=(hC.ext heo.cx.ext).get8;obtain⟨V1,hV1',hy1,hbb1⟩:=q7r wr (.string of.ports[k3].name) (.bool of.ports[k3].o) (.int .i64 of.ports[k3].w.op) (.string of.ports[k3].w.name) (.int .i64 of.ports[k3].w.n) (.int .i64 of.ports[k3].w.w) (.int .u64 of.ports[k3].w.v) x5 42;have hW4':=hV1'.symm;obtain⟨p0,p1,p2,p3,p4,p5,p6,p7⟩:=hbb1.get8;have hxm3:=(hfq.envX HXM13.o hepm).ext hy1;obtain⟨cl,hlk,hl0,hl1⟩:=hxm3.look of.ports[k3].name true;simp only[if_true] at hlk;obtain⟨q0,q1,q2,q3,q4,q5,hclq,oq⟩:=q5r hl0 hl1;subst hclq;obtain⟨V2,hV2',hy2,hbb2⟩:=z6v V1 (.int .i64 q0) (.string q1) (.int .i64 q2) (.int .i64 q3) (.int .u64 q4) q5 40;have hW5':=hV2'.symm;obtain⟨r0,r1,r2,r3,r4,r5,r6,r7⟩:=(hbb1.ext hy2).get8;have BP2:=Hd (hbb1.ext hy2);have BQ2:=Hd hbb2;have Y2:=Hd (hy1.trans hy2);have sv1:wr.heap.size<V1.heap.size:=hbb1.lt;have sv2:V1.heap.size<V2.heap.size:=hbb2.lt;have HRR:=Hd hR;have HML:=Hd hml;generalize of.ports[k3]=p at*;obtain⟨ib,hib⟩:∃ib,ib=(E p.name).isSome:=⟨_,rfl⟩;obtain⟨ob,hob⟩:∃ob,ob=p.o:=⟨_,rfl⟩;rw[←hib] at hlk;rw[←hob] at p1 r1 d1 hW4';have HIO:=Hd (y1x hib hob);have HL1:=Hd hl1;have HO2:=Hd (heo.ext Y2.o);have HQ2:=Hd (hfq.trans (.of_ext Y2.o));clear hR hC hRX h5 ho1 hV1' hy1 hbb1 hl0 hl1 hV2' hy2 hbb2 hib hob hfq heo hml hxm3;by_cases hgo:ib=true∧ob=true
          ·obtain⟨rfl,rfl⟩:=hgo;obtain⟨x,hx⟩:=Option.isSome_iff_exists.1 HIO.o.1.symm;have HX:=Hd hx;have HXX:=Hd (HL1.o x hx);obtain⟨xx5,hcx,hh5⟩:=RX_iff.1 (HL1.o x hx).rx;have oxx:=hh5.oneCell;simp only[List.cons.injEq,and_true,Value.int.injEq,Value.string.injEq,true_and] at hcx;obtain⟨rfl,rfl,rfl,rfl,rfl,rfl⟩:=hcx;obtain⟨ka,hka,hkal⟩:=HSG.o p HPRT.o;have HKA:=Hd hka;have HMX:=Hd (show MayX x from by
            obtain⟨-,-,-,-,-,-,hbb⟩:=MayI_iff.1 hmt;have hex:=hx;rw[HEQ.o] at hex;rcases q2e _ _ hex with h|⟨b,hb,rfl⟩
            ·cases h
            ·exact(hbb b hb).2)
           obtain⟨us,up,uc,ue,hk2',hs2'⟩:=HO2.o.ex;have hc0:=HO2.o.inv.c0;have hc1:=HO2.o.inv.c1;have KC:=Hd (z1k N0 mb (.slice va fl.length vcap) us up uc m4 1 V2 hk2' hc0 hc1 (by decide) (by decide));have hnv:¬V1.heap.size=mb:=by have:=HEO.o.mlt.1;omega
           have hnp:¬wr.heap.size=mb:=by have:=HEO.o.mlt.1;omega
           clear hx hka hh5 hk2' hs2';go_wp2_with fail
           go_at_call 75;refine KC.o.mono ?_;rintro e w14 (⟨m5,u,hr,rfl,rfl,hmk,hfs⟩|⟨c,hr,rfl,hfs⟩);rotate_left
           ·exact⟨rfl,.no (by rw[HRR.o,q0d HX.o HIO.o.2.symm HKA.o,hr];rfl) ((F13.o.trans (HQ2.o sb mp)).trans (.of_chg hfs))⟩
           have hcm5:=z6s hr (by decide);have HR14:=Hd hr;have HO3:=Hd ((FrQ.of_chg hfs).ec HO2.o hmk (by rw[hcm5.d];exact HO2.o.gd) (HO2.o.inv.cnt hcm5));have HQ3:=Hd (HQ2.o.trans (.of_chg hfs));have BP3:=Hd (hfs.blk BP2.o hnp);have BQ3:=Hd (hfs.blk BQ2.o hnv);have BS3:=Hd (HQ3.o.blk BS13.o ⟨by decide,by decide,by decide⟩ hgs1);have HD5:=Hd hcm5.d;have HMK3:=Hd hmk;have sv3:V2.heap.size≤w14.heap.size:=hfs.size;have i9:=(BS3.o).cell 0;simp only[List.getElem?_cons_zero] at i9;obtain⟨b0,b1,b2,b3,b4,b5⟩:=BQ3.o.get6;obtain⟨us3,up3,uc3,ue3,hk3',hs3'⟩:=HO3.o.ex;have KT:=Hd (q3r W0 B N0 mb sb mp (.slice va fl.length vcap) us up uc ue3 m5 s false x [.int .i64 x.op,.string x.name,.int .i64 x.n,.int .i64 x.w,.int .u64 x.v,q5] w14 HO3.o.cx HXX.o hmk hs3' HO3.o.gd (fun h34=>by
            have:=(MayX_iff.1 HMX.o).1.1;unfold z4u at this;omega))
           clear hr hmk hfs hcm5 hk3' hs3' KC r0 r1 r2 r3 r4 r5 r6 r7 p0 p1 p2 p3 p4 p5 p6 p7 d0 d1 d2 d3 d4 d5 d6 d7 hlk hW4' hW5';go_wp2_with fail
           go_at_call 148;refine KT.o.mono ?_;rintro e w15 (⟨tr,u,hr,rfl,rfl,hx15⟩|⟨c,hr,rfl,hx15⟩);rotate_left
           ·exact⟨rfl,.no (by rw[HRR.o,q0d HX.o HIO.o.2.symm HKA.o,HR14.o];simp only[bind,Except.bind];rw[hr]) ((F13.o.trans (HQ3.o sb mp)).trans (.of_ext hx15))⟩
           have HR15:=Hd hr;obtain⟨y1,y2,y3⟩:=tr;obtain⟨Vz,hVz',hxz,hbz⟩:=z6v w15 (.int .i64 0) (.int .i64 0) (.int .i64 0) (.int .i64 0) (.slice none 0 0) (.slice none 0 0) 73;have hVz:=hVz'.symm;obtain⟨k0,k1,k2,k3',k4,k5⟩:=hbz.get6;obtain⟨l0,l1,l2,l3,l4,l5⟩:=hbz.free6;obtain⟨V5,hV5'⟩:∃V5,V5=(((((Vz.setCell ⟨w15.heap.size,0,none⟩ (.int .i64 1)).setCell ⟨w15.heap.size,1,none⟩ (.int .i64 y1)).setCell ⟨w15.heap.size,2,none⟩ (.int .i64 y2)).setCell ⟨w15.heap.size,3,none⟩ (.int .i64 y3)).setCell ⟨w15.heap.size,4,none⟩ (.slice none 0 0)).setCell ⟨w15.heap.size,5,none⟩ (.slice none 0 0):=⟨_,rfl⟩;have hW5:=hV5'.symm;have hb5':Blk V5 w15.heap.size 73 [.int .i64 1,.int .i64 y1,.int .i64 y2,.int .i64 y3,.slice none 0 0,.slice none 0 0]:=by rw[hV5'];exact hbz.store6 _ _ _ _ _ _
           have hx5':Ext w15 V5:=by rw[hV5'];exact(((((hxz.setCell (y1j _) _).setCell (y1j _) _).setCell (y1j _) _).setCell (y1j _) _).setCell (y1j _) _).setCell (y1j _) _
           have X16:=Hd (hx15.trans hx5');have BT5:=Hd hb5';have HMK5:=Hd (HMK3.o.ext X16.o);have HO5:=Hd (HO3.o.ext X16.o);have sv5:w14.heap.size≤w15.heap.size:=hx15.size;have sv6:w15.heap.size<V5.heap.size:=hb5'.lt;have hc0':=HO5.o.inv.c0;have hc1':=HO5.o.inv.c1;have KC:=Hd (z1k N0 mb (.slice va fl.length vcap) us up uc m5 1 V5 HMK5.o hc0' hc1' (by decide) (by decide));have hnt:¬w15.heap.size=mb:=by have:=HEO.o.mlt.1;omega
           clear hr hx15 hV5' hx5' hb5' hVz' hxz hbz KT i9 b0 b1 b2 b3 b4 b5;go_wp2_with fail
           go_at_call 75;refine KC.o.mono ?_;rintro e w16 (⟨m6,u,hr,rfl,rfl,hmk,hfs⟩|⟨c,hr,rfl,hfs⟩);rotate_left
           ·exact⟨rfl,.no (by rw[HRR.o,q0d HX.o HIO.o.2.symm HKA.o,HR14.o];simp only[bind,Except.bind];rw[HR15.o];simp only;rw[hr]) (((F13.o.trans (HQ3.o sb mp)).trans (.of_ext X16.o)).trans (.of_chg hfs))⟩
           clear k0 k1 k2 k3' k4 k5 l0 l1 l2 l3 l4 l5 hVz hW5;have hcm6:=z6s hr (by decide);have HR16:=Hd hr;have HO6:=Hd ((FrQ.of_chg hfs).ec HO5.o hmk (by rw[hcm6.d];exact HO5.o.gd) (HO5.o.inv.cnt hcm6));have HQ6:=Hd ((HQ3.o.trans (.of_ext X16.o)).trans (.of_chg hfs));have BP6:=Hd (hfs.blk (BP3.o.ext X16.o) hnp);have BT6:=Hd (hfs.blk BT5.o hnt);have HD6:=Hd (hcm6.d.trans HD5.o);have sv7:V5.heap.size≤w16.heap.size:=hfs.size;have hkal6:ka<m6.d.sigs.length:=by rw[HD6.o];have:=HML.o;omega
           obtain⟨sz0,szc,hzv,hzc,hzr⟩:=hmk.sig.slT (by decide);subst hzv;obtain⟨sgb,sgo,gs,rfl,htg,hgl,hCg,hg1,hRg⟩:=hzr ka hkal6;have hR':gs=_:=hRg;subst hR';have hgw:=HO6.o.gd.w _ (y1l hkal6);have hk0:(0:Int)≤(ka:Int):=by omega
           have hk1':(ka:Int)<(m6.d.sigs.length:Int):=by omega
           have yw:=hCg 1 _ rfl;have hD1:=Hd (fun(wd:Int) (hwd:wd=m6.d.sigs[ka].w)=>(by rw[hwd,q3b hkal6]:(z9s m6.d.sigs (ka:Int)).w=wd));obtain⟨wd,hwd⟩:∃wd,wd=m6.d.sigs[ka].w:=⟨_,rfl⟩;have HWD:=Hd (hD1.o wd hwd);rw[←hwd] at hgw yw;have hgw1:(1:Int)≤wd:=hgw.1;have hgw2:wd≤64:=hgw.2;have HMK6:=Hd hmk;have l1:=hmk.blk.cell 1;simp only[List.getElem?_cons_succ,List.getElem?_cons_zero] at l1;have l2:=BP6.o.cell 0;simp only[List.getElem?_cons_zero] at l2;have hlm:=(HQ6.o.envM HPM13.o hpmm).look0_some p.name HKA.o;have HIW:=Hd (show IntKind.i64.wrap (wd - 1)=wd - 1 by simp(disch:=omega) only[IntWalk.i64_in]);obtain⟨V7,hV7',hx7',hb7'⟩:=q7r w16 (.int .i64 2) (.int .i64 0) (.int .u64 0) (.int .i64 (ka:Int)) (.int .i64 (wd - 1)) (.int .i64 0) (.int .i64 0) (.slice none 0 0) 60;have hW7:=hV7'.symm;have sv8:w16.heap.size<V7.heap.size:=hb7'.lt;have bt7:=BT6.o.ext hx7';have l3:=bt7.frozen 4;have l4:=bt7.cell 4;simp only[List.getElem?_cons_succ,List.getElem?_cons_zero] at l4;obtain⟨V8,hV8'⟩:∃V8,V8=V7.setCell ⟨w15.heap.size,4,none⟩ (.slice (some ⟨w16.heap.size,0,none⟩) 1 1):=⟨_,rfl⟩;have hW8:=hV8'.symm;have bt8:Blk V8 w15.heap.size 73 [.int .i64 1,.int .i64 y1,.int .i64 y2,.int .i64 y3,.slice (some ⟨w16.heap.size,0,none⟩) 1 1,.slice none 0 0]:=by rw[hV8'];simpa using bt7.set_ 4 (.slice (some ⟨w16.heap.size,0,none⟩) 1 1)
           have hc8:Chg (fun k=>k=w15.heap.size) V7 V8:=by rw[hV8'];exact z1e _ _ _ _
           have be8:Blk V8 w16.heap.size 60 [.int .i64 2,.int .i64 0,.int .u64 0,.int .i64 (ka:Int),.int .i64 (wd - 1),.int .i64 0,.int .i64 0,.slice none 0 0]:=hc8.blk hb7' (by omega);obtain⟨j0,j1,j2,j3,j4,j5⟩:=bt8.get6;obtain⟨V9,hV9',hx9',hb9'⟩:=z6v V8 (.int .i64 1) (.int .i64 y1) (.int .i64 y2) (.int .i64 y3) (.slice (some ⟨w16.heap.size,0,none⟩) 1 1) (.slice none 0 0) 73;have hW9:=hV9'.symm;have be9:=be8.ext hx9';have hf9:FrS mb w14 V9:=(((X16.o.chg.trans hfs).trans hx7'.chg).trans_new hc8 (fun i hi=>by have:i=w15.heap.size:=hi;omega)).trans hx9'.chg;have HMK9:=Hd (HMK3.o.back hf9 hmk ((hx7'.chg.trans hc8).trans hx9'.chg) (by omega) hcm6);have HO9:=Hd ((FrQ.of_chg hf9).ec HO3.o HMK9.o (by rw[hcm6.d];exact HO3.o.gd) (HO3.o.inv.cnt hcm6));have HQ9:=Hd (HQ3.o.trans (.of_chg hf9));have hsl9:SlT6 V9 [j4n (y1,y2,y3) (k8i m6.d.sigs (ka:Int))] (.slice (some ⟨V8.heap.size,0,none⟩) 1 1):=by
            have h1:SlE9 (fun _=>True) V9 [k8i m6.d.sigs (ka:Int)] (.slice (some ⟨w16.heap.size,0,none⟩) 1 1):=by
             unfold k8i;rw[HWD.o];exact SlE9.one be9 trivial (RE9.leaf 2 0 0 (ka:Int) (wd - 1) 0 0)
            exact(SlT9.one hb9' trivial (RT9_iff.2 ⟨_,.slice none 0 0,rfl,h1,SlY.nil⟩)).slT (fun y _=>RT9.rt6 y)
           have KP:=Hd (z5e N0 mb V9.heap.size V9.heap.size (.slice va fl.length vcap) _ up uc m6 false [j4n (y1,y2,y3) (k8i m6.d.sigs (ka:Int))] (.slice (some ⟨V8.heap.size,0,none⟩) 1 1) V9 HMK9.o hsl9 HO9.o.inv.pr);have HRP:=Hd (show R=(do let m3←z1g false [j4n (y1,y2,y3) (k8i m6.d.sigs (ka:Int))] m6;z5p s hh.1.sigs E (of.ports.drop (k3+1)) m3) by rw[HRR.o,q0d HX.o HIO.o.2.symm HKA.o,HR14.o];simp only[bind,Except.bind];rw[HR15.o];simp only;rw[HR16.o]);clear hr hmk hfs hcm6 hzr hCg hg1 hRg htg hgl hD1 hwd hgw hV7' hx7' hb7' bt7 hV8' bt8 hc8 be8 hV9' hx9' hb9' be9 hf9 hsl9 KC;have hiw:=HIW.o;go_wp2_with fail
           go_at_call 107;refine KP.o.mono ?_;clear hiw;rintro e w17 (⟨m7,u,hr,rfl,rfl,vs',vp',vc',hmk,hfp⟩|⟨c,hr,rfl,hfp⟩);rotate_left
           ·exact⟨rfl,.no (by rw[HRP.o,hr];rfl) ((F13.o.trans (HQ9.o sb mp)).trans (hfp.wide (y1j _)))⟩
           have hd7:m7.d.sigs=m6.d.sigs:=by rw[(z2u hr).1]
           have HO10:=Hd ((FrQ.of_fr hfp).ec HO9.o hmk (by rw[hd7];exact HO9.o.gd) (HO9.o.inv.process hr));have HQ10:=Hd (HQ9.o.trans (.of_fr hfp));have HN:=Hd (show R=z5p s hh.1.sigs E (of.ports.drop (k3+1)) m7 by rw[HRP.o,hr];rfl);have HML7:=Hd (show y.2.d.sigs.length≤m7.d.sigs.length by rw[hd7,HD6.o];exact HML.o);clear hr hmk hfp hd7 l1 l2 l3 l4 hlm j0 j1 j2 j3 j4 j5;go_wp2_with fail
           go_roundw;case rel=>exact⟨k3+1,m7,by omega,by go_num,HO10.o,HQ10.o,HML7.o,HN.o⟩
           case measure=>simp[intOf];omega
          ·have HN:=Hd (show R=z5p s hh.1.sigs E (of.ports.drop (k3+1)) m4 by
            rw[HRR.o,k3a];rw[←HIO.o.1,←HIO.o.2];cases ib<;>cases ob<;>simp_all)
           cases ib with
           |false=>
            clear hgo;go_wp2_with fail
            go_roundw;case rel=>exact⟨k3+1,m4,by omega,by go_num,HO2.o,HQ2.o,HML.o,HN.o⟩
            case measure=>simp[intOf];omega
           |true=>
            cases ob with
            |true=>exact absurd ⟨rfl,rfl⟩ hgo
            |false=>
             clear hgo;go_wp2_with fail
             go_roundw;case rel=>exact⟨k3+1,m4,by omega,by go_num,HO2.o,HQ2.o,HML.o,HN.o⟩
             case measure=>simp[intOf];omega
         ·have hkq:k3=of.ports.length:=by omega
          have HRR:=Hd (show R=.ok m4 by rw[hR,hkq,List.drop_length];rfl);clear hR heo hfq hml hkq;go_wp2_with fail
          refine bodyPost_ret (v:=z1w) ?_ rfl (.ok HRR.o ⟨rfl,HEO.o,F13.o.trans (HFQ3.o sb mp)⟩);simp[results,results111,go_sem,z1w]
end Go.Proofs.YtlfmlodanoolhaaGreatDoor
