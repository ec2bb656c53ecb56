import Derived.Test.YtlfmlodanoolhaaGreatDoorQ37
set_option linter.all false
set_option maxRecDepth 200000
set_option maxHeartbeats 0
namespace Go.Proofs.YtlfmlodanoolhaaGreatDoor
section
open Go Go.RowKit Go.Proofs.Tryz
theorem kh{aB:ByteArray->Option Int}:∀(l:List Bnd) (s b:Sc),cp aB l s=.ok b->b.sigs=s.sigs/\b.path=s.path
 |[],s,b,a=>by injection a with a;rw[<-a];exact⟨rfl,rfl⟩
 |p::l,s,b,a=>by
  rw[cp] at a;cases htd:aB p.name with
  |some v=>
   rw[htd] at a;obtain⟨v,-,a⟩:=ak a;obtain⟨c,d⟩:=kh l _ b a;exact⟨c,d⟩
  |none=>
   rw[htd] at a;obtain⟨v,-,a⟩:=ak a;obtain⟨c,d⟩:=kh l _ b a;exact⟨c,d⟩
theorem lP{kind:Prt->Int}(e:∀p,1<=kind p/\kind p<=3):∀(l:List Prt) (s:Sc) (m:Mk) (b:Sc×Mk),At m.d.sigs s->Wf m->cm kind l s m=.ok b->
 Wf b.2/\At b.2.d.sigs b.1/\b.1.path=s.path/\∃n,b.2.d.sigs=m.d.sigs++n/\n.map (λg=>(g.name,g.kind))=l.map (λp=>(s.path++p.name,kind p))
 |[],s,m,b,hat,hw,a=>by injection a with a;rw[<-a];exact⟨hw,hat,rfl,[],(List.append_nil _).symm,rfl⟩
 |p::l,s,m,b,hat,hw,a=>by
  rw[cm] at a;obtain⟨w,t,a⟩:=ak a;obtain⟨f,u,a⟩:=ak a;have:=e p;obtain⟨h,j,c,d⟩:=Wf.signal hw hat (gV t) ⟨this.1,zO⟩ (λ_=>rfl) u;obtain⟨i,k,o,n,q,r⟩:=lP e l f.1 f.2 b j h a;refine⟨i,k,o.trans c,_::n,by rw[q,d,List.append_assoc];rfl,?_⟩;rw[List.map_cons,List.map_cons,r,c]
def PortsAt(c:List Sg)(s:Sc)(l:List Prt):Prop:=∀b,b∈l->∃a,s.sigs b.name=some a/\0<=a/\a<c.length/\(aG c a).kind=3
theorem PortsAt.more{b n:List Sg}{s:Sc}{l:List Prt}(h:PortsAt b s l):PortsAt (b++n) s l:=λi g=>by
 obtain⟨c,d,a,e,f⟩:=h i g;exact⟨c,d,a,by rw[List.length_append];omega,by rw[mO a e];exact f⟩
theorem zi(l:List Sg)(g:Sg):aG (l++[g]) l.length=g:=by
 unfold aG;rw[List.getD_eq_getElem?_getD];simp
theorem ro:∀(l pre:List Prt) (s:Sc) (m:Mk) (b:Sc×Mk),PortsAt m.d.sigs s pre->cm (λ_=>3) l s m=.ok b->PortsAt b.2.d.sigs b.1 (pre++l)
 |[],pre,s,m,b,h0,a=>by injection a with a;rw[<-a,List.append_nil];exact h0
 |p::l,pre,s,m,b,h0,a=>by
  rw[cm] at a;obtain⟨w,k,a⟩:=ak a;obtain⟨h,j,a⟩:=ak a;have i:=(fa j).1;have:=ro l (pre++[p]) h.1 h.2 b (λg c=>by
   rw[i];show∃e,ay s.sigs p.name (m.d.sigs.length:Int) g.name=some e/\0<=e/\e<((m.d.sigs++[(⟨s.path++p.name,w,3,0⟩:Sg)]).length:Int)/\(aG (m.d.sigs++[(⟨s.path++p.name,w,3,0⟩:Sg)]) e).kind=3;unfold ay;by_cases f:p.name=g.name
   ·refine⟨(m.d.sigs.length:Int),by rw[if_pos f],zO,by rw[List.length_append];simp only[List.length_cons,List.length_nil];omega,by rw[zi]⟩
   ·rw[if_neg f];rcases y9b.1 c with c|c
    ·exact h0.more g c
    ·exact absurd (by rw[List.mem_singleton.1 c]) f) a
  rw[List.append_assoc] at this;exact this
theorem mU{s o:Sc}{t:ByteArray->Option X}:∀(l:List Prt) (m c:Mk),At m.d.sigs s->PortsAt m.d.sigs o l->Wf m->cq s o t l m=.ok c->Wf c/\c.d.sigs=m.d.sigs
 |[],m,c,_,_,hw,a=>by injection a with a;rw[<-a];exact⟨hw,rfl⟩
 |p::l,m,c,hat,hp,hw,a=>by
  rw[cq] at a;split at a
  ·exact mU l m c hat (λb h=>hp b (bj _ h)) hw a
  ·obtain⟨C,j,a⟩:=ak a;obtain⟨f,y,a⟩:=ak a;obtain⟨D,k,a⟩:=ak a;obtain⟨A,K,n⟩:=hw.count zD j;obtain⟨q,J,r,-,e⟩:=jc (d:=m.d) hat _ C f n A.cnt y;obtain⟨b,E,F,G,H⟩:=hp p (bT ..);rw[E,n] at k;have L:=hw.sg (aG m.d.sigs b) (by
    unfold aG;rw[List.getD_eq_getElem?_getD,List.getElem?_eq_getElem (by omega:b.toNat<m.d.sigs.length)];exact am _)
   obtain⟨u,g⟩:=hw.step (m1:=f.2) r (l:=[_]) (λM z=>by
    rw[List.mem_singleton.1 z];refine okT_iff.2 ⟨λ_=>⟨F,G,Int.le_refl _,?_,?_,?_⟩,λI i=>by rw[List.mem_singleton.1 i];exact q,λI i=>(by cases i)⟩
    ·show 0<=(aG m.d.sigs b).w - 1;omega
    ·show(aG m.d.sigs b).w - 1<(aG m.d.sigs b).w;omega
    ·show dz false (aG m.d.sigs b).kind=true;rw[H];rfl) (by
     have:=(cQ j).1;show m.count+((nT _+0:Nat):Int)<=f.2.count;rw[eR];show m.count+((1+(nE f.1+0+0)+0:Nat):Int)<=f.2.count;omega) e k
   obtain⟨v,x⟩:=mU l D c (by rw[g];exact hat) (by rw[g];exact λb h=>hp b (bj _ h)) u a;exact⟨v,x.trans g⟩
theorem nk{s:Sc}{u:ByteArray->Option Int}{v:ByteArray->Option X}:∀(l:List Prt) (m c:Mk),At m.d.sigs s->(∀g,g∈l->∃h,u g.name=some h/\0<=h/\h<m.d.sigs.length)->Wf m->cd s u v l m=.ok c->Wf c/\c.d.sigs=m.d.sigs
 |[],m,c,_,_,hw,a=>by injection a with a;rw[<-a];exact⟨hw,rfl⟩
 |g::l,m,c,hat,hp,hw,a=>by
  rw[cd] at a;split at a
  ·obtain⟨S,n,a⟩:=ak a;obtain⟨L,o,a⟩:=ak a;obtain⟨f,p,a⟩:=ak a;obtain⟨H,q,a⟩:=ak a;obtain⟨E,P,t⟩:=hw.count zD n;obtain⟨F,Q,A⟩:=E.count zD p;have r:f.d=m.d:=A.trans t;rw[t] at o;have C:=sG hat o;obtain⟨b,I,J,K⟩:=hp g (bT ..);rw[I,r] at q;have R:=hw.sg (aG m.d.sigs b) (by
    unfold aG;rw[List.getD_eq_getElem?_getD,List.getElem?_eq_getElem (by omega:b.toNat<m.d.sigs.length)];exact am _)
   obtain⟨x,i⟩:=hw.step (m1:=f) r (l:=[_]) (λL D=>by
    rw[List.mem_singleton.1 D];refine okT_iff.2 ⟨λ_=>C,λM k=>?_,λM k=>(by cases k)⟩;rw[List.mem_singleton.1 k];refine okE_iff.2 ⟨⟨λ_=>⟨J,K,Int.le_refl _,?_,?_⟩,λe=>absurd e (by show¬(2:Int)=3;decide)⟩,λT G=>(by cases G)⟩
    ·show 0<=(aG m.d.sigs b).w - 1;omega
    ·show(aG m.d.sigs b).w - 1<(aG m.d.sigs b).w;omega) (by
     have N:=(cQ n).1;have O:=(cQ p).1;show m.count+((nT _+0:Nat):Int)<=f.count;rw[eR];show m.count+((1+(nE (gb m.d.sigs b)+0+0)+0:Nat):Int)<=f.count;rw[ff];show m.count+((1+((1+0)+0+0)+0:Nat):Int)<=f.count;omega) F.cnt q
   obtain⟨y,z⟩:=nk l H c (by rw[i];exact hat) (by rw[i];exact λb j=>hp b (bj _ j)) x a;exact⟨y,z.trans i⟩
  ·exact nk l m c hat (λb j=>hp b (bj _ j)) hw a
structure ModOk(m:Mdl):Prop where
 right:dW m
 ports:∀p,p∈m.ports->bo p.name
 items:∀t,t∈m.items->MayI t
theorem wM{f:List Mdl}(h:cy f=0){m:Mdl}(a:m∈f)(d:∀m,m∈f->df m):ModOk m:=by
 obtain⟨-,-,g,-⟩:=iB h;obtain⟨-,-,b,c⟩:=d m a;exact⟨g m a,λi e=>(b i e).1,c⟩
theorem AH:ModOk ⟨⟨#[]⟩,[],[],[]⟩:=⟨⟨trivial,List.nodup_nil,trivial⟩,λb a=>(by cases a),λb a=>(by cases a)⟩
theorem ws{c:ByteArray->Prop}{l:List Itm}:bh c l->∀a,a∈l->inI c a:=by
 induction l with
 |nil=>intro _ a b;cases b
 |cons x l ih=>intro d a b;exact(List.mem_cons.1 b).elim (λe=>e▸d.1) (ih d.2 a)
theorem sd{inst:Itm->Sc->Mk->Rs Mk}{of:Mdl}(e:ModOk of)(l:∀a,MayI a->a.op=7->lh inst a){s:Sc}{m:Mk}{b:Sc×Mk}(k:At m.d.sigs s)(o:Wf m)(h:bf inst of.items s m=.ok b):
 Wf b.2/\At b.2.d.sigs b.1/\b.1.path=s.path/\Grow m b.2 (NmT s.path (λx=>x∈ap of.items)):=by
 obtain⟨f,g,i⟩:=e.right;exact igs of.items (λa c=>⟨e.items a c,tH (λ_=>True) (λ_ _ _ _=>trivial) (λ_ _ _ _=>trivial) (λa _ n j=>l a n j) a _ trivial (e.items a c) (tokIs_iff.1 f a c) (ws i a c)⟩) (List.nodup_append.1 g).1 s m b k o h
theorem rd{n:List Sg}{l:List Prt}{b:ByteArray}{kind:Prt->Int}(h:n.map (λa=>(a.name,a.kind))=l.map (λp=>(b++p.name,kind p))):n.map Sg.name=l.map (λp=>b++p.name):=by
 have:=congrArg (List.map Prod.fst) h;rw[List.map_map,List.map_map] at this;exact this
theorem mw{g:ByteArray}:∀{l:List Prt},(l.map Prt.name).Nodup->(l.map (λa=>g++a.name)).Nodup
 |[],_=>List.nodup_nil
 |a::l,h=>by
  obtain⟨b,c⟩:=List.nodup_cons.1 (show(a.name::l.map Prt.name).Nodup from h);refine List.nodup_cons.2 ⟨λd=>?_,mw c⟩;obtain⟨i,f,e⟩:=y9c.1 d;have e:=congrArg bl e;rw[dM,dM] at e;exact b (y9c.2 ⟨i,f,gg (List.append_cancel_left e)⟩)
theorem mz{n:List Sg}{l:List Prt}{b:ByteArray}{kind:Prt->Int}(h:n.map (λg=>(g.name,g.kind))=l.map (λa=>(b++a.name,kind a))){g:Sg}(f:g∈n):∃a,a∈l/\g.name=b++a.name/\g.kind=kind a:=by
 have:(g.name,g.kind)∈l.map (λa=>(b++a.name,kind a)):=by rw[<-h];exact y9c.2 ⟨g,f,rfl⟩
 obtain⟨a,i,e⟩:=y9c.1 this;injection e with c d;exact⟨a,i,c.symm,d.symm⟩
theorem tI{f:List Mdl}(V:∀m,m∈f->ModOk m):∀(k:Nat) (t:Itm),lh (ci f k) t:=by
 intro k;induction k with
 |zero=>intro t s m F _ _ a;rw[ci] at a;cases a
 |succ k ih=>
  intro t s m F C a2 a;rw[ci] at a;have i:ModOk ((bd f t.of).getD ⟨⟨#[]⟩,[],[],[]⟩):=by
   cases hfd:bd f t.of with
   |none=>exact AH
   |some of=>exact V of (fZ hfd).1
  generalize (bd f t.of).getD ⟨⟨#[]⟩,[],[],[]⟩=of at a i;obtain⟨aB,-,a⟩:=ak a;obtain⟨b1,-,a⟩:=ak a;obtain⟨b8,-,a⟩:=ak a;obtain⟨p,b,a⟩:=ak a;obtain⟨a4,j,a⟩:=ak a;obtain⟨a8,S,a⟩:=ak a;unfold dF at b;obtain⟨v,T,b⟩:=ak b;obtain⟨a0,a1⟩:=kh _ _ _ T;have U:At m.d.sigs v:=λb6 y ha=>by rw[a0] at ha;cases ha
  obtain⟨y,K,z,n,d,e⟩:=lP (λ_=>⟨zD,zD⟩) of.ports v m p U a2 b;rw[a1] at z e;have E:=ro of.ports [] v m p (λg c=>(by cases c)) b;obtain⟨H,l⟩:=mU of.ports p.2 a4 (by rw[d];exact C.more) E y j;have Z:=i.right.2.1;obtain⟨b3,X,D⟩:=List.nodup_append.1 Z;have Y:=(List.nodup_append.1 X).1;have A:Grow m p.2 (NmT (s.path++t.name++tDot) (λx=>x∈of.ports.map Prt.name)):=by
   refine⟨n,d,λb2 W=>?_,by rw[rd e];exact mw Y⟩;obtain⟨g,c,O,P⟩:=mz e W;exact⟨.inl P,g.name,⟨#[]⟩,y9c.2 ⟨g,c,rfl⟩,by rw[O,mH],na⟩
  obtain⟨I,a9,b0,o⟩:=sd i (λt _ _=>ih t) (by rw[l];exact K) H S;rw[z] at o;have R:=A.trans (o.pre l) (λx b j=>by
   obtain⟨h,r,u⟩:=b.apart j (λt q=>by obtain⟨g,c,rfl⟩:=y9c.1 q;exact jb (i.ports g c)) (iq i.items);exact D h u h (y9b.2 (.inl r)) rfl)
  obtain⟨b5,N,-⟩:=R;have Q:=o;obtain⟨b4,M,-⟩:=Q;obtain⟨J,L⟩:=nk of.ports a8.2 F (by rw[N];exact C.more) (λg c=>by
   obtain⟨a5,a6,a7,b7,-⟩:=E g c;refine⟨a5,a6,a7,?_⟩;rw[M,l,List.length_append];omega) I a
  refine⟨J,(A.trans (o.pre l) (λx b j=>by
   obtain⟨h,r,u⟩:=b.apart j (λt q=>by obtain⟨g,c,rfl⟩:=y9c.1 q;exact jb (i.ports g c)) (iq i.items);exact D h u h (y9b.2 (.inl r)) rfl)).post L|>.mono λx a3=>?_⟩
  rcases a3 with⟨h,G,-,rfl,-⟩|⟨h,G,-,rfl,-⟩<;>exact⟨h++G,gg (by simp only[dM,List.append_assoc])⟩
structure DsnOk(of:Mdl)(d:Dsn):Prop where
 wf:∃c b,Wf ⟨d,c,b⟩
 ports:∃p n,d.sigs=p++n/\p.map (λg=>(g.name,g.kind))=of.ports.map (λp=>(p.name,if p.o=true then(2:Int) else 1))/\∀g,g∈n->g.kind=3\/g.kind=4
 names:(d.sigs.map Sg.name).Nodup
 full:∀g,g∈d.sigs->g.name≠⟨#[]⟩
theorem uK:Wf noMk:=⟨λb a=>(by cases a),λb a=>(by cases a),λb a=>(by cases a),zD,zD,zD,zD⟩
theorem qa{f:List Mdl}(W:cy f=0->∀m,m∈f->df m){E:ByteArray}{ps:List (ByteArray×Int)}{d:Dsn}(h:bN f E ps=.ok d):cy f=0/\∃of,bd f E=some of/\DsnOk of d:=by
 unfold bN at h;split at h
 ·cases h
 rename_i k
 have k:cy f=0:=Decidable.of_not_not k;refine⟨k,?_⟩;split at h
 ·cases h
 rename_i of A
 refine⟨of,A,?_⟩;obtain⟨aB,-,h⟩:=ak h;obtain⟨T,i,h⟩:=ak h;obtain⟨F,P,h⟩:=ak h;injection h with h;have z:∀m,m∈f->ModOk m:=λm V=>wM k V (W k)
 have j:=z of (fZ A).1;unfold dF at i;obtain⟨D,Q,i⟩:=ak i;obtain⟨a2,a3⟩:=kh _ _ _ Q;have S:At noMk.d.sigs D:=λb1 v ha=>by rw[a2] at ha;cases ha
 obtain⟨v,H,y,n,J,e⟩:=lP (kind:=λa=>if a.o=true then 2 else 1) (λa=>by show 1<=(if a.o=true then(2:Int) else 1)/\(if a.o=true then(2:Int) else 1)<=3;split<;>decide) of.ports D noMk T S uK i;rw[a3] at y e;have a1:=j.right.2.1;obtain⟨b0,Y,Z⟩:=List.nodup_append.1 a1;have a0:=(List.nodup_append.1 Y).1;obtain⟨G,a8,a9,C,I,p,M⟩:=sd j (λc _ _=>tI z f.length c) H v P;rw[y] at p;have s:d.sigs=n++C:=by rw[<-h,I,J];rfl
 have K:n.map (λg=>(g.name,g.kind))=of.ports.map (λa=>(a.name,if a.o=true then(2:Int) else 1)):=by
  rw[e];exact List.map_congr_left λa _=>by simp only[gA]
 refine⟨⟨F.2.count,F.2.bits,by rw[<-h];exact G⟩,⟨n,C,s,K,λg b=>(p g b).1⟩,?_,?_⟩
 ·rw[s,List.map_append];refine List.nodup_append.2 ⟨by rw[rd e];exact mw a0,M,λx a4 u a5 L=>?_⟩;obtain⟨g,b,rfl⟩:=y9c.1 a4;obtain⟨N,U,rfl⟩:=y9c.1 a5;obtain⟨a,l,r,-⟩:=mz e b;have R:NmT ⟨#[]⟩ (λx=>x∈of.ports.map Prt.name) g.name:=⟨a.name,⟨#[]⟩,y9c.2 ⟨a,l,rfl⟩,by rw[r,mH],na⟩;obtain⟨u,a6,a7⟩:=R.apart (by rw[L];exact(p N U).2) (λc t=>by obtain⟨a,l,rfl⟩:=y9c.1 t;exact jb (j.ports a l)) (iq j.items);exact Z u a7 u (y9b.2 (.inl a6)) rfl
 ·intro g b;rw[s] at b;have full:∀(c q:ByteArray),ia c->c++q≠⟨#[]⟩:=λc q t X=>by
   have:=congrArg bl X;rw[dM] at this;exact t.1 (gg (List.append_eq_nil_iff.1 this).1)
  rcases y9b.1 b with b|b
  ·obtain⟨a,l,r,-⟩:=mz e b;rw[r,gA];exact(jb (j.ports a l)).1
  ·obtain⟨c,q,i,O,-⟩:=(p g b).2;rw[O,gA];exact full c q (iq j.items c i)
def er(l:List Bnd)(o:ByteArray->Option X):ByteArray->Option X:=l.foldl (λo a=>ay o a.name a.x) o
theorem rO{d:ByteArray->Prop}{e:Int}:∀(l:List Bnd) (o c:ByteArray->Option X),bZ d e (λx=>.ok x) l o=.ok c->c=er l o
 |[],o,c,a=>by injection a with a;rw[<-a];rfl
 |b::l,o,c,a=>by
  rw[bZ] at a;obtain⟨f,-,a⟩:=ak a;exact rO l (ay o b.name b.x) c a
theorem pf{α:Type}{a:ByteArray->Prop}{e:Int}{val:X->Rs α}(b:Bnd)(l:List Bnd)(o:ByteArray->Option α)(h:o b.name=none/\a b.name):bZ a e val (b::l) o=(do let v<-val b.x;bZ a e val l (ay o b.name v)):=by
 rw[bZ];unfold aQ;rw[if_pos h];rfl
theorem rL{α:Type}{a:ByteArray->Prop}{e:Int}{val:X->Rs α}(b:Bnd)(l:List Bnd)(o:ByteArray->Option α)(h:¬(o b.name=none/\a b.name)):bZ a e val (b::l) o=.error e:=by
 rw[bZ];unfold aQ;rw[if_neg h];rfl
theorem pA{f:List Mdl}(h:ee f=0):f.length<=64/\aa ar f<=65536/\ai bH f<=64/\∀m,m∈f->df m:=by
 unfold ee at h;split at h
 ·exact absurd h zD
 ·rename_i a
  rw[sM,yes_iff] at h;exact⟨zO,h⟩
theorem km{f:List Mdl}(h:cy f=0):∀m,m∈f->df m:=(pA (iB h).1).2.2.2
theorem oA{x:X}(b:x.op=1)(e:x.w=0)(d:bF x.v)(a:MayX x)(s:Sc):aJ s x=.ok x.v:=by
 obtain⟨⟨c,-⟩,-⟩:=MayX_iff.1 a;obtain⟨op,f,n,w,v,l⟩:=x;simp only[X.op,X.w,X.v,X.l] at b e d c⊢;subst b e;have i:l=[]:=by
  unfold eh at c;exact dm zO
 subst i;have g:al (.mk 1 f n 0 v [])=1:=by rw[dL];rfl
 have h:aM (.mk 1 f n 0 v [])=1:=by rw[hV];rfl
 unfold aJ bC;rw[if_pos (checkX_zero.2 ⟨by rw[g];decide,by rw[h];decide,a⟩),qK];unfold cP;rw[if_pos d];rfl
theorem il(z:Int):MayX (.mk 1 ⟨#[]⟩ 0 0 z []):=.mk _ ⟨.inl ⟨.inl rfl,rfl⟩,.inr (.inr (.inr ⟨(show(1:Int)≠5/\(1:Int)≠6/\(1:Int)≠10 by decide),rfl⟩)),.inr ⟨rfl,(show(0:Int)<=0 by decide),(show(0:Int)<=64 by decide),.inl rfl⟩,.inr ⟨(show¬dY 1 by unfold dY;decide),rfl⟩⟩ (λb a=>by cases a)
def da(l:List Bnd):List (ByteArray×Int):=l.map λa=>(a.name,a.x.v)
theorem sH{of:Mdl}:∀(l:List Bnd) (o:ByteArray->Option Int),(l.map Bnd.name).Nodup->(∀a,a∈l->a∈of.params/\o a.name=none/\bF a.x.v)->cG of (da l) o=.ok (l.foldl (λo a=>ay o a.name a.x.v) o)
 |[],o,_,_=>rfl
 |a::l,o,hn,h=>by
  obtain⟨i,j⟩:=List.nodup_cons.1 (show(a.name::l.map Bnd.name).Nodup from hn);obtain⟨k,n,p⟩:=h a (bT ..);show cG of ((a.name,a.x.v)::da l) o=_;rw[cG];unfold aQ;rw[if_pos (show o a.name=none/\∃b,b∈of.params/\b.name=a.name from⟨n,a,k,rfl⟩)];simp only[bind,Except.bind];rw[if_pos (show 0<=a.x.v/\a.x.v<=2147483647 from p)];simp only;rw[sH l _ j (λb c=>?_)]
  ·rfl
  ·obtain⟨d,f,g⟩:=h b (bj _ c);refine⟨d,?_,g⟩;unfold ay;rw[if_neg (λe=>i (by rw[e];exact y9c.2 ⟨b,c,rfl⟩))];exact f
theorem qQ{a:ByteArray}:∀(l:List Bnd) (o:ByteArray->Option Int),¬a∈l.map Bnd.name->l.foldl (λo b=>ay o b.name b.x.v) o a=o a
 |[],o,_=>rfl
 |b::l,o,h=>by
  rw[List.map_cons,List.mem_cons,not_or] at h;rw[List.foldl_cons,qQ l _ h.2];unfold ay;rw[if_neg (λe=>h.1 e.symm)]
theorem qb:∀(l:List Bnd) (o:ByteArray->Option Int),(l.map Bnd.name).Nodup->∀b,b∈l->l.foldl (λo b=>ay o b.name b.x.v) o b.name=some b.x.v
 |[],o,_,b,c=>by cases c
 |a::l,o,hn,b,c=>by
  obtain⟨d,e⟩:=List.nodup_cons.1 (show(a.name::l.map Bnd.name).Nodup from hn);rw[List.foldl_cons];rcases List.mem_cons.1 c with rfl|c
  ·rw[qQ l _ d];unfold ay;rw[if_pos rfl]
  ·exact qb l _ e b c
theorem pn{T:ByteArray->Option Int}:∀(l:List Bnd) (s:Sc),(∀a,a∈l->T a.name=some a.x.v/\∀s,aJ s a.x=.ok a.x.v)->cp T l s=cp (λ_=>none) l s
 |[],s,_=>rfl
 |a::l,s,h=>by
  obtain⟨c,d⟩:=h a (bT ..);rw[cp,cp,c];simp only[d];exact pn l _ (λb e=>h b (bj _ e))
theorem CD{f:List Mdl}{e:ByteArray}{of:Mdl}(h:bd f e=some of)(d:∀a,a∈of.params->a.x.op=1/\a.x.w=0/\bF a.x.v):bN f e (da of.params)=bN f e []:=by
 unfold bN;by_cases c:cy f≠0
 ·rw[if_pos c,if_pos c]
 rw[if_neg c,if_neg c,h];have g:cy f=0:=Decidable.of_not_not c;have i:=(fZ h).1;have l:=(iB g).2.2.1 of i;have j:(of.params.map Bnd.name).Nodup:=(List.nodup_append.1 (List.nodup_append.1 l.2.1).2.1).2.1;have k:=(km g of i).2.1;simp only;rw[sH of.params _ j (λa b=>⟨b,rfl,(d a b).2.2⟩),show cG of [] (λ_=>none)=.ok (λ_=>none) from rfl];simp only[bind,Except.bind];unfold dF;rw[pn of.params _ (λa b=>⟨qb of.params _ j a b,λs=>oA (d a b).1 (d a b).2.1 (d a b).2.2 (k a b).2 s⟩)]
end
section
open Go Go.RowKit Go.Proofs.Tryz
attribute [local go_sem] aW
theorem BW:Enters Tryz.prog 157:=⟨λ_ _=>by kernel_rfl⟩
theorem BV:Enters Tryz.prog 38:=⟨λ_ _=>by kernel_rfl⟩
theorem AY:Enters Tryz.prog 156:=⟨λ_ _=>by kernel_rfl⟩
theorem yL(B:Nat)(x:Prt)(w:World)(a:List Value)(h:RP w B x a):
 Calls Tryz.prog 157 #[.agg a.toArray] w λe w'=>e=.returned (.int .i64 3)/\Ext w w':=by
 obtain⟨l,rfl,d⟩:=h;obtain⟨j,rfl,b⟩:=RX_iff.1 d;have q:=b.oneCell;obtain⟨k,c,f,i⟩:=dg w (.string x.name) (.bool x.o) (.int .i64 x.w.op) (.string x.w.name) (.int .i64 x.w.n) (.int .i64 x.w.w) (.int .u64 x.w.v) j 42;have p:=c.symm;have g:=Hd f;clear c i f b d
 go_in
 go_wp2_with fail
 go_ret;exact⟨rfl,g.o⟩
theorem yK(B:Nat)(x:Prt)(w:World)(b:List Value)(l:RP w B x b):
 Calls Tryz.prog 38 #[.agg b.toArray] w λe w'=>e=.returned (.int .i64 (if x.o=true then 2 else 1))/\Ext w w':=by
 obtain⟨r,rfl,g⟩:=l;obtain⟨p,rfl,c⟩:=RX_iff.1 g;have F:=c.oneCell;obtain⟨j,i⟩:∃k,k=x.o:=⟨_,rfl⟩;rw[<-i];obtain⟨q,d,h,f⟩:=dg w (.string x.name) (.bool j) (.int .i64 x.w.op) (.string x.w.name) (.int .i64 x.w.n) (.int .i64 x.w.w) (.int .u64 x.w.v) p 42;have E:=d.symm;obtain⟨s,t,u,y,z,A,C,D⟩:=f.get8;have a:=Hd h;clear d f h c g i;cases j with
 |true=>
  go_in
  go_wp2_with fail
  go_ret;exact⟨rfl,a.o⟩
 |false=>
  go_in
  go_wp2_with fail
  go_ret;exact⟨rfl,a.o⟩
def sR(w:World)(e:Ending)(w':World):Prop:=e=.returned aO/\Ext w w'
theorem xM(B:Nat)(x:Bnd)(w:World)(a:List Value)(g:RB w B x a):
 Calls Tryz.prog 156 #[.agg a.toArray] w (sR w):=by
 obtain⟨k,rfl,d⟩:=g;obtain⟨i,rfl,b⟩:=RX_iff.1 d;have p:=b.oneCell;obtain⟨j,c,e,h⟩:=fG w (.string x.name) (.int .i64 x.x.op) (.string x.x.name) (.int .i64 x.x.n) (.int .i64 x.x.w) (.int .u64 x.x.v) i 45;have l:=c.symm;have f:=Hd e;clear c h e b d
 go_in
 go_wp2_with fail
 refine bodyPost_ret (v:=aO) ?_ rfl ⟨rfl,f.o⟩;simp[results,results156,go_sem,aO]
end
section
open Go Go.RowKit Go.Proofs.Tryz
def zeroXc:List Value:=[.int .i64 0,.string ⟨#[]⟩,.int .i64 0,.int .i64 0,.int .u64 0,.slice none 0 0]
def EnvX(W0:World)(B:Nat)(w:World)(m:Nat)(env:ByteArray->Option X):Prop:=
 ∃a,MV w m a/\(∀c,c∈a->MapKept.IsKey .string c.1)/\∀s:ByteArray,(env s=none->bg a (.string s)=none)/\∀x,env s=some x->∃b,bg a (.string s)=some (.agg b.toArray)/\XOk W0 B x b
section
variable {W0 w w' : World} {B m : Nat} {env : ByteArray → Option X}
theorem EnvX.ext(h:EnvX W0 B w m env)(e:Ext w w'):EnvX W0 B w' m env:=by
 obtain⟨a,b,c,d⟩:=h;exact⟨a,b.ext e,c,d⟩
theorem EnvX.lt(h:EnvX W0 B w m env):m<w.heap.size:=by
 obtain⟨a,h,-⟩:=h;exact h.lt
theorem EnvX.noTag(h:EnvX W0 B w m env){T:TypeId}(k:Tag w m T):False:=by
 obtain⟨a,h,-⟩:=h;exact h.noTag k
theorem EnvX.of_eq(h:EnvX W0 B w m env)(g:w'.heap[m]? =w.heap[m]?):EnvX W0 B w' m env:=by
 obtain⟨a,⟨c,b,d,e⟩,f⟩:=h;exact⟨a,⟨c,b,g.trans d,e⟩,f⟩
theorem EnvX.new(W0:World)(B:Nat)(w:World):EnvX W0 B (w.alloc (.map #[] 0)) w.heap.size (λ_=>none):=
 ⟨[],MV.new w,(λc a=>nomatch a),λs=>⟨λ_=>rfl,λx b=>nomatch b⟩⟩
theorem EnvX.look(h:EnvX W0 B w m env)(s:ByteArray)(b:Bool):
 ∃a,(Instr.lookup 205 (.map (some m)) (.string s) b).run Tryz.prog w=.ok (if b then .tuple #[.agg a.toArray,.bool (env s).isSome] else .agg a.toArray) w/\(env s=none->a=zeroXc)/\∀x,env s=some x->XOk W0 B x a:=by
 obtain⟨l,e,f,d⟩:=h;have:=e.lookup (et:=40) underlying205 underlying9 (k:=.string s) trivial f (z:=.agg zeroXc.toArray) zK b;cases he:env s with
 |none=>
  refine⟨zeroXc,?_,λ_=>rfl,λx c=>(by cases c)⟩;rw[this,(d s).1 he];cases b<;>rfl
 |some x=>
  obtain⟨a,g,c⟩:=(d s).2 x he;refine⟨a,?_,λi=>(by cases i),λn j=>(by cases j;exact c)⟩;rw[this,g];cases b<;>rfl
theorem EnvX.put(h:EnvX W0 B w m env)(s:ByteArray){x:X}{a:List Value}(l:XOk W0 B x a):
 ∃o,(Instr.mapUpdate 205 (.map (some m)) (.string s) (.agg a.toArray)).run Tryz.prog w=.ok () (aH w m o)/\EnvX W0 B (aH w m o) m (ay env s x):=by
 obtain⟨p,f,c,g⟩:=h;obtain⟨o,j,i⟩:=f.update underlying205 underlying9 (k:=.string s) trivial c (.agg a.toArray);refine⟨o,j,_,i,cM c trivial,λd=>?_⟩;rw[gq];unfold ay;by_cases b:s=d
 ·rw[if_pos (congrArg Value.string b),if_pos b];exact⟨λe=>(by cases e),λq n=>(by cases n;exact⟨a,rfl,l⟩)⟩
 ·rw[if_neg (λe=>b (Value.string.inj e)),if_neg b];exact g d
end
end
section
open Go Go.RowKit Go.Proofs.Tryz
attribute [local go_sem] aW
def BdR{α:Type}(W0:World)(B:Nat)(l:List Bnd)(c:Nat->Prop)(b:(ByteArray->Option α)->World->Prop)(w:World)(o:ByteArray->Option α)(v:Value)(w':World):Prop:=
 ∃a,v=.map (some a)/\w.heap.size<=a/\EnvX W0 B w' a (er l (λ_=>none))/\b o w'/\Chg c w w'
theorem rM{α:Type}(W0:World)(B:Nat)(k:ByteArray->Prop)(a3 a2:FuncId)(d7 d6:Array Value)(e7:Enters Tryz.prog a3)(e6:Enters Tryz.prog a2)(d:Int)(i5:d≠0)(val:X->Rs α)(g:Nat->Prop)(i:(ByteArray->Option α)->World->Prop)(w:World)
 (l:List Bnd) (f4:Value) (i2:Sl (RB W0 B) W0 B 7 l f4) (l4:l.length<=1000000000) (j0:Ext W0 w) (k6:B<=W0.heap.size) (e3:∀b,g b->W0.heap.size<=b/\b<w.heap.size)
 (e4:∀b,b∈l->∀M,RX W0 B b.x M->XOk W0 B b.x M)
 (e0:∀o a0 b,i o a0->Chg (λa=>w.heap.size<=a) a0 b->i o b)
 (e1:∀c w',Chg g w w'->Calls Tryz.prog a3 (#[.string c]++d7) w' λe U=>e=.returned (.bool (yes (k c)))/\Ext w' U)
 (d9:∀b,b∈l->∀o w' a1,Chg g w w'->i o w'->RB W0 B b a1->Calls Tryz.prog a2 (#[.agg a1.toArray]++d6) w' (RunsP (val b.x) (λv f3 U=>f3=aO/\i (ay o b.name v) U/\Chg g w' U) (Chg g w')))
 (h0:i (λ_=>none) w):
 bz Tryz.prog 151 #[f4,.func (.func a3) #[] d7,.int .i64 d,.func (.func a2) #[] d6] w (bZ k d val l (λ_=>none)) (BdR W0 B l g i w) (Chg g w):=by
 have g1:=Hd e1;have f9:=Hd d9;have c4:=Hd e0;have h2:=Hd e4;have l1:=e7.o;have l0:=e6.o;have h4:=Hd (λw'=>ea d w');have d3:=Hd (λw'=>ej d i5 w');obtain⟨a0,j8,rfl,k9,f0⟩:=i2;have g9:=Hd f0;obtain⟨j,f⟩:∃j,j=bZ k d val l (λ_=>none):=⟨_,rfl⟩;rw[<-f];have d2:=Hd (show j=bZ k d val (l.drop 0) (λ_=>none) from f);obtain⟨G,H⟩:∃G,G=w.alloc (.map #[] 0):=⟨_,rfl⟩;have i3:=H.symm;have c6:=Hd (show EnvX W0 B G w.heap.size (λ_=>none) by rw[H];exact EnvX.new W0 B w);have b9:Ext w G:=by rw[H];exact aD _ _
 have d0:=Hd b9;have c1:=Hd (c4.o _ _ _ h0 b9.chg);have c3:=Hd e3;have f2:w.heap.size<G.heap.size:=by rw[H];simp
 clear f0 e1 d9 e0 e4 f H b9 h0 e3 e7 e6;have l5:=@run_makeMap Tryz.prog;go_enter func151,ntmps151;go_wp2_with fail
 go_loopw [17] (λJ wr=>∃(a:Nat) (o:ByteArray->Option α),a<=l.length/\J=.int .i64 a/\i o wr/\EnvX W0 B wr w.heap.size (er (l.take a) (λ_=>none))/\(∀c,o c=none↔er (l.take a) (λ_=>none) c=none)/\Chg g w wr/\w.heap.size<wr.heap.size/\j=bZ k d val (l.drop a) o) (λJ _=>l.length - (intOf J).toNat)
 case atStart=>exact⟨0,λ_=>none,aA _,rfl,c1.o,c6.o,λc=>⟨λ_=>rfl,λ_=>rfl⟩,d0.o.chg,f2,d2.o⟩
 case round=>
  obtain⟨a,o,l3,rfl,R,r,C,q,l6,f⟩:=hrel;clear d2 c1 c6 d0 i3 f2;have F:=Hd (aq R (aq r (aq C q)));by_cases E:a<l.length
  ·rw[List.drop_eq_getElem_cons E] at f;have t:=Hd f;have b8:er (l.take (a+1)) (λ_=>none)=ay (er (l.take a) (λ_=>none)) l[a].name l[a].x:=by
    unfold er;rw[List.take_succ_eq_append_getElem E,List.foldl_append];rfl
   have c9:=Hd b8;have g4:=Hd (h2.o l[a] (am E));have g2:=Hd (f9.o l[a] (am E));obtain⟨b,of,a1,i7,k8,l2,b0,e9,e2⟩:=g9.o _ E;subst i7;have g8:=Hd e2;obtain⟨M,rfl,O⟩:=e2;have g7:=Hd (g4.o _ O);obtain⟨j5,rfl,a9⟩:=RX_iff.1 O;have l7:=a9.oneCell;have j1:Ext W0 wr:=q.ext j0 (λJ hi=>(c3.o J hi).1);obtain⟨j9,k0,k1,k2,k3,k4,k5⟩:=(b0.ext j1).get7;obtain⟨d4,b1,s,p⟩:=fG wr (.string l[a].name) (.int .i64 l[a].x.op) (.string l[a].x.name) (.int .i64 l[a].x.n) (.int .i64 l[a].x.w) (.int .u64 l[a].x.v) j5 45;have k7:=b1.symm;obtain⟨m0,m1,m2,m3,m4,m5,m6⟩:=p.get7;obtain⟨h5,b6,b4,b5⟩:=(r.ext s).look l[a].name true;simp only[if_true] at b6;have j6:=Hd p;have j7:=Hd s;generalize l[a]=y at*;cases hbx:er (l.take a) (λ_=>none) y.name with
   |some z=>
    rw[hbx] at b6;have Z:=Hd (show j=.error d by rw[t.o];exact rL y _ _ (λe=>by rw[(C y.name).1 e.1] at hbx;cases hbx));obtain⟨f5,rfl,d8⟩:=RX_iff.1 (b5 z hbx).rx;have l9:=d8.oneCell;obtain⟨d5,I,h,b3⟩:=aU d4 (.int .i64 z.op) (.string z.name) (.int .i64 z.n) (.int .i64 z.w) (.int .u64 z.v) f5 40;have i4:=I.symm;obtain⟨u0,u1,u2,u3,u4,u5,u6⟩:=(p.ext h).get7;have L:=Hd (q.trans (s.trans h).chg);clear b1 s p b0 O f a9 I h b3 b4 b5 hbx d8 e9 b8 R r C q;go_wp2_with fail
    go_at_call 35;refine(d3.o _).mono ?_;rintro _ c0 ⟨rfl,rfl⟩;exact⟨rfl,.no Z.o L.o⟩
   |none=>
    rw[hbx] at b6;obtain⟨a4,a5,a6,a7,a8,N,j2,l8⟩:∃(a4:Int) (a5:ByteArray) (a6 a7 a8:Int) (N:Value),h5=[.int .i64 a4,.string a5,.int .i64 a6,.int .i64 a7,.int .u64 a8,N]/\N.oneCell'=true:=⟨_,_,_,_,_,_,b4 hbx,rfl⟩;subst j2;obtain⟨d5,I,h,b3⟩:=aU d4 (.int .i64 a4) (.string a5) (.int .i64 a6) (.int .i64 a7) (.int .u64 a8) N 40;have i4:=I.symm;obtain⟨u0,u1,u2,u3,u4,u5,u6⟩:=(p.ext h).get7;have L:=Hd (q.trans (s.trans h).chg);have h1:=Hd (s.trans h);have c8:=Hd ((C y.name).2 hbx);have h3:=Hd (g1.o y.name d5 L.o);have f7:=Hd (p.ext h);clear b1 s p b0 O f a9 I h b3 b4 b5 hbx e9 b8 R r C q;go_wp2_with fail
    refine h3.o.mono ?_;rintro _ c0 ⟨rfl,T⟩;have W:=Hd (f7.o.ext T);have d1:=Hd (h1.o.trans T);have c2:=Hd (L.o.trans T.chg);have g6:=Hd (F.o.2.1.ext d1.o);clear T;by_cases D:k y.name
    ·rw[yes_iff.2 D];obtain⟨m7,m8,m9,n0,n1,n2,n3⟩:=W.o.get7;obtain⟨j3,i8,b7⟩:=g6.o.put y.name g7.o;obtain⟨u,b2⟩:∃u,u=aH c0 w.heap.size j3:=⟨_,rfl⟩;rw[<-b2] at i8 b7;have Q:c0.grownBy u (some w.heap.size):=by rw[b2];exact gw _ _ _
     have f8:=Hd (show Blk u wr.heap.size 45 _ from(Q.block wr.heap.size W.o.lt (λe=>by injection e with e;omega)).trans W.o);obtain⟨n4,n5,n6,n7,n8,f5,n9⟩:=f8.o.get7;have Y:=Hd (c2.o.grown Q (λa e E=>by injection e with e;omega));have g0:=Hd (c4.o _ _ _ F.o.1 ((d1.o.chg (X:=λa=>w.heap.size<=a)).grown Q (λa e _=>by injection e with e;show w.heap.size<=a;omega)));have c7:=Hd b7;have g3:=Hd (g2.o o u _ Y.o g0.o g8.o);have c5:=Hd D;have f1:w.heap.size<u.heap.size:=c7.o.lt;clear b7 Q b2 D;go_wp2_with fail
     go_at_call 35;refine(h4.o _).mono ?_;rintro _ j4 ⟨rfl,rfl⟩;go_wp2_with fail
     refine g3.o.mono ?_;rintro e V (⟨v,f3,S,rfl,rfl,e8,A⟩|⟨M,S,rfl,A⟩);rotate_left
     ·exact⟨rfl,.no (by rw[t.o,pf y _ o ⟨c8.o,c5.o⟩,S];rfl) (Y.o.trans A)⟩
     have f6:=Hd (show∃K,i K V/\EnvX W0 B V w.heap.size (er (l.take (a+1)) (λ_=>none))/\(∀c,K c=none↔er (l.take (a+1)) (λ_=>none) c=none)/\Chg g w V/\w.heap.size<V.heap.size/\j=bZ k d val (l.drop (a+1)) K from by
      refine⟨ay o y.name v,e8,?_,λc=>?_,Y.o.trans A,aP f1 A.size,by rw[t.o,pf y _ o ⟨c8.o,c5.o⟩,S];rfl⟩
      ·rw[c9.o];exact c7.o.of_eq (A.block _ f1 (λi9=>absurd (c3.o _ i9).2 (Nat.lt_irrefl _)))
      ·rw[c9.o];unfold ay;by_cases P:y.name=c
       ·rw[if_pos P,if_pos P];exact⟨λe=>(by cases e),λe=>(by cases e)⟩
       ·rw[if_neg P,if_neg P];exact F.o.2.2.1 c)
     clear S e8 A;go_wp2_with fail
     go_roundw;case rel=>
      obtain⟨K,h6,h7,h8,h9,i0,i1⟩:=f6.o;exact⟨a+1,K,zO,zN,h6,h7,h8,h9,i0,i1⟩
     case measure=>simp[intOf];omega
    ·rw[yes_no.2 D];have Z:=Hd (show j=.error d by rw[t.o];exact rL y _ _ (λe=>D e.2));clear D;go_wp2_with fail
     go_at_call 35;refine(d3.o _).mono ?_;rintro _ j4 ⟨rfl,rfl⟩;exact⟨rfl,.no Z.o c2.o⟩
  ·have e5:l.drop a=[]:=by rw[List.drop_eq_nil_iff];omega
   have i6:a=l.length:=by omega
   subst i6;rw[e5] at f;rw[List.take_length] at r;have t:=Hd (show j=.ok o from f);have g5:=Hd r;clear f e5 r C R q;go_wp2_with fail
   refine bodyPost_ret (v:=.map (some w.heap.size)) ?_ rfl (.ok t.o ⟨w.heap.size,rfl,ac _,g5.o,F.o.1,F.o.2.2.2⟩);simp[results,results151,go_sem]
end
