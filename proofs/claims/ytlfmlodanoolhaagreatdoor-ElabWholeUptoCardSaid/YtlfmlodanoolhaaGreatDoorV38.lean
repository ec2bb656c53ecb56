import Derived.Test.YtlfmlodanoolhaaGreatDoorV37
set_option linter.all false
set_option maxRecDepth 200000
set_option maxHeartbeats 0
namespace Go.Proofs.YtlfmlodanoolhaaGreatDoor
section
open Go Go.RowKit Go.Proofs.Tryz
theorem kb{aB:ByteArray->Option Int}:∀(l:List Bnd) (s b:Sc),cH aB l s=.ok b->b.sigs=s.sigs/\b.path=s.path
 |[],s,b,a=>by injection a with a;rw[<-a];exact⟨rfl,rfl⟩
 |p::l,s,b,a=>by
  rw[cH] at a;cases htd:aB p.name with
  |some v=>
   rw[htd] at a;obtain⟨v,-,a⟩:=ak a;obtain⟨c,d⟩:=kb l _ b a;exact⟨c,d⟩
  |none=>
   rw[htd] at a;obtain⟨v,-,a⟩:=ak a;obtain⟨c,d⟩:=kb l _ b a;exact⟨c,d⟩
theorem lI{kind:Prt->Int}(e:∀p,1<=kind p/\kind p<=3):∀(l:List Prt) (s:Sc) (m:Mk) (b:Sc×Mk),At m.d.sigs s->Wf m->ci kind l s m=.ok b->
 Wf b.2/\At b.2.d.sigs b.1/\b.1.path=s.path/\∃n,b.2.d.sigs=m.d.sigs++n/\n.map (λg=>(g.name,g.kind))=l.map (λp=>(s.path++p.name,kind p))
 |[],s,m,b,hat,hw,a=>by injection a with a;rw[<-a];exact⟨hw,hat,rfl,[],(List.append_nil _).symm,rfl⟩
 |p::l,s,m,b,hat,hw,a=>by
  rw[ci] at a;obtain⟨w,t,a⟩:=ak a;obtain⟨f,u,a⟩:=ak a;have:=e p;obtain⟨h,j,c,d⟩:=Wf.signal hw hat (gS t) ⟨this.1,zO⟩ (λ_=>rfl) u;obtain⟨i,k,o,n,q,r⟩:=lI e l f.1 f.2 b j h a;refine⟨i,k,o.trans c,_::n,by rw[q,d,List.append_assoc];rfl,?_⟩;rw[List.map_cons,List.map_cons,r,c]
def PortsAt(c:List Sg)(s:Sc)(l:List Prt):Prop:=∀b,b∈l->∃a,s.sigs b.name=some a/\0<=a/\a<c.length/\(aD c a).kind=3
theorem PortsAt.more{b n:List Sg}{s:Sc}{l:List Prt}(h:PortsAt b s l):PortsAt (b++n) s l:=λi g=>by
 obtain⟨c,d,a,e,f⟩:=h i g;exact⟨c,d,a,by rw[List.length_append];omega,by rw[mG a e];exact f⟩
theorem yO(l:List Sg)(g:Sg):aD (l++[g]) l.length=g:=by
 unfold aD;rw[List.getD_eq_getElem?_getD];simp
theorem qS:∀(l pre:List Prt) (s:Sc) (m:Mk) (b:Sc×Mk),PortsAt m.d.sigs s pre->ci (λ_=>3) l s m=.ok b->PortsAt b.2.d.sigs b.1 (pre++l)
 |[],pre,s,m,b,h0,a=>by injection a with a;rw[<-a,List.append_nil];exact h0
 |p::l,pre,s,m,b,h0,a=>by
  rw[ci] at a;obtain⟨w,k,a⟩:=ak a;obtain⟨h,j,a⟩:=ak a;have i:=(eY j).1;have:=qS l (pre++[p]) h.1 h.2 b (λg c=>by
   rw[i];show∃e,az s.sigs p.name (m.d.sigs.length:Int) g.name=some e/\0<=e/\e<((m.d.sigs++[(⟨s.path++p.name,w,3,0⟩:Sg)]).length:Int)/\(aD (m.d.sigs++[(⟨s.path++p.name,w,3,0⟩:Sg)]) e).kind=3;unfold az;by_cases f:p.name=g.name
   ·refine⟨(m.d.sigs.length:Int),by rw[if_pos f],zO,by rw[List.length_append];simp only[List.length_cons,List.length_nil];omega,by rw[yO]⟩
   ·rw[if_neg f];rcases y8e.1 c with c|c
    ·exact h0.more g c
    ·exact absurd (by rw[List.mem_singleton.1 c]) f) a
  rw[List.append_assoc] at this;exact this
theorem mN{s o:Sc}{t:ByteArray->Option X}:∀(l:List Prt) (m c:Mk),At m.d.sigs s->PortsAt m.d.sigs o l->Wf m->co s o t l m=.ok c->Wf c/\c.d.sigs=m.d.sigs
 |[],m,c,_,_,hw,a=>by injection a with a;rw[<-a];exact⟨hw,rfl⟩
 |p::l,m,c,hat,hp,hw,a=>by
  rw[co] at a;split at a
  ·exact mN l m c hat (λb h=>hp b (bi _ h)) hw a
  ·obtain⟨C,j,a⟩:=ak a;obtain⟨f,y,a⟩:=ak a;obtain⟨D,k,a⟩:=ak a;obtain⟨A,K,n⟩:=hw.count zD j;obtain⟨q,J,r,-,e⟩:=iY (d:=m.d) hat _ C f n A.cnt y;obtain⟨b,E,F,G,H⟩:=hp p (cc ..);rw[E,n] at k;have L:=hw.sg (aD m.d.sigs b) (by
    unfold aD;rw[List.getD_eq_getElem?_getD,List.getElem?_eq_getElem (by omega:b.toNat<m.d.sigs.length)];exact an _)
   obtain⟨u,g⟩:=hw.step (m1:=f.2) r (l:=[_]) (λM z=>by
    rw[List.mem_singleton.1 z];refine okT_iff.2 ⟨λ_=>⟨F,G,Int.le_refl _,?_,?_,?_⟩,λI i=>by rw[List.mem_singleton.1 i];exact q,λI i=>(by cases i)⟩
    ·show 0<=(aD m.d.sigs b).w - 1;omega
    ·show(aD m.d.sigs b).w - 1<(aD m.d.sigs b).w;omega
    ·show dg false (aD m.d.sigs b).kind=true;rw[H];rfl) (by
     have:=(cP j).1;show m.count+((nT _+0:Nat):Int)<=f.2.count;rw[fe];show m.count+((1+(nE f.1+0+0)+0:Nat):Int)<=f.2.count;omega) e k
   obtain⟨v,x⟩:=mN l D c (by rw[g];exact hat) (by rw[g];exact λb h=>hp b (bi _ h)) u a;exact⟨v,x.trans g⟩
theorem nc{s:Sc}{u:ByteArray->Option Int}{v:ByteArray->Option X}:∀(l:List Prt) (m c:Mk),At m.d.sigs s->(∀g,g∈l->∃h,u g.name=some h/\0<=h/\h<m.d.sigs.length)->Wf m->bZ s u v l m=.ok c->Wf c/\c.d.sigs=m.d.sigs
 |[],m,c,_,_,hw,a=>by injection a with a;rw[<-a];exact⟨hw,rfl⟩
 |g::l,m,c,hat,hp,hw,a=>by
  rw[bZ] at a;split at a
  ·obtain⟨S,n,a⟩:=ak a;obtain⟨L,o,a⟩:=ak a;obtain⟨f,p,a⟩:=ak a;obtain⟨H,q,a⟩:=ak a;obtain⟨E,P,t⟩:=hw.count zD n;obtain⟨F,Q,A⟩:=E.count zD p;have r:f.d=m.d:=A.trans t;rw[t] at o;have C:=rR hat o;obtain⟨b,I,J,K⟩:=hp g (cc ..);rw[I,r] at q;have R:=hw.sg (aD m.d.sigs b) (by
    unfold aD;rw[List.getD_eq_getElem?_getD,List.getElem?_eq_getElem (by omega:b.toNat<m.d.sigs.length)];exact an _)
   obtain⟨x,i⟩:=hw.step (m1:=f) r (l:=[_]) (λL D=>by
    rw[List.mem_singleton.1 D];refine okT_iff.2 ⟨λ_=>C,λM k=>?_,λM k=>(by cases k)⟩;rw[List.mem_singleton.1 k];refine okE_iff.2 ⟨⟨λ_=>⟨J,K,Int.le_refl _,?_,?_⟩,λe=>absurd e (by show¬(2:Int)=3;decide)⟩,λT G=>(by cases G)⟩
    ·show 0<=(aD m.d.sigs b).w - 1;omega
    ·show(aD m.d.sigs b).w - 1<(aD m.d.sigs b).w;omega) (by
     have N:=(cP n).1;have O:=(cP p).1;show m.count+((nT _+0:Nat):Int)<=f.count;rw[fe];show m.count+((1+(nE (fW m.d.sigs b)+0+0)+0:Nat):Int)<=f.count;rw[fd];show m.count+((1+((1+0)+0+0)+0:Nat):Int)<=f.count;omega) F.cnt q
   obtain⟨y,z⟩:=nc l H c (by rw[i];exact hat) (by rw[i];exact λb j=>hp b (bi _ j)) x a;exact⟨y,z.trans i⟩
  ·exact nc l m c hat (λb j=>hp b (bi _ j)) hw a
structure ModOk(m:Mdl):Prop where
 right:dV m
 ports:∀p,p∈m.ports->bn p.name
 items:∀t,t∈m.items->MayI t
theorem we{f:List Mdl}(h:cC f=0){m:Mdl}(a:m∈f)(d:∀m,m∈f->dc m):ModOk m:=by
 obtain⟨-,-,g,-⟩:=ju h;obtain⟨-,-,b,c⟩:=d m a;exact⟨g m a,λi e=>(b i e).1,c⟩
theorem Aq:ModOk ⟨⟨#[]⟩,[],[],[]⟩:=⟨⟨trivial,List.nodup_nil,trivial⟩,λb a=>(by cases a),λb a=>(by cases a)⟩
theorem vM{c:ByteArray->Prop}{l:List Itm}:bf c l->∀a,a∈l->inI c a:=by
 induction l with
 |nil=>intro _ a b;cases b
 |cons x l ih=>intro d a b;exact(List.mem_cons.1 b).elim (λe=>e▸d.1) (ih d.2 a)
theorem rC{inst:Itm->Sc->Mk->Rs Mk}{of:Mdl}(e:ModOk of)(l:∀a,MayI a->a.op=7->kY inst a){s:Sc}{m:Mk}{b:Sc×Mk}(k:At m.d.sigs s)(o:Wf m)(h:aZ inst of.items s m=.ok b):
 Wf b.2/\At b.2.d.sigs b.1/\b.1.path=s.path/\Grow m b.2 (NmT s.path (λx=>x∈ap of.items)):=by
 obtain⟨f,g,i⟩:=e.right;exact igs of.items (λa c=>⟨e.items a c,sS (λ_=>True) (λ_ _ _ _=>trivial) (λ_ _ _ _=>trivial) (λa _ n j=>l a n j) a _ trivial (e.items a c) (tokIs_iff.1 f a c) (vM i a c)⟩) (List.nodup_append.1 g).1 s m b k o h
theorem qI{n:List Sg}{l:List Prt}{b:ByteArray}{kind:Prt->Int}(h:n.map (λa=>(a.name,a.kind))=l.map (λp=>(b++p.name,kind p))):n.map Sg.name=l.map (λp=>b++p.name):=by
 have:=congrArg (List.map Prod.fst) h;rw[List.map_map,List.map_map] at this;exact this
theorem mn{g:ByteArray}:∀{l:List Prt},(l.map Prt.name).Nodup->(l.map (λa=>g++a.name)).Nodup
 |[],_=>List.nodup_nil
 |a::l,h=>by
  obtain⟨b,c⟩:=List.nodup_cons.1 (show(a.name::l.map Prt.name).Nodup from h);refine List.nodup_cons.2 ⟨λd=>?_,mn c⟩;obtain⟨i,f,e⟩:=y8f.1 d;have e:=congrArg bl e;rw[dK,dK] at e;exact b (y8f.2 ⟨i,f,fY (List.append_cancel_left e)⟩)
theorem mr{n:List Sg}{l:List Prt}{b:ByteArray}{kind:Prt->Int}(h:n.map (λg=>(g.name,g.kind))=l.map (λa=>(b++a.name,kind a))){g:Sg}(f:g∈n):∃a,a∈l/\g.name=b++a.name/\g.kind=kind a:=by
 have:(g.name,g.kind)∈l.map (λa=>(b++a.name,kind a)):=by rw[<-h];exact y8f.2 ⟨g,f,rfl⟩
 obtain⟨a,i,e⟩:=y8f.1 this;injection e with c d;exact⟨a,i,c.symm,d.symm⟩
theorem sT{f:List Mdl}(V:∀m,m∈f->ModOk m):∀(k:Nat) (t:Itm),kY (cf f k) t:=by
 intro k;induction k with
 |zero=>intro t s m F _ _ a;rw[cf] at a;cases a
 |succ k ih=>
  intro t s m F C a2 a;rw[cf] at a;have i:ModOk ((ce f t.of).getD ⟨⟨#[]⟩,[],[],[]⟩):=by
   cases hfd:ce f t.of with
   |none=>exact Aq
   |some of=>exact V of (gU hfd).1
  generalize (ce f t.of).getD ⟨⟨#[]⟩,[],[],[]⟩=of at a i;obtain⟨aB,-,a⟩:=ak a;obtain⟨b1,-,a⟩:=ak a;obtain⟨b8,-,a⟩:=ak a;obtain⟨p,b,a⟩:=ak a;obtain⟨a4,j,a⟩:=ak a;obtain⟨a8,S,a⟩:=ak a;unfold dN at b;obtain⟨v,T,b⟩:=ak b;obtain⟨a0,a1⟩:=kb _ _ _ T;have U:At m.d.sigs v:=λb6 y ha=>by rw[a0] at ha;cases ha
  obtain⟨y,K,z,n,d,e⟩:=lI (λ_=>⟨zD,zD⟩) of.ports v m p U a2 b;rw[a1] at z e;have E:=qS of.ports [] v m p (λg c=>(by cases c)) b;obtain⟨H,l⟩:=mN of.ports p.2 a4 (by rw[d];exact C.more) E y j;have Z:=i.right.2.1;obtain⟨b3,X,D⟩:=List.nodup_append.1 Z;have Y:=(List.nodup_append.1 X).1;have A:Grow m p.2 (NmT (s.path++t.name++tDot) (λx=>x∈of.ports.map Prt.name)):=by
   refine⟨n,d,λb2 W=>?_,by rw[qI e];exact mn Y⟩;obtain⟨g,c,O,P⟩:=mr e W;exact⟨.inl P,g.name,⟨#[]⟩,y8f.2 ⟨g,c,rfl⟩,by rw[O,mA],mT⟩
  obtain⟨I,a9,b0,o⟩:=rC i (λt _ _=>ih t) (by rw[l];exact K) H S;rw[z] at o;have R:=A.trans (o.pre l) (λx b j=>by
   obtain⟨h,r,u⟩:=b.apart j (λt q=>by obtain⟨g,c,rfl⟩:=y8f.1 q;exact iX (i.ports g c)) (ip i.items);exact D h u h (y8e.2 (.inl r)) rfl)
  obtain⟨b5,N,-⟩:=R;have Q:=o;obtain⟨b4,M,-⟩:=Q;obtain⟨J,L⟩:=nc of.ports a8.2 F (by rw[N];exact C.more) (λg c=>by
   obtain⟨a5,a6,a7,b7,-⟩:=E g c;refine⟨a5,a6,a7,?_⟩;rw[M,l,List.length_append];omega) I a
  refine⟨J,(A.trans (o.pre l) (λx b j=>by
   obtain⟨h,r,u⟩:=b.apart j (λt q=>by obtain⟨g,c,rfl⟩:=y8f.1 q;exact iX (i.ports g c)) (ip i.items);exact D h u h (y8e.2 (.inl r)) rfl)).post L|>.mono λx a3=>?_⟩
  rcases a3 with⟨h,G,-,rfl,-⟩|⟨h,G,-,rfl,-⟩<;>exact⟨h++G,fY (by simp only[dK,List.append_assoc])⟩
structure DsnOk(of:Mdl)(d:Dsn):Prop where
 wf:∃c b,Wf ⟨d,c,b⟩
 ports:∃p n,d.sigs=p++n/\p.map (λg=>(g.name,g.kind))=of.ports.map (λp=>(p.name,if p.o=true then(2:Int) else 1))/\∀g,g∈n->g.kind=3\/g.kind=4
 names:(d.sigs.map Sg.name).Nodup
 full:∀g,g∈d.sigs->g.name≠⟨#[]⟩
theorem ub:Wf noMk:=⟨λb a=>(by cases a),λb a=>(by cases a),λb a=>(by cases a),zD,zD,zD,zD⟩
theorem pK{f:List Mdl}(W:cC f=0->∀m,m∈f->dc m){E:ByteArray}{ps:List (ByteArray×Int)}{d:Dsn}(h:bQ f E ps=.ok d):cC f=0/\∃of,ce f E=some of/\DsnOk of d:=by
 unfold bQ at h;split at h
 ·cases h
 rename_i k
 have k:cC f=0:=Decidable.of_not_not k;refine⟨k,?_⟩;split at h
 ·cases h
 rename_i of A
 refine⟨of,A,?_⟩;obtain⟨aB,-,h⟩:=ak h;obtain⟨T,i,h⟩:=ak h;obtain⟨F,P,h⟩:=ak h;injection h with h;have z:∀m,m∈f->ModOk m:=λm V=>we k V (W k)
 have j:=z of (gU A).1;unfold dN at i;obtain⟨D,Q,i⟩:=ak i;obtain⟨a2,a3⟩:=kb _ _ _ Q;have S:At noMk.d.sigs D:=λb1 v ha=>by rw[a2] at ha;cases ha
 obtain⟨v,H,y,n,J,e⟩:=lI (kind:=λa=>if a.o=true then 2 else 1) (λa=>by show 1<=(if a.o=true then(2:Int) else 1)/\(if a.o=true then(2:Int) else 1)<=3;split<;>decide) of.ports D noMk T S ub i;rw[a3] at y e;have a1:=j.right.2.1;obtain⟨b0,Y,Z⟩:=List.nodup_append.1 a1;have a0:=(List.nodup_append.1 Y).1;obtain⟨G,a8,a9,C,I,p,M⟩:=rC j (λc _ _=>sT z f.length c) H v P;rw[y] at p;have s:d.sigs=n++C:=by rw[<-h,I,J];rfl
 have K:n.map (λg=>(g.name,g.kind))=of.ports.map (λa=>(a.name,if a.o=true then(2:Int) else 1)):=by
  rw[e];exact List.map_congr_left λa _=>by simp only[gq]
 refine⟨⟨F.2.count,F.2.bits,by rw[<-h];exact G⟩,⟨n,C,s,K,λg b=>(p g b).1⟩,?_,?_⟩
 ·rw[s,List.map_append];refine List.nodup_append.2 ⟨by rw[qI e];exact mn a0,M,λx a4 u a5 L=>?_⟩;obtain⟨g,b,rfl⟩:=y8f.1 a4;obtain⟨N,U,rfl⟩:=y8f.1 a5;obtain⟨a,l,r,-⟩:=mr e b;have R:NmT ⟨#[]⟩ (λx=>x∈of.ports.map Prt.name) g.name:=⟨a.name,⟨#[]⟩,y8f.2 ⟨a,l,rfl⟩,by rw[r,mA],mT⟩;obtain⟨u,a6,a7⟩:=R.apart (by rw[L];exact(p N U).2) (λc t=>by obtain⟨a,l,rfl⟩:=y8f.1 t;exact iX (j.ports a l)) (ip j.items);exact Z u a7 u (y8e.2 (.inl a6)) rfl
 ·intro g b;rw[s] at b;have full:∀(c q:ByteArray),hZ c->c++q≠⟨#[]⟩:=λc q t X=>by
   have:=congrArg bl X;rw[dK] at this;exact t.1 (fY (List.append_eq_nil_iff.1 this).1)
  rcases y8e.1 b with b|b
  ·obtain⟨a,l,r,-⟩:=mr e b;rw[r,gq];exact(iX (j.ports a l)).1
  ·obtain⟨c,q,i,O,-⟩:=(p g b).2;rw[O,gq];exact full c q (ip j.items c i)
def eq(l:List Bnd)(o:ByteArray->Option X):ByteArray->Option X:=l.foldl (λo a=>az o a.name a.x) o
theorem ro{d:ByteArray->Prop}{e:Int}:∀(l:List Bnd) (o c:ByteArray->Option X),bT d e (λx=>.ok x) l o=.ok c->c=eq l o
 |[],o,c,a=>by injection a with a;rw[<-a];rfl
 |b::l,o,c,a=>by
  rw[bT] at a;obtain⟨f,-,a⟩:=ak a;exact ro l (az o b.name b.x) c a
theorem oQ{α:Type}{a:ByteArray->Prop}{e:Int}{val:X->Rs α}(b:Bnd)(l:List Bnd)(o:ByteArray->Option α)(h:o b.name=none/\a b.name):bT a e val (b::l) o=(do let v<-val b.x;bT a e val l (az o b.name v)):=by
 rw[bT];unfold aU;rw[if_pos h];rfl
theorem rl{α:Type}{a:ByteArray->Prop}{e:Int}{val:X->Rs α}(b:Bnd)(l:List Bnd)(o:ByteArray->Option α)(h:¬(o b.name=none/\a b.name)):bT a e val (b::l) o=.error e:=by
 rw[bT];unfold aU;rw[if_neg h];rfl
theorem pg{f:List Mdl}(h:ed f=0):f.length<=64/\aa ar f<=65536/\ai bH f<=64/\∀m,m∈f->dc m:=by
 unfold ed at h;split at h
 ·exact absurd h zD
 ·rename_i a
  rw[rW,yes_iff] at h;exact⟨zO,h⟩
theorem lY{f:List Mdl}(h:cC f=0):∀m,m∈f->dc m:=(pg (ju h).1).2.2.2
theorem zU{x:X}(b:x.op=1)(e:x.w=0)(d:bU x.v)(a:MayX x)(s:Sc):aI s x=.ok x.v:=by
 obtain⟨⟨c,-⟩,-⟩:=MayX_iff.1 a;obtain⟨op,f,n,w,v,l⟩:=x;simp only[X.op,X.w,X.v,X.l] at b e d c⊢;subst b e;have i:l=[]:=by
  unfold eg at c;exact dl zO
 subst i;have g:al (.mk 1 f n 0 v [])=1:=by rw[dJ];rfl
 have h:aM (.mk 1 f n 0 v [])=1:=by rw[hU];rfl
 unfold aI bA;rw[if_pos (checkX_zero.2 ⟨by rw[g];decide,by rw[h];decide,a⟩),qr];unfold cO;rw[if_pos d];rfl
theorem ik(z:Int):MayX (.mk 1 ⟨#[]⟩ 0 0 z []):=.mk _ ⟨.inl ⟨.inl rfl,rfl⟩,.inr (.inr (.inr ⟨(show(1:Int)≠5/\(1:Int)≠6/\(1:Int)≠10 by decide),rfl⟩)),.inr ⟨rfl,(show(0:Int)<=0 by decide),(show(0:Int)<=64 by decide),.inl rfl⟩,.inr ⟨(show¬dW 1 by unfold dW;decide),rfl⟩⟩ (λb a=>by cases a)
end
section
open Go Go.RowKit Go.Proofs.Tryz
attribute [local go_sem] bc
theorem BC:Enters Tryz.prog 157:=⟨λ_ _=>by kernel_rfl⟩
theorem BB:Enters Tryz.prog 38:=⟨λ_ _=>by kernel_rfl⟩
theorem AG:Enters Tryz.prog 156:=⟨λ_ _=>by kernel_rfl⟩
theorem yd(B:Nat)(x:Prt)(w:World)(a:List Value)(h:RP w B x a):
 Calls Tryz.prog 157 #[.agg a.toArray] w λe w'=>e=.returned (.int .i64 3)/\Ext w w':=by
 obtain⟨l,rfl,d⟩:=h;obtain⟨j,rfl,b⟩:=RX_iff.1 d;have q:=b.oneCell;obtain⟨k,c,f,i⟩:=de w (.string x.name) (.bool x.o) (.int .i64 x.w.op) (.string x.w.name) (.int .i64 x.w.n) (.int .i64 x.w.w) (.int .u64 x.w.v) j 42;have p:=c.symm;have g:=Hd f;clear c i f b d
 go_in
 go_wp2_with fail
 go_ret;exact⟨rfl,g.o⟩
theorem xY(B:Nat)(x:Prt)(w:World)(b:List Value)(l:RP w B x b):
 Calls Tryz.prog 38 #[.agg b.toArray] w λe w'=>e=.returned (.int .i64 (if x.o=true then 2 else 1))/\Ext w w':=by
 obtain⟨r,rfl,g⟩:=l;obtain⟨p,rfl,c⟩:=RX_iff.1 g;have F:=c.oneCell;obtain⟨j,i⟩:∃k,k=x.o:=⟨_,rfl⟩;rw[<-i];obtain⟨q,d,h,f⟩:=de w (.string x.name) (.bool j) (.int .i64 x.w.op) (.string x.w.name) (.int .i64 x.w.n) (.int .i64 x.w.w) (.int .u64 x.w.v) p 42;have E:=d.symm;obtain⟨s,t,u,y,z,A,C,D⟩:=f.get8;have a:=Hd h;clear d f h c g i;cases j with
 |true=>
  go_in
  go_wp2_with fail
  go_ret;exact⟨rfl,a.o⟩
 |false=>
  go_in
  go_wp2_with fail
  go_ret;exact⟨rfl,a.o⟩
def sf(w:World)(e:Ending)(w':World):Prop:=e=.returned aO/\Ext w w'
theorem xm(B:Nat)(x:Bnd)(w:World)(a:List Value)(g:RB w B x a):
 Calls Tryz.prog 156 #[.agg a.toArray] w (sf w):=by
 obtain⟨k,rfl,d⟩:=g;obtain⟨i,rfl,b⟩:=RX_iff.1 d;have p:=b.oneCell;obtain⟨j,c,e,h⟩:=fF w (.string x.name) (.int .i64 x.x.op) (.string x.x.name) (.int .i64 x.x.n) (.int .i64 x.x.w) (.int .u64 x.x.v) i 45;have l:=c.symm;have f:=Hd e;clear c h e b d
 go_in
 go_wp2_with fail
 refine bodyPost_ret (v:=aO) ?_ rfl ⟨rfl,f.o⟩;simp[results,results156,go_sem,aO]
end
section
open Go Go.RowKit Go.Proofs.Tryz
def zeroXc:List Value:=[.int .i64 0,.string ⟨#[]⟩,.int .i64 0,.int .i64 0,.int .u64 0,.slice none 0 0]
def EnvX(W0:World)(B:Nat)(w:World)(m:Nat)(env:ByteArray->Option X):Prop:=
 ∃a,MV w m a/\(∀c,c∈a->MapKept.IsKey .string c.1)/\∀s:ByteArray,(env s=none->bd a (.string s)=none)/\∀x,env s=some x->∃b,bd a (.string s)=some (.agg b.toArray)/\XOk W0 B x b
section
variable {W0 w w' : World} {B m : Nat} {env : ByteArray → Option X}
theorem EnvX.ext(h:EnvX W0 B w m env)(e:Ext w w'):EnvX W0 B w' m env:=by
 obtain⟨a,b,c,d⟩:=h;exact⟨a,b.ext e,c,d⟩
theorem EnvX.lt(h:EnvX W0 B w m env):m<w.heap.size:=by
 obtain⟨a,h,-⟩:=h;exact h.lt
theorem EnvX.noTag(h:EnvX W0 B w m env){T:TypeId}(k:Tag w m T):False:=by
 obtain⟨a,h,-⟩:=h;exact h.noTag k
theorem EnvX.of_eq(h:EnvX W0 B w m env)(g:w'.heap[m]? =w.heap[m]?):EnvX W0 B w' m env:=by
 obtain⟨a,⟨c,b,d,e⟩,f⟩:=h;exact⟨a,⟨c,b,g.trans d,e⟩,f⟩
theorem EnvX.new(W0:World)(B:Nat)(w:World):EnvX W0 B (w.alloc (.map #[] 0)) w.heap.size (λ_=>none):=
 ⟨[],MV.new w,(λc a=>nomatch a),λs=>⟨λ_=>rfl,λx b=>nomatch b⟩⟩
theorem EnvX.look(h:EnvX W0 B w m env)(s:ByteArray)(b:Bool):
 ∃a,(Instr.lookup 205 (.map (some m)) (.string s) b).run Tryz.prog w=.ok (if b then .tuple #[.agg a.toArray,.bool (env s).isSome] else .agg a.toArray) w/\(env s=none->a=zeroXc)/\∀x,env s=some x->XOk W0 B x a:=by
 obtain⟨l,e,f,d⟩:=h;have:=e.lookup (et:=40) underlying205 underlying9 (k:=.string s) trivial f (z:=.agg zeroXc.toArray) zK b;cases he:env s with
 |none=>
  refine⟨zeroXc,?_,λ_=>rfl,λx c=>(by cases c)⟩;rw[this,(d s).1 he];cases b<;>rfl
 |some x=>
  obtain⟨a,g,c⟩:=(d s).2 x he;refine⟨a,?_,λi=>(by cases i),λn j=>(by cases j;exact c)⟩;rw[this,g];cases b<;>rfl
theorem EnvX.put(h:EnvX W0 B w m env)(s:ByteArray){x:X}{a:List Value}(l:XOk W0 B x a):
 ∃o,(Instr.mapUpdate 205 (.map (some m)) (.string s) (.agg a.toArray)).run Tryz.prog w=.ok () (aH w m o)/\EnvX W0 B (aH w m o) m (az env s x):=by
 obtain⟨p,f,c,g⟩:=h;obtain⟨o,j,i⟩:=f.update underlying205 underlying9 (k:=.string s) trivial c (.agg a.toArray);refine⟨o,j,_,i,cK c trivial,λd=>?_⟩;rw[ge];unfold az;by_cases b:s=d
 ·rw[if_pos (congrArg Value.string b),if_pos b];exact⟨λe=>(by cases e),λq n=>(by cases n;exact⟨a,rfl,l⟩)⟩
 ·rw[if_neg (λe=>b (Value.string.inj e)),if_neg b];exact g d
end
end
section
open Go Go.RowKit Go.Proofs.Tryz
attribute [local go_sem] bc
def BdR{α:Type}(W0:World)(B:Nat)(l:List Bnd)(c:Nat->Prop)(b:(ByteArray->Option α)->World->Prop)(w:World)(o:ByteArray->Option α)(v:Value)(w':World):Prop:=
 ∃a,v=.map (some a)/\w.heap.size<=a/\EnvX W0 B w' a (eq l (λ_=>none))/\b o w'/\Chg c w w'
theorem rm{α:Type}(W0:World)(B:Nat)(k:ByteArray->Prop)(a3 a2:FuncId)(d7 d6:Array Value)(e7:Enters Tryz.prog a3)(e6:Enters Tryz.prog a2)(d:Int)(i5:d≠0)(val:X->Rs α)(g:Nat->Prop)(i:(ByteArray->Option α)->World->Prop)(w:World)
 (l:List Bnd) (f4:Value) (i2:Sl (RB W0 B) W0 B 7 l f4) (l4:l.length<=1000000000) (j0:Ext W0 w) (k6:B<=W0.heap.size) (e3:∀b,g b->W0.heap.size<=b/\b<w.heap.size)
 (e4:∀b,b∈l->∀M,RX W0 B b.x M->XOk W0 B b.x M)
 (e0:∀o a0 b,i o a0->Chg (λa=>w.heap.size<=a) a0 b->i o b)
 (e1:∀c w',Chg g w w'->Calls Tryz.prog a3 (#[.string c]++d7) w' λe U=>e=.returned (.bool (yes (k c)))/\Ext w' U)
 (d9:∀b,b∈l->∀o w' a1,Chg g w w'->i o w'->RB W0 B b a1->Calls Tryz.prog a2 (#[.agg a1.toArray]++d6) w' (RunsP (val b.x) (λv f3 U=>f3=aO/\i (az o b.name v) U/\Chg g w' U) (Chg g w')))
 (h0:i (λ_=>none) w):
 bv Tryz.prog 151 #[f4,.func (.func a3) #[] d7,.int .i64 d,.func (.func a2) #[] d6] w (bT k d val l (λ_=>none)) (BdR W0 B l g i w) (Chg g w):=by
 have g1:=Hd e1;have f9:=Hd d9;have c4:=Hd e0;have h2:=Hd e4;have l1:=e7.o;have l0:=e6.o;have h4:=Hd (λw'=>dZ d w');have d3:=Hd (λw'=>ei d i5 w');obtain⟨a0,j8,rfl,k9,f0⟩:=i2;have g9:=Hd f0;obtain⟨j,f⟩:∃j,j=bT k d val l (λ_=>none):=⟨_,rfl⟩;rw[<-f];have d2:=Hd (show j=bT k d val (l.drop 0) (λ_=>none) from f);obtain⟨G,H⟩:∃G,G=w.alloc (.map #[] 0):=⟨_,rfl⟩;have i3:=H.symm;have c6:=Hd (show EnvX W0 B G w.heap.size (λ_=>none) by rw[H];exact EnvX.new W0 B w);have b9:Ext w G:=by rw[H];exact aE _ _
 have d0:=Hd b9;have c1:=Hd (c4.o _ _ _ h0 b9.chg);have c3:=Hd e3;have f2:w.heap.size<G.heap.size:=by rw[H];simp
 clear f0 e1 d9 e0 e4 f H b9 h0 e3 e7 e6;have l5:=@run_makeMap Tryz.prog;go_enter func151,ntmps151;go_wp2_with fail
 go_loopw [17] (λJ wr=>∃(a:Nat) (o:ByteArray->Option α),a<=l.length/\J=.int .i64 a/\i o wr/\EnvX W0 B wr w.heap.size (eq (l.take a) (λ_=>none))/\(∀c,o c=none↔eq (l.take a) (λ_=>none) c=none)/\Chg g w wr/\w.heap.size<wr.heap.size/\j=bT k d val (l.drop a) o) (λJ _=>l.length - (intOf J).toNat)
 case atStart=>exact⟨0,λ_=>none,aA _,rfl,c1.o,c6.o,λc=>⟨λ_=>rfl,λ_=>rfl⟩,d0.o.chg,f2,d2.o⟩
 case round=>
  obtain⟨a,o,l3,rfl,R,r,C,q,l6,f⟩:=hrel;clear d2 c1 c6 d0 i3 f2;have F:=Hd (aq R (aq r (aq C q)));by_cases E:a<l.length
  ·rw[List.drop_eq_getElem_cons E] at f;have t:=Hd f;have b8:eq (l.take (a+1)) (λ_=>none)=az (eq (l.take a) (λ_=>none)) l[a].name l[a].x:=by
    unfold eq;rw[List.take_succ_eq_append_getElem E,List.foldl_append];rfl
   have c9:=Hd b8;have g4:=Hd (h2.o l[a] (an E));have g2:=Hd (f9.o l[a] (an E));obtain⟨b,of,a1,i7,k8,l2,b0,e9,e2⟩:=g9.o _ E;subst i7;have g8:=Hd e2;obtain⟨M,rfl,O⟩:=e2;have g7:=Hd (g4.o _ O);obtain⟨j5,rfl,a9⟩:=RX_iff.1 O;have l7:=a9.oneCell;have j1:Ext W0 wr:=q.ext j0 (λJ hi=>(c3.o J hi).1);obtain⟨j9,k0,k1,k2,k3,k4,k5⟩:=(b0.ext j1).get7;obtain⟨d4,b1,s,p⟩:=fF wr (.string l[a].name) (.int .i64 l[a].x.op) (.string l[a].x.name) (.int .i64 l[a].x.n) (.int .i64 l[a].x.w) (.int .u64 l[a].x.v) j5 45;have k7:=b1.symm;obtain⟨m0,m1,m2,m3,m4,m5,m6⟩:=p.get7;obtain⟨h5,b6,b4,b5⟩:=(r.ext s).look l[a].name true;simp only[if_true] at b6;have j6:=Hd p;have j7:=Hd s;generalize l[a]=y at*;cases hbx:eq (l.take a) (λ_=>none) y.name with
   |some z=>
    rw[hbx] at b6;have Z:=Hd (show j=.error d by rw[t.o];exact rl y _ _ (λe=>by rw[(C y.name).1 e.1] at hbx;cases hbx));obtain⟨f5,rfl,d8⟩:=RX_iff.1 (b5 z hbx).rx;have l9:=d8.oneCell;obtain⟨d5,I,h,b3⟩:=aV d4 (.int .i64 z.op) (.string z.name) (.int .i64 z.n) (.int .i64 z.w) (.int .u64 z.v) f5 40;have i4:=I.symm;obtain⟨u0,u1,u2,u3,u4,u5,u6⟩:=(p.ext h).get7;have L:=Hd (q.trans (s.trans h).chg);clear b1 s p b0 O f a9 I h b3 b4 b5 hbx d8 e9 b8 R r C q;go_wp2_with fail
    go_at_call 35;refine(d3.o _).mono ?_;rintro _ c0 ⟨rfl,rfl⟩;exact⟨rfl,.no Z.o L.o⟩
   |none=>
    rw[hbx] at b6;obtain⟨a4,a5,a6,a7,a8,N,j2,l8⟩:∃(a4:Int) (a5:ByteArray) (a6 a7 a8:Int) (N:Value),h5=[.int .i64 a4,.string a5,.int .i64 a6,.int .i64 a7,.int .u64 a8,N]/\N.oneCell'=true:=⟨_,_,_,_,_,_,b4 hbx,rfl⟩;subst j2;obtain⟨d5,I,h,b3⟩:=aV d4 (.int .i64 a4) (.string a5) (.int .i64 a6) (.int .i64 a7) (.int .u64 a8) N 40;have i4:=I.symm;obtain⟨u0,u1,u2,u3,u4,u5,u6⟩:=(p.ext h).get7;have L:=Hd (q.trans (s.trans h).chg);have h1:=Hd (s.trans h);have c8:=Hd ((C y.name).2 hbx);have h3:=Hd (g1.o y.name d5 L.o);have f7:=Hd (p.ext h);clear b1 s p b0 O f a9 I h b3 b4 b5 hbx e9 b8 R r C q;go_wp2_with fail
    refine h3.o.mono ?_;rintro _ c0 ⟨rfl,T⟩;have W:=Hd (f7.o.ext T);have d1:=Hd (h1.o.trans T);have c2:=Hd (L.o.trans T.chg);have g6:=Hd (F.o.2.1.ext d1.o);clear T;by_cases D:k y.name
    ·rw[yes_iff.2 D];obtain⟨m7,m8,m9,n0,n1,n2,n3⟩:=W.o.get7;obtain⟨j3,i8,b7⟩:=g6.o.put y.name g7.o;obtain⟨u,b2⟩:∃u,u=aH c0 w.heap.size j3:=⟨_,rfl⟩;rw[<-b2] at i8 b7;have Q:c0.grownBy u (some w.heap.size):=by rw[b2];exact gl _ _ _
     have f8:=Hd (show Blk u wr.heap.size 45 _ from(Q.block wr.heap.size W.o.lt (λe=>by injection e with e;omega)).trans W.o);obtain⟨n4,n5,n6,n7,n8,f5,n9⟩:=f8.o.get7;have Y:=Hd (c2.o.grown Q (λa e E=>by injection e with e;omega));have g0:=Hd (c4.o _ _ _ F.o.1 ((d1.o.chg (X:=λa=>w.heap.size<=a)).grown Q (λa e _=>by injection e with e;show w.heap.size<=a;omega)));have c7:=Hd b7;have g3:=Hd (g2.o o u _ Y.o g0.o g8.o);have c5:=Hd D;have f1:w.heap.size<u.heap.size:=c7.o.lt;clear b7 Q b2 D;go_wp2_with fail
     go_at_call 35;refine(h4.o _).mono ?_;rintro _ j4 ⟨rfl,rfl⟩;go_wp2_with fail
     refine g3.o.mono ?_;rintro e V (⟨v,f3,S,rfl,rfl,e8,A⟩|⟨M,S,rfl,A⟩);rotate_left
     ·exact⟨rfl,.no (by rw[t.o,oQ y _ o ⟨c8.o,c5.o⟩,S];rfl) (Y.o.trans A)⟩
     have f6:=Hd (show∃K,i K V/\EnvX W0 B V w.heap.size (eq (l.take (a+1)) (λ_=>none))/\(∀c,K c=none↔eq (l.take (a+1)) (λ_=>none) c=none)/\Chg g w V/\w.heap.size<V.heap.size/\j=bT k d val (l.drop (a+1)) K from by
      refine⟨az o y.name v,e8,?_,λc=>?_,Y.o.trans A,aQ f1 A.size,by rw[t.o,oQ y _ o ⟨c8.o,c5.o⟩,S];rfl⟩
      ·rw[c9.o];exact c7.o.of_eq (A.block _ f1 (λi9=>absurd (c3.o _ i9).2 (Nat.lt_irrefl _)))
      ·rw[c9.o];unfold az;by_cases P:y.name=c
       ·rw[if_pos P,if_pos P];exact⟨λe=>(by cases e),λe=>(by cases e)⟩
       ·rw[if_neg P,if_neg P];exact F.o.2.2.1 c)
     clear S e8 A;go_wp2_with fail
     go_roundw;case rel=>
      obtain⟨K,h6,h7,h8,h9,i0,i1⟩:=f6.o;exact⟨a+1,K,zO,zN,h6,h7,h8,h9,i0,i1⟩
     case measure=>simp[intOf];omega
    ·rw[yes_no.2 D];have Z:=Hd (show j=.error d by rw[t.o];exact rl y _ _ (λe=>D e.2));clear D;go_wp2_with fail
     go_at_call 35;refine(d3.o _).mono ?_;rintro _ j4 ⟨rfl,rfl⟩;exact⟨rfl,.no Z.o c2.o⟩
  ·have e5:l.drop a=[]:=by rw[List.drop_eq_nil_iff];omega
   have i6:a=l.length:=by omega
   subst i6;rw[e5] at f;rw[List.take_length] at r;have t:=Hd (show j=.ok o from f);have g5:=Hd r;clear f e5 r C R q;go_wp2_with fail
   refine bodyPost_ret (v:=.map (some w.heap.size)) ?_ rfl (.ok t.o ⟨w.heap.size,rfl,ac _,g5.o,F.o.1,F.o.2.2.2⟩);simp[results,results151,go_sem]
end
section
open Go Go.RowKit Go.Proofs.Tryz
def NZ{α:Type}(a:Rs α):Prop:=a≠.error 0
theorem NZ.ok{α:Type}(a:α):NZ (.ok a:Rs α):=λb=>by cases b
theorem NZ.err{α:Type}{e:Int}(h:e≠0):NZ (.error e:Rs α):=λa=>by injection a with a;exact h a
theorem NZ.bind{α d:Type}{c:Rs α}{f:α->Rs d}(h:NZ c)(g:∀b,c=.ok b->NZ (f b)):NZ (c>>=f):=by
 cases c with
 |error e=>
  intro a;have a:(.error e:Rs d)=.error 0:=a;injection a with a;exact h (by rw[a])
 |ok b=>exact g b rfl
theorem fz{p:Prop}{inst:Decidable p}{e:Int}(a:e≠0):NZ (@aU p inst e):=by
 unfold aU;split
 ·exact .ok _
 ·exact .err a
theorem nO(b:Int×Int):NZ (ofK b):=by
 unfold ofK;split
 ·exact .ok _
 ·rename_i a;exact .err a
theorem eM(s:Sc)(x:X):NZ (aI s x):=nO _
theorem jP(s:Sc)(x:X):NZ (cj s x):=nO _
theorem nN(s:Sc)(x:X):NZ (eH s x):=by
 unfold eH;split
 ·exact .ok _
 ·rename_i a;exact .err a
theorem ev(n:Int)(m:Mk):NZ (aW n m):=by
 unfold aW;split
 ·exact .ok _
 ·exact .err zD
theorem lS(a:ByteArray)(w k i:Int)(s:Sc)(m:Mk):NZ (cI a w k i s m):=by
 unfold cI;split
 ·exact .ok _
 ·exact .err zD
theorem kj(a:Bool)(l:List DT)(m:Mk):NZ (ca a l m):=by
 unfold ca;split
 ·exact .ok _
 ·exact .err zD
theorem qM(s:Sc)(a:ByteArray):NZ (dt s a):=by
 unfold dt;split
 ·exact .ok _
 ·exact .err zD
theorem mZ(a:List Sg)(s:Sc)(x:X):NZ (bS a s x):=by
 unfold bS;refine(qM s _).bind λb _=>?_
 dsimp only;split
 ·exact(fz zD).bind λ_ _=>.ok _
 ·exact(eM _ _).bind λ_ _=>(eM _ _).bind λ_ _=>(fz zD).bind λ_ _=>.ok _
theorem rJ(b:List Sg)(s:Sc)(a:Bool)(x:X):NZ (cJ b s a x):=by
 unfold cJ;exact(fz zD).bind λ_ _=>(mZ _ _ _).bind λ_ _=>(fz zD).bind λ_ _=>.ok _
theorem jO:∀(b:List (Rs (DE×Int))) (n:Int),(∀a,a∈b->NZ a)->NZ (cF b n)
 |[],_,_=>.ok _
 |a::rs,n,h=>by
  rw[cF];exact(h a (cc ..)).bind λe _=>(jO rs _ λd c=>h d (bi _ c)).bind λ_ _=>.ok _
theorem jN(a:DE×Int):NZ (df a):=by
 unfold df;split
 ·exact .ok _
 ·exact .err zD
theorem pQ{g:List Sg}{s:Sc}{x:X}{a:List (Rs (DE×Int))}(h:∀b,b∈a->NZ b)(d:x.op=9->2<=a.length):NZ (dn g s x a):=by
 unfold dn;split
 ·exact .ok _
 split
 ·split
  ·exact .ok _
  ·exact(mZ _ _ _).bind λ_ _=>.ok _
 split
 ·exact(mZ _ _ _).bind λ_ _=>.ok _
 split
 ·exact(qM _ _).bind λ_ _=>(jO _ _ h).bind λ_ _=>jN _
 split
 ·rename_i c
  have f:NZ (a.getD 1 (.error 0)):=by
   have:=d c;rw[List.getD_eq_getElem?_getD,List.getElem?_eq_getElem zO];exact h _ (an _)
  exact(eM _ _).bind λ_ _=>(fz zD).bind λ_ _=>f.bind λ_ _=>jN _
 split
 ·exact(jP _ _).bind λ_ _=>(jO _ _ λb e=>h b (List.mem_of_mem_drop e)).bind λ_ _=>jN _
 ·exact(jO _ _ h).bind λ_ _=>jN _
theorem pS(g:List Sg)(s:Sc):∀x,MayX x->NZ (aC g s x):=by
 intro x;induction x using X.ind with
 |h x ih=>
  intro d;obtain⟨⟨e,-⟩,c⟩:=MayX_iff.1 d;rw[dI];refine pQ (λj f=>?_) λi=>?_
  ·obtain⟨b,a,rfl⟩:=y8f.1 f;exact ih b a (c b a)
  ·rw[List.length_map];unfold eg at e;omega
theorem pV(c:List Sg)(s:Sc):NZ (aC c s (.mk 0 ⟨#[]⟩ 0 0 0 [])):=by
 rw[dI];exact pQ (λd b=>by cases b) λa=>absurd a (by show¬(0:Int)=9;decide)
theorem jd(a:List Sg)(s:Sc){l:List X}(h:el l)(i:Nat):NZ (aC a s (xAt l i)):=by
 unfold xAt;rw[List.getD_eq_getElem?_getD];by_cases hi:i<l.length
 ·rw[List.getElem?_eq_getElem hi];exact pS _ _ _ (h _ (an _))
 ·rw[List.getElem?_eq_none zO];exact pV _ _
theorem iW{s:Sc}{x:X}(h:∀a,NZ (aC a s x))(m:Mk):NZ (aG s x m):=by
 unfold aG;exact(h _).bind λ_ _=>(ev _ _).bind λ_ _=>.ok _
theorem rI{s:Sc}{a:Bool}{c x:X}(h:∀b,NZ (aC b s x))(m:Mk):NZ (cG s a c x m):=by
 unfold cG;exact(ev _ _).bind λ_ _=>(rJ _ _ _ _).bind λ_ _=>(iW h _).bind λ_ _=>.ok _
theorem jm{α:Type}:∀(fs:List (Mk->Rs (α×Mk))) (m:Mk),(∀a,a∈fs->∀m,NZ (a m))->NZ (bB fs m)
 |[],_,_=>.ok _
 |a::fs,m,h=>by
  rw[bB];exact(h a (cc ..) m).bind λd _=>(jm fs _ λc b=>h c (bi _ b)).bind λ_ _=>.ok _
theorem pW{body:Int->Mk->Rs (List DT×Mk)}(h:∀v m,NZ (body v m)):∀(n:Nat) (v:Int) (m:Mk),NZ (eQ body n v m)
 |0,_,_=>.ok _
 |n+1,v,m=>by
  rw[eQ];exact(ev _ _).bind λ_ _=>(h _ _).bind λ_ _=>(pW h n _ _).bind λ_ _=>.ok _
theorem wn(s:Sc)(x:X)(m:Mk):NZ (eu s x m):=by
 unfold eu;exact(nN _ _).bind λ_ _=>(ev _ _).bind λ_ _=>.ok _
def StX(x:S):Prop:=MayS x\/∃a,MayArm a x
theorem StX.parts{x:S}(h:StX x):el x.x/\∀b,b∈x.l->StX b:=by
 rcases h with h|⟨g,h⟩
 ·obtain⟨c,-,d⟩:=MayS_iff.1 h;refine⟨c,λb a=>?_⟩;rcases d with⟨-,-,-,e⟩|⟨-,-,-,-,-,ha⟩|⟨-,-,ha⟩|⟨-,-,ha⟩|⟨-,-,ha⟩
  ·rw[List.eq_nil_of_length_eq_zero e] at a;cases a
  ·exact .inl (ha b a)
  ·obtain⟨f,hi,rfl⟩:=List.getElem_of_mem a;exact .inr ⟨_,ha.2 f hi⟩
  ·exact .inl (ha b a)
  ·exact .inl (ha b a)
 ·obtain⟨-,-,-,c,d⟩:=MayArm_iff.1 h;exact⟨c,λb a=>.inl (d b a)⟩
theorem ud(g:Bool):∀x,StX x->(∀s m,NZ (aK g x s m))/\∀s m,NZ (cz g x s m):=by
 intro x;induction x using S.ind with
 |h x ih=>
  intro t;obtain⟨n,p⟩:=t.parts;have k:∀a,a∈x.l.map (aK g)->∀s m,NZ (a s m):=λa b=>by obtain⟨f,d,rfl⟩:=y8f.1 b;exact(ih f d (p f d)).1
  have ha:∀a,a∈x.l.map (cz g)->∀s m,NZ (a s m):=λa b=>by obtain⟨f,d,rfl⟩:=y8f.1 b;exact(ih f d (p f d)).2
  have j:∀{o:List (Sc->Mk->Rs (DT×Mk))} (s:Sc) (m:Mk),(∀a,a∈o->∀s m,NZ (a s m))->NZ (bB (o.map λa=>a s) m):=λs m q=>jm _ _ λa b m=>by obtain⟨i,c,rfl⟩:=y8f.1 b;exact q i c s m
  refine⟨λs m=>?_,λs m=>?_⟩
  ·rw[fu];unfold eR;split
   ·exact rI (λe=>jd e s n 1) m
   refine(ev _ _).bind λu _=>?_
   split
   ·exact(j s _ k).bind λ_ _=>.ok _
   split
   ·exact(eM _ _).bind λ_ _=>(eM _ _).bind λ_ _=>(pW (λv m=>j _ m k) _ _ _).bind λ_ _=>.ok _
   split
   ·exact(iW (λe=>jd e s n 0) _).bind λ_ _=>(j s _ ha).bind λ_ _=>.ok _
   split
   ·refine(iW (λe=>jd e s n 0) _).bind λ_ _=>(jm _ _ λa b m=>?_).bind λ_ _=>.ok _
    obtain⟨⟨y,i⟩,r,rfl⟩:=y8f.1 b;have c:=k i (List.of_mem_zip r).2;dsimp only;split
    ·unfold fZ;exact(ev _ _).bind λ_ _=>(c _ _).bind λ_ _=>.ok _
    ·exact c _ _
   ·exact .ok _
  ·rw[jF];unfold jC;exact(ev _ _).bind λ_ _=>(jm _ _ λa b m=>by obtain⟨i,c,rfl⟩:=y8f.1 b;exact wn _ _ _).bind λ_ _=>(j s _ k).bind λ_ _=>.ok _
theorem wo(a:Bool)(s:Sc){l:List S}(h:dS l)(m:Mk):NZ (bC a s l m):=
 jm _ _ λe c m=>by obtain⟨b,d,rfl⟩:=y8f.1 c;exact(ud a b (.inl (h b d))).1 s m
theorem qN{body:Int->Mk->Rs Mk}(h:∀v m,NZ (body v m)):∀(n:Nat) (v:Int) (m:Mk),NZ (ff body n v m)
 |0,_,_=>.ok _
 |n+1,v,m=>by
  rw[ff];exact(ev _ _).bind λ_ _=>(h _ _).bind λ_ _=>qN h n _ _
theorem iV{inst:Itm->Sc->Mk->Rs Mk}:∀(l:List Itm),(∀a,a∈l->∀s m,NZ (aF inst a s m))->∀s m,NZ (aZ inst l s m)
 |[],_,s,m=>by rw[aZ];exact .ok _
 |a::r,h,s,m=>by
  rw[aZ];exact(ev _ _).bind λ_ _=>(h a (cc ..) _ _).bind λ_ _=>iV r (λc b=>h c (bi _ b)) _ _
theorem pU{inst:Itm->Sc->Mk->Rs Mk}(Q:Itm->Prop)(r:∀t a,Q t->a∈t.l->Q a)(q:∀t a,Q t->a∈t.els->Q a)(u:∀t,Q t->MayI t->t.op=7->∀s m,NZ (inst t s m)):∀t,Q t->MayI t->∀s m,NZ (aF inst t s m):=by
 intro t;induction t using Itm.ind with
 |h t ih1 ih2=>
  intro d j s m;obtain⟨-,e,o,n,k,-⟩:=MayI_iff.1 j;have c:=iV t.l λa b=>ih1 a b (r t a d b) (n a b)
  have g:=iV t.els λa b=>ih2 a b (q t a d b) (k a b)
  have i:=u t d j;clear ih1 ih2 n k;obtain⟨op,z,of,x,C,l,els,A,y⟩:=t;simp only[Itm.op,Itm.l,Itm.els,Itm.x,Itm.s] at c g i e o;rw[aF];split
  ·exact(eM _ _).bind λ_ _=>.ok _
  split
  ·exact(jP _ _).bind λ_ _=>lS _ _ _ _ _ _
  split
  ·exact(jP _ _).bind λ_ _=>(nN _ _).bind λ_ _=>lS _ _ _ _ _ _
  split
  ·exact(rI (λf=>jd f s e 1) m).bind λ_ _=>(kj _ _ _).bind λ_ _=>.ok _
  split
  ·exact(wo _ s o m).bind λ_ _=>(kj _ _ _).bind λ_ _=>.ok _
  split
  ·exact(iW (λf=>jd f s e 0) m).bind λ_ _=>.ok _
  split
  ·rename_i p;exact(i p s m).bind λ_ _=>.ok _
  split
  ·refine(eM _ _).bind λv _=>?_
   split
   ·exact c s m
   ·exact g s m
  split
  ·exact(eM _ _).bind λ_ _=>(eM _ _).bind λ_ _=>(qN (λv m=>(c _ _).bind λ_ _=>.ok _) _ _ _).bind λ_ _=>.ok _
  ·exact .ok _
theorem lF{α:Type}{d:ByteArray->Prop}{e:Int}(a:e≠0){val:X->Rs α}(c:∀x,NZ (val x)):∀(l:List Bnd) (o:ByteArray->Option α),NZ (bT d e val l o)
 |[],_=>.ok _
 |b::r,o=>by
  rw[bT];exact(fz a).bind λ_ _=>(c _).bind λ_ _=>lF a c r _
theorem lR{aB:ByteArray->Option Int}:∀(l:List Bnd) (s:Sc),NZ (cH aB l s)
 |[],_=>.ok _
 |p::r,s=>by
  rw[cH];split
  ·exact(NZ.ok _).bind λ_ _=>lR r _
  ·exact(eM _ _).bind λ_ _=>lR r _
theorem qO{kind:Prt->Int}:∀(l:List Prt) (s:Sc) (m:Mk),NZ (ci kind l s m)
 |[],_,_=>.ok _
 |p::r,s,m=>by
  rw[ci];exact(jP _ _).bind λ_ _=>(lS _ _ _ _ _ _).bind λ_ _=>qO r _ _
theorem pT(of:Mdl)(aB:ByteArray->Option Int)(a:ByteArray)(kind:Prt->Int)(m:Mk):NZ (dN of aB a kind m):=by
 unfold dN;exact(lR _ _).bind λ_ _=>qO _ _ _
theorem mR{s b:Sc}{a:ByteArray->Option X}(h:∀c x,a c=some x->MayX x):∀(l:List Prt) (m:Mk),NZ (co s b a l m)
 |[],_=>.ok _
 |p::r,m=>by
  rw[co];split
  ·exact mR h r m
  ·refine(ev _ _).bind λd _=>?_
   dsimp only;refine(iW (λe=>?_) _).bind λ_ _=>(kj _ _ _).bind λ_ _=>mR h r _
   cases he:a p.name with
   |none=>exact pV _ _
   |some x=>exact pS _ _ _ (h _ _ he)
theorem na{s:Sc}{b:ByteArray->Option Int}{a:ByteArray->Option X}:∀(l:List Prt) (m:Mk),NZ (bZ s b a l m)
 |[],_=>.ok _
 |p::r,m=>by
  rw[bZ];split
  ·exact(ev _ _).bind λ_ _=>(rJ _ _ _ _).bind λ_ _=>(ev _ _).bind λ_ _=>(kj _ _ _).bind λ_ _=>na r _
  ·exact na r m
theorem pR{a:ByteArray->Option X}:∀(l:List Prt),NZ (dp a l)
 |[]=>.ok _
 |p::r=>by
  rw[dp];exact(fz zD).bind λ_ _=>pR r
theorem qq{h:ByteArray->Prop}{e:Int}:∀{l:List Bnd},(∀f,f∈l->MayX f.x)->∀(o d:ByteArray->Option X),(∀c v,o c=some v->MayX v)->bT h e (λx=>.ok x) l o=.ok d->∀c v,d c=some v->MayX v
 |[],_,o,d,ho,a=>by injection a with a;rw[<-a];exact ho
 |f::l,hl,o,d,ho,a=>by
  rw[bT] at a;obtain⟨n,-,a⟩:=ak a;obtain⟨v,g,a⟩:=ak a;injection g with g;refine qq (λi j=>hl i (bi _ j)) _ d (λc k b=>?_) a;unfold az at b;split at b
  ·injection b with b;rw[<-b,<-g];exact hl f (cc ..)
  ·exact ho c k b
theorem wm{f:List Mdl}(y:∀m,m∈f->dc m):∀(k:Nat) (l:List Itm),RkM f k (bX l)->(∀a,a∈l->MayI a)->∀s m,NZ (aZ (cf f k) l s m):=by
 intro k;induction k with
 |zero=>
  intro l j i;exact iV l λa g=>pU (λa=>RkM f 0 (ofI a)) (λa e b d=>b.sub λs c=>ofI_mem.2 (.inr (.inl (ofIs_mem.2 ⟨e,d,c⟩)))) (λa e b d=>b.sub λs c=>ofI_mem.2 (.inr (.inr (ofIs_mem.2 ⟨e,d,c⟩)))) (λa b _ h=>absurd (ofI_mem.2 (.inl ⟨h,rfl⟩)) (b a.of)) a (j.sub λs c=>ofIs_mem.2 ⟨a,g,c⟩) (i a g)
 |succ k ih=>
  intro l j i;refine iV l λa g=>pU (λa=>RkM f (k+1) (ofI a)) (λa e b d=>b.sub λs c=>ofI_mem.2 (.inr (.inl (ofIs_mem.2 ⟨e,d,c⟩)))) (λa e b d=>b.sub λs c=>ofI_mem.2 (.inr (.inr (ofIs_mem.2 ⟨e,d,c⟩)))) (λa b v h s m=>?_) a (j.sub λs c=>ofIs_mem.2 ⟨a,g,c⟩) (i a g)
  obtain⟨of,o,q⟩:=b a.of (ofI_mem.2 (.inl ⟨h,rfl⟩));obtain⟨-,-,-,-,-,-,r⟩:=MayI_iff.1 v;rw[cf,o];simp only[Option.getD_some];refine(lF zD (λx=>eM _ _) _ _).bind λaB _=>(lF zD (λx=>.ok _) _ _).bind λC u=>(pR _).bind λ_ _=>(pT _ _ _ _ _).bind λn _=>(mR (λA x z=>?_) _ _).bind λ_ _=>(ih of.items q ((y of (gU o).1).2.2.2) _ _).bind λ_ _=>na _ _
  exact qq (λp t=>(r p t).2) _ _ (λ_ _ n=>by cases n) u A x z
theorem pX(of:Mdl):∀(l:List (ByteArray×Int)) (o:ByteArray->Option Int),NZ (dr of l o)
 |[],_=>.ok _
 |p::r,o=>by
  rw[dr];exact(fz zD).bind λ_ _=>(fz zD).bind λ_ _=>pX of r _
theorem tn(f:List Mdl)(g:ByteArray)(ps:List (ByteArray×Int)):NZ (bQ f g ps):=by
 unfold bQ;split
 ·rename_i d;exact .err d
 rename_i a
 have a:cC f=0:=Decidable.of_not_not a;split
 ·exact .err zD
 rename_i of e
 have b:=lY a;have c:=(gU e).1;exact(pX _ _ _).bind λ_ _=>(pT _ _ _ _ _).bind λ_ _=>(wm b f.length of.items (qd a c) (b of c).2.2.2 _ _).bind λ_ _=>.ok _
end
