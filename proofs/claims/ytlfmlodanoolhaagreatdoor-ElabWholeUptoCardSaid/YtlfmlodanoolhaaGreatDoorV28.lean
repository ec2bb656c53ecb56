import Derived.Test.YtlfmlodanoolhaaGreatDoorV16
import Derived.Test.YtlfmlodanoolhaaGreatDoorV26
set_option linter.all false
set_option maxRecDepth 200000
set_option maxHeartbeats 0
namespace Go.Proofs.YtlfmlodanoolhaaGreatDoor
section
open Go Go.RowKit Go.Proofs.Tryz
attribute [local go_sem] bc
theorem oh(m:Nat)(E:Enters Tryz.prog m)(P:Mdl->Prop)(y:Value)(B:Nat)(l:List Mdl)(w:World)
 (F:∀x,x∈l->∀(f:World) (z:List Value),Ext w f->RM f B x z->B<=f.heap.size->Calls Tryz.prog m #[.agg z.toArray,y] f λe S=>e=.returned (.bool (yes (P x)))/\Ext f S)
 (v:Value) (O:Sl (RM w B) w B 4 l v) (A:B<=w.heap.size) (a3:l.length<=1000000000):
 Calls Tryz.prog 65 #[v,.func (.func m) #[] #[y]] w λe f=>Ext w f/\
  ((∃b,∃n:b<l.length,P l[b]/\(∀a,∀g:a<l.length,a<b->¬P l[a])/\e=.returned (.int .i64 b))\/((∀x,x∈l->¬P x)/\e=.returned (.int .i64 (-1)))):=by
 obtain⟨T,V,rfl,Q,H⟩:=O;have t:=Hd F;have a1:=E.o;clear F E Q
 go_in
 go_wp2_with fail
 go_loopw [8] (λb wr=>∃c:Nat,c<=l.length/\b=.int .i64 c/\(∀a,∀g:a<l.length,a<c->¬P l[a])/\Ext w wr) (λb _=>l.length - (intOf b).toNat)
 case atStart=>exact⟨0,aA _,rfl,λa g i=>absurd i zO,af _⟩
 case round=>
  obtain⟨c,a2,rfl,G,d⟩:=hrel;have k:=Hd G;clear G;by_cases r:c<l.length
  ·have q:=Hd (t.o l[c] (an r));obtain⟨U,o,a8,a9,b0,b1,rfl,a0,D,C,a4,a5,a6,a7⟩:=H.open4 r;obtain⟨W,X,Y,Z⟩:=(C.ext d).get4;have p:=Hd (D.ext d A);have N:=Hd (ad A d.size);have u:=Hd d;clear C H D t d;go_wp2_with fail
   refine(q.o _ _ u.o p.o N.o).mono ?_;rintro e b2 ⟨rfl,s⟩;have I:=Hd (u.o.trans s);by_cases h:P l[c]
   ·rw[yes_iff.2 h];have j:=Hd (show∃b,∃n:b<l.length,P l[b]/\(∀a,∀g:a<l.length,a<b->¬P l[a])/\(c:Int)=b from⟨c,r,h,k.o,rfl⟩);clear h s q p;go_wp2_with fail
    go_ret;obtain⟨b,n,K,L,M⟩:=j.o;exact⟨I.o,.inl ⟨b,n,K,L,by rw[M];rfl⟩⟩
   ·rw[yes_no.2 h];have J:=Hd (show∀a,∀g:a<l.length,a<c+1->¬P l[a] from λa g i=>if e:a=c then by subst e;exact h else k.o a g zO);clear h s q p;go_wp2_with fail
    go_roundw;case rel=>exact⟨c+1,zO,by go_num,J.o,I.o⟩
    case measure=>simp[intOf];omega
  ·have R:c=l.length:=by omega
   subst R;have j:=Hd (show∀x,x∈l->¬P x from λx d=>by obtain⟨a,i,rfl⟩:=List.getElem_of_mem d;exact k.o a i i);go_wp2_with fail
   go_ret;exact⟨d,.inr ⟨j.o,rfl⟩⟩
theorem Ad(q:Nat)(A:Enters Tryz.prog q)(P:ByteArray->Prop)(z:Value)(l:List ByteArray)(w:World)
 (C:∀x,x∈l->∀(k:World),Ext w k->Calls Tryz.prog q #[.string x,z] k λe M=>e=.returned (.bool (yes (P x)))/\Ext k M)
 (v:Value) (J:SStr w l v) (V:l.length<=1000000000):
 Calls Tryz.prog 97 #[v,.func (.func q) #[] #[z]] w λe k=>Ext w k/\
  ((∃b,∃r:b<l.length,P l[b]/\(∀a,∀d:a<l.length,a<b->¬P l[a])/\e=.returned (.int .i64 b))\/((∀x,x∈l->¬P x)/\e=.returned (.int .i64 (-1)))):=by
 obtain⟨O,R,rfl,K,E⟩:=J;have u:=Hd C;have y:=Hd E;have T:=A.o;clear C A K E
 go_in
 go_wp2_with fail
 go_loopw [8] (λb wr=>∃c:Nat,c<=l.length/\b=.int .i64 c/\(∀a,∀d:a<l.length,a<c->¬P l[a])/\Ext w wr) (λb _=>l.length - (intOf b).toNat)
 case atStart=>exact⟨0,aA _,rfl,λa d i=>absurd i zO,af _⟩
 case round=>
  obtain⟨c,U,rfl,D,h⟩:=hrel;have p:=Hd D;clear D;by_cases s:c<l.length
  ·have f:=Hd (u.o l[c] (an s));obtain⟨Q,o,rfl,B⟩:=y.o c s;have S:=h.at_ B;have m:=Hd h;clear B u h y;by_cases g:P l[c]
   ·rw[yes_iff.2 g] at f;have n:=Hd (show∃b,∃r:b<l.length,P l[b]/\(∀a,∀d:a<l.length,a<b->¬P l[a])/\(c:Int)=b from⟨c,s,g,p.o,rfl⟩);clear g;go_wp2_with fail
    refine(f.o _ m.o).mono ?_;rintro e N ⟨rfl,j⟩;have t:=Hd (m.o.trans j);clear j f;go_wp2_with fail
    go_ret;obtain⟨b,r,G,H,I⟩:=n.o;exact⟨t.o,.inl ⟨b,r,G,H,by rw[I];rfl⟩⟩
   ·rw[yes_no.2 g] at f;have F:=Hd (show∀a,∀d:a<l.length,a<c+1->¬P l[a] from λa d i=>if e:a=c then by subst e;exact g else p.o a d zO);clear g;go_wp2_with fail
    refine(f.o _ m.o).mono ?_;rintro e N ⟨rfl,j⟩;have t:=Hd (m.o.trans j);clear j f;go_wp2_with fail
    go_roundw;case rel=>exact⟨c+1,zO,by go_num,F.o,t.o⟩
    case measure=>simp[intOf];omega
  ·have L:c=l.length:=by omega
   subst L;have n:=Hd (show∀x,x∈l->¬P x from λx h=>by obtain⟨a,i,rfl⟩:=List.getElem_of_mem h;exact p.o a i i);go_wp2_with fail
   go_ret;exact⟨h,.inr ⟨n.o,rfl⟩⟩
theorem kQ(c:Nat)(i:Enters Tryz.prog c)(P:ByteArray->Prop)(g:Value)(l:List ByteArray)(w:World)
 (j:∀x,x∈l->∀(b:World),Ext w b->Calls Tryz.prog c #[.string x,g] b λe r=>e=.returned (.bool (yes (P x)))/\Ext b r)
 (v:Value) (h:SStr w l v) (k:l.length<=1000000000):
 Calls Tryz.prog 61 #[v,.func (.func c) #[] #[g]] w λe b=>e=.returned (.bool (yes (∃x,x∈l/\P x)))/\Ext w b:=by
 have m:=Hd (Ad c i P g l w j v h k);clear j i h k
 go_in
 go_wp2_with fail
 go_at_call 97;refine m.o.mono ?_;rintro _ s ⟨d,(⟨q,n,a,-,rfl⟩|⟨a,rfl⟩)⟩
 ·have f:=Hd (yes_iff.2 (show∃x,x∈l/\P x from⟨l[q],an n,a⟩));clear a;go_wp2_with fail
  go_ret;exact⟨by rw[f.o];rfl,d⟩
 ·have f:=Hd (yes_no.2 (show¬∃x,x∈l/\P x from λ⟨x,d,p⟩=>a x d p));clear a;go_wp2_with fail
  go_ret;exact⟨by rw[f.o];rfl,d⟩
theorem AH:Enters Tryz.prog 66:=⟨λ_ _=>by kernel_rfl⟩
theorem AO(B:Nat)(m:Mdl)(s:ByteArray)(p:Addr)(w:World)(f:List Value)(l:RM w B m f)(i:w.cell? p=some (.string s))(h:p.block<w.heap.size):
 Calls Tryz.prog 66 #[.agg f.toArray,.pointer (some p)] w λe u=>e=.returned (.bool (yes (m.name=s)))/\Ext w u:=by
 obtain⟨q,r,t,rfl,j,k,g⟩:=l;have F:=j.oneCell;have G:=k.oneCell;have H:=g.oneCell;obtain⟨v,b,C,c,n,x,y,z,A⟩:=en w (.string m.name) q r t 30;have E:b.w.cell? p=some (.string s):=((c.trans b.ext).cell h).trans i;have d:=Hd (c.trans b.ext);clear j k g c n i h;by_cases a:m.name=s
 ·rw[yes_iff.2 a];subst a
  go_in
  go_wp2
  go_ret;exact⟨rfl,d.o⟩
 ·rw[yes_no.2 a];have D:=gB a;clear a
  go_in
  go_wp2
  go_ret;exact⟨rfl,d.o⟩
def ks:Mdl:=⟨⟨#[]⟩,[],[],[]⟩
theorem ly{f:List Mdl}{s:ByteArray}{i:Nat}(h:i<f.length)(b:f[i].name=s)(h2:∀a,∀d:a<f.length,a<i->¬f[a].name=s):ce f s=some f[i]:=by
 unfold ce;rw[List.find?_eq_some_iff_getElem];exact⟨yes_iff.2 b,i,h,rfl,λa c=>by rw[yes_no.2 (h2 a zO c)];rfl⟩
theorem qt{f:List Mdl}{s:ByteArray}(h:∀x,x∈f->¬x.name=s):ce f s=none:=by
 unfold ce;exact List.find?_eq_none.2 λx b a=>h x b (yes_iff.1 a)
theorem qu(B:Nat)(f:List Mdl)(s:ByteArray)(w:World)(b1:Value)(a0:Sl (RM w B) w B 4 f b1)(I:B<=w.heap.size)(b5:f.length<=1000000000):
 Calls Tryz.prog 33 #[.agg #[b1],.string s] w λe p=>∃S T U V,e=.returned (.tuple #[.agg #[S,T,U,V],.bool (ce f s).isSome])/\RM p B ((ce f s).getD ks) [S,T,U,V]/\Ext w p:=by
 have Q:=Hd a0;obtain⟨R,W,rfl,b4,a5⟩:=a0;have E:=Hd a5;obtain⟨c6,j,d4,a7,-,r⟩:=ja w (.slice R f.length W) 24;obtain⟨c7,a,d5,a8,b6,t⟩:=ja j.w (.string s) 9;have K:=j.ext.trans a8;have J:=a7.trans K;have r:=am r K;obtain⟨H,a1,a9,a2⟩:=bK a.w (.string ⟨#[]⟩) (.slice none 0 0) (.slice none 0 0) (.slice none 0 0) 30;obtain⟨g,a3⟩:=ae (af H);have d6:=a1.symm.trans a3;have n:=a.ext.trans a9;have y:=J.trans n;have r:=am r n;have t:=am t n;have a4:j.w.heap.size<H.heap.size:=by have:=n.size;omega
 have d:w.heap.size<=a.w.heap.size:=(J.trans a.ext).size;have G:=Hd y;have P:=Hd a2;have b3:B<=H.heap.size:=ad I y.size;have d9:=@hmf_ Tryz.prog
 have F:=Hd (oh 66 AH (λb7=>b7.name=s) (.pointer (some ⟨j.w.heap.size,0,none⟩)) B f g.w
  (λx m p b2 a6 u d3=>AO B x s ⟨j.w.heap.size,0,none⟩ p b2 u (t ⟨p,g.ext.trans a6⟩) (aQ a4 (g.ext.trans a6).size))
  (.slice R f.length W) (Q.o.extRM (y.trans g.ext) I) (ad b3 g.ext.size) b5)
 clear b4 a5 a7 a8 b6 K J a1 a9 a2 a3 n y a4 Q t
 go_in
 go_wp2_with fail
 go_at_call 65;refine F.o.mono ?_;rintro _ e5 ⟨m,(⟨b0,X,k,Y,rfl⟩|⟨k,rfl⟩)⟩
 ·obtain⟨c,rfl⟩:=ae (g.ext.trans m);obtain⟨c8,o,z,A,C,D,rfl,d7,u,Z,e1,e2,e3,e4⟩:=E.o.open4 X;obtain⟨c9,d0,d1,d2⟩:=(Z.ext (G.o.trans c.ext)).get4;have b:=P.o.ext c.ext;obtain⟨b8,b9,c0,c1⟩:=b.get4;obtain⟨c2,c3,c4,c5⟩:=b.free4;have l:=b.store4 z A C D;obtain⟨L,M,N,O⟩:=l.get4;have h:Ext w ((((c.w.setCell ⟨a.w.heap.size,0,none⟩ z).setCell ⟨a.w.heap.size,1,none⟩ A).setCell ⟨a.w.heap.size,2,none⟩ C).setCell ⟨a.w.heap.size,3,none⟩ D):=((((G.o.trans c.ext).setCell d _).setCell d _).setCell d _).setCell d _;have q:=Hd (aq (u.ext h I) h);have i:=Hd (ly X k Y);have e0:decide ((b0:Int)<0)=false:=decide_eq_false zO;have d8:(b0:Int)<(f.length:Nat):=by omega
  clear Z u b l h m k Y F E;go_wp2_with fail
  refine bodyPost_ret (v:=.tuple #[.agg #[z,A,C,D],.bool true]) ?_ rfl ⟨z,A,C,D,by rw[i.o];rfl,by rw[i.o];exact q.o.1,q.o.2⟩;simp[results,results33,go_sem,L,M,N,O]
 ·obtain⟨c,rfl⟩:=ae (g.ext.trans m);have b:=P.o.ext c.ext;obtain⟨b8,b9,c0,c1⟩:=b.get4;obtain⟨c2,c3,c4,c5⟩:=b.free4;have l:=b.store4 (.string ⟨#[]⟩) (.slice none 0 0) (.slice none 0 0) (.slice none 0 0);obtain⟨L,M,N,O⟩:=l.get4;have h:Ext w ((((c.w.setCell ⟨a.w.heap.size,0,none⟩ (.string ⟨#[]⟩)).setCell ⟨a.w.heap.size,1,none⟩ (.slice none 0 0)).setCell ⟨a.w.heap.size,2,none⟩ (.slice none 0 0)).setCell ⟨a.w.heap.size,3,none⟩ (.slice none 0 0)):=((((G.o.trans c.ext).setCell d _).setCell d _).setCell d _).setCell d _;have q:=Hd h;have i:=Hd (qt k);clear b l h m k F E;go_wp2_with fail
  refine bodyPost_ret (v:=.tuple #[.agg #[.string ⟨#[]⟩,.slice none 0 0,.slice none 0 0,.slice none 0 0],.bool false]) ?_ rfl ⟨_,_,_,_,by rw[i.o];rfl,by rw[i.o];exact⟨_,_,_,rfl,cm,cm,cm⟩,q.o⟩;simp[results,results33,go_sem,L,M,N,O]
end
section
open Go Go.RowKit Go.Proofs.Tryz
theorem gU{f:List Mdl}{s:ByteArray}{m:Mdl}(h:ce f s=some m):m∈f/\m.name=s:=by
 unfold ce at h;have a:=List.find?_some h;exact⟨List.mem_of_find?_eq_some h,yes_iff.1 a⟩
end
section
open Go Go.RowKit Go.Proofs.Tryz
attribute [local go_sem] bc
theorem len7{a:List Value}(h:a.length=7):∃b c d e f g i,a=[b,c,d,e,f,g,i]:=by
 match a,h with
 |[b,c,d,e,f,g,i],_=>exact⟨b,c,d,e,f,g,i,rfl⟩
theorem len8{a:List Value}(h:a.length=8):∃b c d e f g i j,a=[b,c,d,e,f,g,i,j]:=by
 match a,h with
 |[b,c,d,e,f,g,i,j],_=>exact⟨b,c,d,e,f,g,i,j,rfl⟩
theorem Aa(p:Nat)(F:Enters Tryz.prog p)(P:Bnd->Prop)(A:Value)(B:Nat)(l:List Bnd)(w:World)
 (H:∀x,x∈l->∀(g:World) (n:List Value),Ext w g->RB g B x n->B<=g.heap.size->Calls Tryz.prog p #[.agg n.toArray,A] g λe a1=>e=.returned (.bool (yes (P x)))/\Ext g a1)
 (v:Value) (R:Sl (RB w B) w B 7 l v) (C:B<=w.heap.size) (b5:l.length<=1000000000):
 Calls Tryz.prog 102 #[v,.func (.func p) #[] #[A]] w λe g=>Ext w g/\
  ((∃b,∃q:b<l.length,P l[b]/\(∀a,∀h:a<l.length,a<b->¬P l[a])/\e=.returned (.int .i64 b))\/((∀x,x∈l->¬P x)/\e=.returned (.int .i64 (-1)))):=by
 obtain⟨a2,a4,rfl,S,J⟩:=R;have y:=Hd H;have b3:=F.o;clear H F S
 go_in
 go_wp2_with fail
 go_loopw [8] (λb wr=>∃c:Nat,c<=l.length/\b=.int .i64 c/\(∀a,∀h:a<l.length,a<c->¬P l[a])/\Ext w wr) (λb _=>l.length - (intOf b).toNat)
 case atStart=>exact⟨0,aA _,rfl,λa h j=>absurd j zO,af _⟩
 case round=>
  obtain⟨c,b4,rfl,I,f⟩:=hrel;have m:=Hd I;clear I;by_cases t:c<l.length
  ·have s:=Hd (y.o l[c] (an t));obtain⟨a3,o,n,rfl,b2,G,D,d,E⟩:=J _ t;obtain⟨U,V,W,X,Y,Z,a0,rfl⟩:=len7 G;have b6:=d U zS;have b7:=d V zS;have b8:=d W zS;have b9:=d X zS;have c0:=d Y zS;have c1:=d Z zS;have c2:=d a0 zS;obtain⟨a5,a6,a7,a8,a9,b0,b1⟩:=(D.ext f).get7;have r:=Hd (RB.ext E f C);have Q:=Hd (ad C f.size);have z:=Hd f;clear D d G J E y f;go_wp2_with fail
   refine(s.o _ _ z.o r.o Q.o).mono ?_;rintro e c3 ⟨rfl,u⟩;have K:=Hd (z.o.trans u);by_cases i:P l[c]
   ·rw[yes_iff.2 i];have k:=Hd (show∃b,∃q:b<l.length,P l[b]/\(∀a,∀h:a<l.length,a<b->¬P l[a])/\(c:Int)=b from⟨c,t,i,m.o,rfl⟩);clear i u s r;go_wp2_with fail
    go_ret;obtain⟨b,q,M,N,O⟩:=k.o;exact⟨K.o,.inl ⟨b,q,M,N,by rw[O];rfl⟩⟩
   ·rw[yes_no.2 i];have L:=Hd (show∀a,∀h:a<l.length,a<c+1->¬P l[a] from λa h j=>if e:a=c then by subst e;exact i else m.o a h zO);clear i u s r;go_wp2_with fail
    go_roundw;case rel=>exact⟨c+1,zO,by go_num,L.o,K.o⟩
    case measure=>simp[intOf];omega
  ·have T:c=l.length:=by omega
   subst T;have k:=Hd (show∀x,x∈l->¬P x from λx f=>by obtain⟨a,j,rfl⟩:=List.getElem_of_mem f;exact m.o a j j);go_wp2_with fail
   go_ret;exact⟨f,.inr ⟨k.o,rfl⟩⟩
theorem uF(c:Nat)(j:Enters Tryz.prog c)(P:Bnd->Prop)(g:Value)(B:Nat)(l:List Bnd)(w:World)
 (k:∀x,x∈l->∀(a:World) (h:List Value),Ext w a->RB a B x h->B<=a.heap.size->Calls Tryz.prog c #[.agg h.toArray,g] a λe t=>e=.returned (.bool (yes (P x)))/\Ext a t)
 (v:Value) (i:Sl (RB w B) w B 7 l v) (q:B<=w.heap.size) (m:l.length<=1000000000):
 Calls Tryz.prog 69 #[v,.func (.func c) #[] #[g]] w λe a=>e=.returned (.bool (yes (∃x,x∈l/\P x)))/\Ext w a:=by
 have n:=Hd (Aa c j P g B l w k v i q m);clear k j i m
 go_in
 go_wp2_with fail
 go_at_call 102;refine n.o.mono ?_;rintro _ u ⟨d,(⟨s,p,b,-,rfl⟩|⟨b,rfl⟩)⟩
 ·have f:=Hd (yes_iff.2 (show∃x,x∈l/\P x from⟨l[s],an p,b⟩));clear b;go_wp2_with fail
  go_ret;exact⟨by rw[f.o];rfl,d⟩
 ·have f:=Hd (yes_no.2 (show¬∃x,x∈l/\P x from λ⟨x,d,r⟩=>b x d r));clear b;go_wp2_with fail
  go_ret;exact⟨by rw[f.o];rfl,d⟩
theorem Ac(p:Nat)(F:Enters Tryz.prog p)(P:Prt->Prop)(A:Value)(B:Nat)(l:List Prt)(w:World)
 (H:∀x,x∈l->∀(g:World) (n:List Value),Ext w g->RP g B x n->B<=g.heap.size->Calls Tryz.prog p #[.agg n.toArray,A] g λe a2=>e=.returned (.bool (yes (P x)))/\Ext g a2)
 (v:Value) (R:Sl (RP w B) w B 8 l v) (C:B<=w.heap.size) (b7:l.length<=1000000000):
 Calls Tryz.prog 192 #[v,.func (.func p) #[] #[A]] w λe g=>Ext w g/\
  ((∃b,∃q:b<l.length,P l[b]/\(∀a,∀h:a<l.length,a<b->¬P l[a])/\e=.returned (.int .i64 b))\/((∀x,x∈l->¬P x)/\e=.returned (.int .i64 (-1)))):=by
 obtain⟨a3,a5,rfl,S,J⟩:=R;have y:=Hd H;have b5:=F.o;clear H F S
 go_in
 go_wp2_with fail
 go_loopw [8] (λb wr=>∃c:Nat,c<=l.length/\b=.int .i64 c/\(∀a,∀h:a<l.length,a<c->¬P l[a])/\Ext w wr) (λb _=>l.length - (intOf b).toNat)
 case atStart=>exact⟨0,aA _,rfl,λa h j=>absurd j zO,af _⟩
 case round=>
  obtain⟨c,b6,rfl,I,f⟩:=hrel;have m:=Hd I;clear I;by_cases t:c<l.length
  ·have s:=Hd (y.o l[c] (an t));obtain⟨a4,o,n,rfl,b4,G,D,d,E⟩:=J _ t;obtain⟨U,V,W,X,Y,Z,a0,a1,rfl⟩:=len8 G;have b8:=d U zS;have b9:=d V zS;have c0:=d W zS;have c1:=d X zS;have c2:=d Y zS;have c3:=d Z zS;have c4:=d a0 zS;have c5:=d a1 zS;obtain⟨a6,a7,a8,a9,b0,b1,b2,b3⟩:=(D.ext f).get8;have r:=Hd (RP.ext E f C);have Q:=Hd (ad C f.size);have z:=Hd f;clear D d G J E y f;go_wp2_with fail
   refine(s.o _ _ z.o r.o Q.o).mono ?_;rintro e c6 ⟨rfl,u⟩;have K:=Hd (z.o.trans u);by_cases i:P l[c]
   ·rw[yes_iff.2 i];have k:=Hd (show∃b,∃q:b<l.length,P l[b]/\(∀a,∀h:a<l.length,a<b->¬P l[a])/\(c:Int)=b from⟨c,t,i,m.o,rfl⟩);clear i u s r;go_wp2_with fail
    go_ret;obtain⟨b,q,M,N,O⟩:=k.o;exact⟨K.o,.inl ⟨b,q,M,N,by rw[O];rfl⟩⟩
   ·rw[yes_no.2 i];have L:=Hd (show∀a,∀h:a<l.length,a<c+1->¬P l[a] from λa h j=>if e:a=c then by subst e;exact i else m.o a h zO);clear i u s r;go_wp2_with fail
    go_roundw;case rel=>exact⟨c+1,zO,by go_num,L.o,K.o⟩
    case measure=>simp[intOf];omega
  ·have T:c=l.length:=by omega
   subst T;have k:=Hd (show∀x,x∈l->¬P x from λx f=>by obtain⟨a,j,rfl⟩:=List.getElem_of_mem f;exact m.o a j j);go_wp2_with fail
   go_ret;exact⟨f,.inr ⟨k.o,rfl⟩⟩
theorem uG(c:Nat)(j:Enters Tryz.prog c)(P:Prt->Prop)(g:Value)(B:Nat)(l:List Prt)(w:World)
 (k:∀x,x∈l->∀(a:World) (h:List Value),Ext w a->RP a B x h->B<=a.heap.size->Calls Tryz.prog c #[.agg h.toArray,g] a λe t=>e=.returned (.bool (yes (P x)))/\Ext a t)
 (v:Value) (i:Sl (RP w B) w B 8 l v) (q:B<=w.heap.size) (m:l.length<=1000000000):
 Calls Tryz.prog 154 #[v,.func (.func c) #[] #[g]] w λe a=>e=.returned (.bool (yes (∃x,x∈l/\P x)))/\Ext w a:=by
 have n:=Hd (Ac c j P g B l w k v i q m);clear k j i m
 go_in
 go_wp2_with fail
 go_at_call 192;refine n.o.mono ?_;rintro _ u ⟨d,(⟨s,p,b,-,rfl⟩|⟨b,rfl⟩)⟩
 ·have f:=Hd (yes_iff.2 (show∃x,x∈l/\P x from⟨l[s],an p,b⟩));clear b;go_wp2_with fail
  go_ret;exact⟨by rw[f.o];rfl,d⟩
 ·have f:=Hd (yes_no.2 (show¬∃x,x∈l/\P x from λ⟨x,d,r⟩=>b x d r));clear b;go_wp2_with fail
  go_ret;exact⟨by rw[f.o];rfl,d⟩
theorem AI:Enters Tryz.prog 70:=⟨λ_ _=>by kernel_rfl⟩
theorem zM:Enters Tryz.prog 68:=⟨λ_ _=>by kernel_rfl⟩
theorem AJ:Enters Tryz.prog 155:=⟨λ_ _=>by kernel_rfl⟩
theorem zP:Enters Tryz.prog 153:=⟨λ_ _=>by kernel_rfl⟩
theorem xN(B:Nat)(x:Bnd)(s:ByteArray)(p:Addr)(w:World)(d:List Value)(m:RB w B x d)(j:w.cell? p=some (.string s))(i:p.block<w.heap.size):
 Calls Tryz.prog 70 #[.agg d.toArray,.pointer (some p)] w λe q=>e=.returned (.bool (yes (x.name=s)))/\Ext w q:=by
 obtain⟨t,rfl,k⟩:=m;obtain⟨r,rfl,f⟩:=RX_iff.1 k;have I:=f.oneCell;obtain⟨l,g,b,h⟩:=fF w (.string x.name) (.int .i64 x.x.op) (.string x.x.name) (.int .i64 x.x.n) (.int .i64 x.x.w) (.int .u64 x.x.v) r 45;have F:=g.symm;obtain⟨u,y,z,A,C,D,E⟩:=h.get7;have H:l.cell? p=some (.string s):=(b.cell i).trans j;have c:=Hd b;clear g h b j i f k;by_cases a:x.name=s
 ·rw[yes_iff.2 a];subst a
  go_in
  go_wp2_with fail
  go_ret;exact⟨rfl,c.o⟩
 ·rw[yes_no.2 a];have G:=gB a;clear a
  go_in
  go_wp2_with fail
  go_ret;exact⟨rfl,c.o⟩
theorem yE(B:Nat)(x:Prt)(s:ByteArray)(p:Addr)(w:World)(d:List Value)(m:RP w B x d)(j:w.cell? p=some (.string s))(i:p.block<w.heap.size):
 Calls Tryz.prog 155 #[.agg d.toArray,.pointer (some p)] w λe q=>e=.returned (.bool (yes (x.name=s)))/\Ext w q:=by
 obtain⟨t,rfl,k⟩:=m;obtain⟨r,rfl,f⟩:=RX_iff.1 k;have J:=f.oneCell;obtain⟨l,g,b,h⟩:=de w (.string x.name) (.bool x.o) (.int .i64 x.w.op) (.string x.w.name) (.int .i64 x.w.n) (.int .i64 x.w.w) (.int .u64 x.w.v) r 42;have G:=g.symm;obtain⟨u,y,z,A,C,D,E,F⟩:=h.get8;have I:l.cell? p=some (.string s):=(b.cell i).trans j;have c:=Hd b;clear g h b j i f k;by_cases a:x.name=s
 ·rw[yes_iff.2 a];subst a
  go_in
  go_wp2_with fail
  go_ret;exact⟨rfl,c.o⟩
 ·rw[yes_no.2 a];have H:=gB a;clear a
  go_in
  go_wp2_with fail
  go_ret;exact⟨rfl,c.o⟩
theorem rD(B:Nat)(l:List Bnd)(f:Value)(c:ByteArray)(d:Nat)(w:World)(n:w.cell? ⟨d,1,none⟩=some f)(g:Sl (RB w B) w B 7 l f)(u:B<=w.heap.size)(z:l.length<=1000000000)(p:d<w.heap.size):
 Calls Tryz.prog 68 #[.string c,.pointer (some ⟨d,0,none⟩)] w λe h=>e=.returned (.bool (yes (∃x,x∈l/\x.name=c)))/\Ext w h:=by
 have G:=g.oneCell;obtain⟨j,k,a,m⟩:=aL w (.string c) 9;have D:=k.symm;have E:j.cell? ⟨d,1,none⟩=some f:=(a.cell p).trans n;have q:=Hd a;have F:=@hmf_ Tryz.prog;have i:=Hd m;have s:=Hd (uF 70 AI (λx=>x.name=c) (.pointer (some ⟨w.heap.size,0,none⟩)) B l j (λx _ h t b v C=>xN B x c ⟨w.heap.size,0,none⟩ h t v ((i.o.ext b).cell 0) (i.o.ext b).lt) f (g.keep (λ_ y=>a.cell zO) (ac _) (λA _=>RB.keep (λ_ y=>a.cell zO) (ac _) A)) (ad u a.size) z);clear k a m n p g
 go_in
 go_wp2_with fail
 go_at_call 69;refine s.o.mono ?_;rintro _ H ⟨rfl,b⟩;have r:=Hd (q.o.trans b);clear b;go_wp2_with fail
 go_ret;exact⟨rfl,r.o⟩
theorem yg(B:Nat)(l:List Prt)(f:Value)(c:ByteArray)(d:Nat)(w:World)(n:w.cell? ⟨d,2,none⟩=some f)(g:Sl (RP w B) w B 8 l f)(u:B<=w.heap.size)(z:l.length<=1000000000)(p:d<w.heap.size):
 Calls Tryz.prog 153 #[.string c,.pointer (some ⟨d,0,none⟩)] w λe h=>e=.returned (.bool (yes (∃x,x∈l/\x.name=c)))/\Ext w h:=by
 have G:=g.oneCell;obtain⟨j,k,a,m⟩:=aL w (.string c) 9;have D:=k.symm;have E:j.cell? ⟨d,2,none⟩=some f:=(a.cell p).trans n;have q:=Hd a;have F:=@hmf_ Tryz.prog;have i:=Hd m;have s:=Hd (uG 155 AJ (λx=>x.name=c) (.pointer (some ⟨w.heap.size,0,none⟩)) B l j (λx _ h t b v C=>yE B x c ⟨w.heap.size,0,none⟩ h t v ((i.o.ext b).cell 0) (i.o.ext b).lt) f (g.keep (λ_ y=>a.cell zO) (ac _) (λA _=>RP.keep (λ_ y=>a.cell zO) (ac _) A)) (ad u a.size) z);clear k a m n p g
 go_in
 go_wp2_with fail
 go_at_call 154;refine s.o.mono ?_;rintro _ H ⟨rfl,b⟩;have r:=Hd (q.o.trans b);clear b;go_wp2_with fail
 go_ret;exact⟨rfl,r.o⟩
end
