import Derived.WalkSpells
import Derived.WalkLawsBesides
import Derived.Deep.RegionWith
import Derived.Test.YtlfmlodanoolhaaGreatDoorV4
set_option linter.all false
set_option maxRecDepth 200000
set_option maxHeartbeats 0
namespace Go.Proofs.YtlfmlodanoolhaaGreatDoor
open Go Go.RowKit Go.Proofs.Tryz
attribute [local go_sem] bc
theorem zN{p:Prop}(h:p:=by go_num):p:=h
theorem kN(B:Nat)(x:X):∀(w:World) (c:List Value),RX w B x c->B<=w.heap.size->al x<=1000000000->
 Calls Tryz.prog 55 #[.agg c.toArray] w λe t=>e=.returned (.int .i64 (al x))/\Ext w t:=by
 induction x using X.ind with
 |h x ih=>
 intro w c m C s;obtain⟨_,rfl,z,A,rfl,Z,q⟩:=RX_iff.1 m;have a3:1+aa al x.l<=1000000000:=by rw[<-dJ];exact s
 have a2:=aw al x.l cR;have F:=Hd (dJ x);generalize x.op=op at*;generalize x.name=nm at*;generalize x.n=n at*;generalize x.w=wd at*;generalize x.v=v at*;generalize x.l=l at*;clear m s
 go_in
 go_wp2_with fail
 obtain⟨u,p,G,E⟩:=aV w (.int .i64 op) (.string nm) (.int .i64 n) (.int .i64 wd) (.int .u64 v) (.slice z l.length A) 40;rw[<-p];clear p;go_loopw [3,4] (λJ g wr=>∃a:Nat,a<=l.length/\g=.int .i64 a/\J=.int .i64 (1+aa al (l.take a):Nat)/\Ext u wr) (λ_ g _=>l.length - (intOf g).toNat)
 case atStart=>exact⟨0,aA _,rfl,rfl,af _⟩
 case round=>
  obtain⟨a,a0,rfl,rfl,f⟩:=hrel;obtain⟨L,M,N,O,P,Q⟩:=(E.ext f).get6;have b:=G.trans f;have a1:=bu al l a;by_cases d:a<l.length
  ·have r:=dv al l a d;have a4:=bu al l (a+1);have I:=ih l[a] (an d);obtain⟨K,o,b2,b3,b4,b5,b6,b7,rfl,Y,k,j,a6,a7,a8,a9,b0,b1⟩:=q.open6 d;obtain⟨R,S,T,U,V,W⟩:=(j.ext b).get6;generalize l[a]=y at*;have H:=k.ext b C;have i:=Hd r;clear j q k ih r;go_wp2_with fail
   refine(I wr _ H (by have:=b.size;omega) (by have:=i.o;omega)).mono ?_;rintro e t ⟨rfl,D⟩;have a5:=i.o;go_wp2_with fail
   go_roundw;case rel=>exact⟨a+1,zO,zN,zN,f.trans D⟩
   case measure=>simp[intOf];omega
  ·go_wp2_with fail
   go_ret;have:a=l.length:=by omega
   subst this;exact⟨by rw[F.o];simp,b⟩
theorem pp(B:Nat)(l:List X)(w:World)(v:Value)(n:Sl (RX w B) w B 6 l v)(m:B<=w.heap.size)(N:aa al l<=1000000000):
 Calls Tryz.prog 82 #[v] w λe j=>e=.returned (.int .i64 (aa al l))/\Ext w j:=by
 obtain⟨s,u,rfl,G,h⟩:=n;have J:=aw al l cR
 go_in
 go_wp2_with fail
 go_loopw [3,4] (λr d wr=>∃a:Nat,a<=l.length/\d=.int .i64 a/\r=.int .i64 (aa al (l.take a):Nat)/\Ext w wr) (λ_ d _=>l.length - (intOf d).toNat)
 case atStart=>exact⟨0,aA _,rfl,rfl,af _⟩
 case round=>
  obtain⟨a,H,rfl,rfl,b⟩:=hrel;have I:=bu al l a;by_cases c:a<l.length
  ·have i:=dv al l a c;have K:=bu al l (a+1);have L:=ay al l l[a] (an c);obtain⟨t,o,U,V,W,Y,Z,a0,rfl,F,g,f,O,P,Q,R,S,T⟩:=h.open6 c;obtain⟨x,z,A,C,D,E⟩:=(f.ext b).get6;generalize l[a]=y at*;have q:=g.ext b m;have k:=Hd i;clear f h g i;go_wp2_with fail
   refine(kN B y wr _ q (by have:=b.size;omega) zO).mono ?_;rintro e j ⟨rfl,p⟩;have M:=k.o;go_wp2_with fail
   go_roundw;case rel=>exact⟨a+1,zO,zN,zN,b.trans p⟩
   case measure=>simp[intOf];omega
  ·go_wp2_with fail
   go_ret;have:a=l.length:=by omega
   subst this;exact⟨zS,b⟩
theorem kM(B:Nat)(l:List Bnd)(w:World)(v:Value)(r:Sl (RB w B) w B 7 l v)(q:B<=w.heap.size)(U:aa au l<=1000000000):
 Calls Tryz.prog 53 #[v] w λe m=>e=.returned (.int .i64 (aa au l))/\Ext w m:=by
 obtain⟨A,D,rfl,M,j⟩:=r;have P:=aw au l du
 go_in
 go_wp2_with fail
 go_loopw [3,4] (λz d wr=>∃a:Nat,a<=l.length/\d=.int .i64 a/\z=.int .i64 (aa au (l.take a):Nat)/\Ext w wr) (λ_ d _=>l.length - (intOf d).toNat)
 case atStart=>exact⟨0,aA _,rfl,rfl,af _⟩
 case round=>
  obtain⟨a,N,rfl,rfl,b⟩:=hrel;have O:=bu au l a;by_cases c:a<l.length
  ·have k:=dv au l a c;have Q:=bu au l (a+1);have R:=ay au l l[a] (an c);obtain⟨C,o,a2,a3,a4,a5,a6,a7,a8,rfl,L,g,f,V,W,X,Y,Z,a0,a1⟩:=j.open7 c;obtain⟨E,F,G,H,I,J,K⟩:=(f.ext b).get7;generalize l[a]=y at*;obtain⟨rfl,h⟩:=RB_iff.1 g;have u:=h.ext b q;have i:au y=1+al y.x:=rfl;have p:=Hd k;have n:=Hd i;have t:al y.x<=1000000000:=by omega
   clear f j g k h i;go_wp2_with fail
   refine(kN B y.x wr _ u (by have:=b.size;omega) t).mono ?_;rintro e m ⟨rfl,s⟩;have S:=p.o;have T:=n.o;go_wp2_with fail
   go_roundw;case rel=>exact⟨a+1,zO,zN,zN,b.trans s⟩
   case measure=>simp[intOf];omega
  ·go_wp2_with fail
   go_ret;have:a=l.length:=by omega
   subst this;exact⟨zS,b⟩
theorem oY(B:Nat)(l:List X)(k:∀x,x∈l->∀(w:World) (h:List Value),RX w B x h->B<=w.heap.size->al x<=1000000000->
 Calls Tryz.prog 58 #[.agg h.toArray] w λe d=>e=.returned (.int .i64 (aM x))/\Ext w d)
 (w:World) (v:Value) (t:Sl (RX w B) w B 6 l v) (s:B<=w.heap.size) (Q:aa al l<=1000000000):
 Calls Tryz.prog 84 #[v] w λe d=>e=.returned (.int .i64 (ai aM l))/\Ext w d:=by
 obtain⟨C,E,rfl,M,n⟩:=t;have O:=aw al l cR;have g:=Hd k;clear k
 go_in
 go_wp2_with fail
 go_loopw [3,4] (λA f wr=>∃a:Nat,a<=l.length/\f=.int .i64 a/\A=.int .i64 (ai aM (l.take a):Nat)/\Ext w wr) (λ_ f _=>l.length - (intOf f).toNat)
 case atStart=>exact⟨0,aA _,rfl,rfl,af _⟩
 case round=>
  obtain⟨a,N,rfl,rfl,b⟩:=hrel;by_cases c:a<l.length
  ·have p:=eE aM l a c;have P:=ay al l l[a] (an c);have m:=g.o l[a] (an c);obtain⟨D,o,Y,Z,a0,a1,a2,a3,rfl,L,j,i,R,S,T,U,V,W⟩:=n.open6 c;obtain⟨F,G,H,I,J,K⟩:=(i.ext b).get6;generalize l[a]=y at*;have z:=j.ext b s;have r:=Hd p;have q:=Hd m;clear i n j p m g;go_wp2_with fail
   refine(q.o wr _ z (by have:=b.size;omega) zO).mono ?_;rintro e d ⟨rfl,u⟩;go_wp2_with fail
   all_goals
    go_roundw;case rel=>exact⟨a+1,zO,zN,by rw[r.o];congr 2;omega,b.trans u⟩
    case measure=>simp[intOf];omega
  ·go_wp2_with fail
   go_ret;have:a=l.length:=by omega
   subst this;exact⟨zS,b⟩
theorem kL(B:Nat)(x:X):∀(w:World) (a:List Value),RX w B x a->B<=w.heap.size->al x<=1000000000->
 Calls Tryz.prog 58 #[.agg a.toArray] w λe i=>e=.returned (.int .i64 (aM x))/\Ext w i:=by
 induction x using X.ind with
 |h x ih=>
 intro w a d m g;obtain⟨v,rfl,b⟩:=RX_iff.1 d;have F:1+aa al x.l<=1000000000:=by rw[<-dJ];exact g
 have D:=fQ x.l;have r:=Hd (hU x);have k:=Hd ih;have j:=Hd b;have E:=b.oneCell;generalize x.op=op at*;generalize x.name=nm at*;generalize x.n=n at*;generalize x.w=wd at*;generalize x.v=xv at*;generalize x.l=l at*;clear d g ih b
 go_in
 go_wp2_with fail
 obtain⟨s,f,c,q⟩:=aV w (.int .i64 op) (.string nm) (.int .i64 n) (.int .i64 wd) (.int .u64 xv) v 40;rw[<-f];clear f;obtain⟨t,u,y,z,A,C⟩:=q.get6;go_wp2_with fail
 refine(oY B l k.o _ v (j.o.extRX c m) (by have:=c.size;omega) zO).mono ?_;rintro e i ⟨rfl,p⟩;go_wp2_with fail
 go_ret;exact⟨by rw[r.o];simp,c.trans p⟩
theorem po(B:Nat)(l:List X)(w:World)(v:Value)(b:Sl (RX w B) w B 6 l v)(a:B<=w.heap.size)(c:aa al l<=1000000000):
 Calls Tryz.prog 84 #[v] w λe d=>e=.returned (.int .i64 (ai aM l))/\Ext w d:=
 oY B l (λx _=>kL B x) w v b a c
theorem Bg(B:Nat)(m:Nat):∀(l:List S) (w:World) (v:Value),Sl (RS w B) w B 4 l v->B<=w.heap.size->aa ao l<=1000000000->aa ao l<m->
 Calls Tryz.prog 83 #[v] w λe J=>e=.returned (.int .i64 (aa ao l))/\Ext w J:=by
 induction m with
 |zero=>intro l w v _ _ _ R;omega
 |succ m ih=>
 intro l w v z g a1 Z;obtain⟨K,M,rfl,U,p⟩:=z;have Y:=aw ao l da;have s:=Hd ih;clear ih
 go_in
 go_wp2_with fail
 go_loopw [3,4] (λI d wr=>∃a:Nat,a<=l.length/\d=.int .i64 a/\I=.int .i64 (aa ao (l.take a):Nat)/\Ext w wr) (λ_ d _=>l.length - (intOf d).toNat)
 case atStart=>exact⟨0,aA _,rfl,rfl,af _⟩
 case round=>
  obtain⟨a,V,rfl,rfl,b⟩:=hrel;have X:=bu ao l a;by_cases c:a<l.length
  ·have D:=dv ao l a c;have a0:=bu ao l (a+1);have C:=ay ao l l[a] (an c);obtain⟨L,o,a9,b0,b1,b2,rfl,T,i,h,a4,a5,a6,a7⟩:=p.open4 c;generalize l[a]=y at*;obtain⟨_,_,n,k,j⟩:=RS_iff.1 i;simp only[List.cons.injEq,and_true] at n;obtain⟨rfl,rfl,rfl,rfl⟩:=n;obtain⟨N,O,P,Q⟩:=(h.ext b).later4;have A:=bW y;have u:B<=wr.heap.size:=by have:=b.size;omega
   have r:=Hd (λe:Later wr=>k.extRX (b.trans e.ext) g);have q:=Hd (λe:Later wr=>j.extRS (b.trans e.ext) g);have f:=λe:Later wr=>ad u e.ext.size
   have F:aa al y.x<=1000000000:=by omega
   have G:aa ao y.l<=1000000000:=by omega
   have H:aa ao y.l<m:=by omega
   have a8:aa ao (l.take a)+1+aa al y.x+aa ao y.l<=1000000000:=by omega
   have t:=Hd (show aa ao (l.take (a+1))=aa ao (l.take a)+1+aa al y.x+aa ao y.l by omega);generalize y.x=yx at*;generalize y.l=yl at*;have a2:(0:Int)<=(a:Int):=by omega
   have a3:(a:Int)<(l.length:Int):=by omega
   clear h p i D k j A C;go_wp2_with fail
   refine dM (W:=wr) (by kernel_rfl) (by kernel_rfl) (af _) ?_
   repeat (go_big_quiet_step (first
    |(go_at_call 82;exact aP (pp B _ _ _ (r.o _) (f _) F))
    |(go_at_call 83;exact aP (s.o _ _ _ (q.o _) (f _) G H))))
   refine wpQuiet_nil ?_;rintro _ ⟨e,rfl⟩;have E:=b.trans e.ext;go_wp2_with fail
   go_roundw;case rel=>exact⟨a+1,zO,zN,by rw[t.o];go_num,E⟩
   case measure=>simp[intOf];omega
  ·go_wp2_with fail
   go_ret;have:a=l.length:=by omega
   subst this;exact⟨zS,b⟩
theorem BZ(B:Nat)(l:List S)(w:World)(v:Value)(b:Sl (RS w B) w B 4 l v)(a:B<=w.heap.size)(c:aa ao l<=1000000000):
 Calls Tryz.prog 83 #[v] w λe d=>e=.returned (.int .i64 (aa ao l))/\Ext w d:=
 Bg B _ l w v b a c (Nat.lt_succ_self _)
theorem kK(B:Nat)(l:List Bnd)(w:World)(v:Value)(q:Sl (RB w B) w B 7 l v)(p:B<=w.heap.size)(R:aa au l<=1000000000):
 Calls Tryz.prog 56 #[v] w λe k=>e=.returned (.int .i64 (ai bz l))/\Ext w k:=by
 obtain⟨A,D,rfl,M,i⟩:=q;have P:=aw au l du
 go_in
 go_wp2_with fail
 go_loopw [3,4] (λz d wr=>∃a:Nat,a<=l.length/\d=.int .i64 a/\z=.int .i64 (ai bz (l.take a):Nat)/\Ext w wr) (λ_ d _=>l.length - (intOf d).toNat)
 case atStart=>exact⟨0,aA _,rfl,rfl,af _⟩
 case round=>
  obtain⟨a,O,rfl,rfl,b⟩:=hrel;by_cases c:a<l.length
  ·have j:=eE bz l a c;have Q:=ay au l l[a] (an c);obtain⟨C,o,Z,a0,a1,a2,a3,a4,a5,rfl,L,g,f,S,T,U,V,W,X,Y⟩:=i.open7 c;obtain⟨E,F,G,H,I,J,K⟩:=(f.ext b).get7;generalize l[a]=y at*;obtain⟨rfl,h⟩:=RB_iff.1 g;have u:=h.ext b p;have t:au y=1+al y.x:=rfl;have n:=Hd j;have m:=Hd (show bz y=1+aM y.x from rfl);have N:=fo y.x;have s:al y.x<=1000000000:=by omega
   clear f i g j h t;go_wp2_with fail
   refine(kL B y.x wr _ u (by have:=b.size;omega) s).mono ?_;rintro e k ⟨rfl,r⟩;go_wp2_with fail
   all_goals
    go_roundw;case rel=>exact⟨a+1,zO,zN,by rw[n.o,m.o];congr 1;omega,b.trans r⟩
    case measure=>simp[intOf];omega
  ·go_wp2_with fail
   go_ret;have:a=l.length:=by omega
   subst this;exact⟨zS,b⟩
theorem Bd(B:Nat)(m:Nat):∀(l:List S) (w:World) (v:Value),Sl (RS w B) w B 4 l v->B<=w.heap.size->aa ao l<=1000000000->aa ao l<m->
 Calls Tryz.prog 85 #[v] w λe K=>e=.returned (.int .i64 (ai bP l))/\Ext w K:=by
 induction m with
 |zero=>intro l w v _ _ _ T;omega
 |succ m ih=>
 intro l w v z g a0 Z;obtain⟨L,N,rfl,V,p⟩:=z;have Y:=aw ao l da;have s:=Hd ih;clear ih
 go_in
 go_wp2_with fail
 go_loopw [3,4] (λJ d wr=>∃a:Nat,a<=l.length/\d=.int .i64 a/\J=.int .i64 (ai bP (l.take a):Nat)/\Ext w wr) (λ_ d _=>l.length - (intOf d).toNat)
 case atStart=>exact⟨0,aA _,rfl,rfl,af _⟩
 case round=>
  obtain⟨a,X,rfl,rfl,b⟩:=hrel;by_cases c:a<l.length
  ·have E:=eE bP l a c;have D:=ay ao l l[a] (an c);obtain⟨M,o,a9,b0,b1,b2,rfl,U,i,h,a3,a4,a5,a6⟩:=p.open4 c;generalize l[a]=y at*;obtain⟨_,_,n,k,j⟩:=RS_iff.1 i;simp only[List.cons.injEq,and_true] at n;obtain⟨rfl,rfl,rfl,rfl⟩:=n;obtain⟨O,P,Q,R⟩:=(h.ext b).later4;have C:=bW y;have A:=lw y;have u:B<=wr.heap.size:=by have:=b.size;omega
   have r:=Hd (λe:Later wr=>k.extRX (b.trans e.ext) g);have q:=Hd (λe:Later wr=>j.extRS (b.trans e.ext) g);have f:=λe:Later wr=>ad u e.ext.size
   have G:aa al y.x<=1000000000:=by omega
   have H:aa ao y.l<=1000000000:=by omega
   have I:aa ao y.l<m:=by omega
   have a7:=fQ y.x;have a8:=ie y.l;have t:=Hd (show ai bP (l.take (a+1))=max (ai bP (l.take a)) (1+max (ai aM y.x) (ai bP y.l)) by omega);generalize y.x=yx at*;generalize y.l=yl at*;have a1:(0:Int)<=(a:Int):=by omega
   have a2:(a:Int)<(l.length:Int):=by omega
   clear h p i E k j C A D;go_wp2_with fail
   refine dM (W:=wr) (by kernel_rfl) (by kernel_rfl) (af _) ?_
   repeat (go_big_quiet_step (first
    |(go_at_call 84;exact aP (po B _ _ _ (r.o _) (f _) G))
    |(go_at_call 85;exact aP (s.o _ _ _ (q.o _) (f _) H I))))
   refine wpQuiet_nil ?_;rintro _ ⟨e,rfl⟩;have F:=b.trans e.ext;go_wp2_with fail
   go_roundw;case rel=>exact⟨a+1,zO,zN,by rw[t.o];go_num,F⟩
   case measure=>simp[intOf];omega
  ·go_wp2_with fail
   go_ret;have:a=l.length:=by omega
   subst this;exact⟨zS,b⟩
theorem BV(B:Nat)(l:List S)(w:World)(v:Value)(b:Sl (RS w B) w B 4 l v)(a:B<=w.heap.size)(c:aa ao l<=1000000000):
 Calls Tryz.prog 85 #[v] w λe d=>e=.returned (.int .i64 (ai bP l))/\Ext w d:=
 Bd B _ l w v b a c (Nat.lt_succ_self _)
theorem wQ{P:Program}{w:World}(j:Array TypeId)(t:TypeId)(a b g d e f:Nat):(Builtin.max_ j t #[.int .i64 a,.int .i64 b,.int .i64 g,.int .i64 d,.int .i64 e,.int .i64 f]).run P w=
 .ok (.int .i64 (max (max (max (max (max a b) g) d) e) f:Nat)) w:=by
 have i:∀x c:Nat,Builtin.max2 (.int .i64 x) (.int .i64 c)=pure (.int .i64 (max x c:Nat)):=λx c=>by
  simp only[Builtin.max2]
  congr 2
  by_cases h:(c:Int)>x
  ·rw[if_pos h];omega
  ·rw[if_neg h];omega
 simp only[Builtin.max_,List.foldlM,Sem.run_bind,i,Sem.run_pure,Result.andThen_ok]
attribute [local go_sem] wQ
theorem Bf(B:Nat)(m:Nat):∀(l:List Itm) (w:World) (v:Value),Sl (RI w B) w B 9 l v->B<=w.heap.size->aa aj l<=1000000000->aa aj l<m->
 Calls Tryz.prog 54 #[v] w λe b8=>e=.returned (.int .i64 (aa aj l))/\Ext w b8:=by
 induction m with
 |zero=>intro l w v _ _ _ d1;omega
 |succ m ih=>
 intro l w v f d d9 d7;obtain⟨b9,c1,rfl,d3,D⟩:=f;have d6:=aw aj l cQ;have j:=Hd ih;clear ih
 go_in
 go_wp2_with fail
 go_loopw [3,4] (λb5 i wr=>∃a:Nat,a<=l.length/\i=.int .i64 a/\b5=.int .i64 (aa aj (l.take a):Nat)/\Ext w wr) (λ_ i _=>l.length - (intOf i).toNat)
 case atStart=>exact⟨0,aA _,rfl,rfl,af _⟩
 case round=>
  obtain⟨a,d4,rfl,rfl,g⟩:=hrel;have d5:=bu aj l a;by_cases h:a<l.length
  ·have a5:=dv aj l a h;have d8:=bu aj l (a+1);have a4:=ay aj l l[a] (an h);obtain⟨c0,o,f2,f3,f4,b6,b7,F,G,H,I,rfl,d2,q,p,e2,e3,e4,e5,e6,e7,e8,e9,f0⟩:=D.open9 h;generalize l[a]=y at*;obtain⟨_,_,_,_,_,_,C,A,f,t,r,u,n⟩:=RI_iff.1 q;simp only[List.cons.injEq,and_true] at C;obtain⟨rfl,rfl,rfl,rfl,rfl,rfl,rfl,rfl,rfl⟩:=C;obtain⟨Q,R,S,T,U,V,X,Y,Z⟩:=(p.ext g).get9;have a3:=bq y;have a2:=jL y;have a0:B<=wr.heap.size:=by have:=g.size;omega
   have a7:aa al y.x<=1000000000:=by omega
   have a8:aa ao y.s<=1000000000:=by omega
   have a9:aa aj y.l<=1000000000:=by omega
   have b0:aa aj y.els<=1000000000:=by omega
   have b1:aa au y.params<=1000000000:=by omega
   have b2:aa au y.binds<=1000000000:=by omega
   have b3:aa aj y.l<m:=by omega
   have b4:aa aj y.els<m:=by omega
   have f1:aa aj (l.take a)+1+aa al y.x+aa ao y.s+aa aj y.l+aa aj y.els+aa au y.params+aa au y.binds<=1000000000:=by omega
   have P:=Hd (show aa aj (l.take (a+1))=aa aj (l.take a)+1+aa al y.x+aa ao y.s+aa aj y.l+aa aj y.els+aa au y.params+aa au y.binds by omega);generalize y.x=yx at*;generalize y.s=ys at*;generalize y.l=yl at*;generalize y.els=ye at*;generalize y.params=yp at*;generalize y.binds=yb at*;generalize y.op=yo at*;generalize y.name=yn at*;generalize y.of=yf at*;have e0:(0:Int)<=(a:Int):=by omega
   have e1:(a:Int)<(l.length:Int):=by omega
   clear D q a5 a3 a2 a4;have O:=Hd A;have N:=Hd f;have L:=Hd t;have K:=Hd r;have M:=Hd u;have J:=Hd n;clear p A f t r u n;go_wp2_with fail
   obtain⟨k,z,E,a1⟩:=bM wr (.int .i64 yo) (.string yn) (.string yf) b6 b7 F G H I 37;rw[<-z];clear z;have b:=g.trans E;obtain⟨c2,c3,c4,c5,c6,c7,c8,c9,d0⟩:=a1.later9;have c:=λe:Later k=>ad a0 (E.trans e.ext).size
   clear Q R S T U V X Y Z;refine dM (W:=k) (by kernel_rfl) (by kernel_rfl) (af _) ?_
   repeat (go_big_quiet_step (first
    |(go_at_call 82;exact aP (pp B _ _ _ (O.o.extRX (b.trans (ag _)) d) (c _) a7))
    |(go_at_call 83;exact aP (BZ B _ _ _ (N.o.extRS (b.trans (ag _)) d) (c _) a8))
    |(go_at_call_of 54 F;exact aP (j.o _ _ _ (L.o.extRI (b.trans (ag _)) d) (c _) a9 b3))
    |(go_at_call_of 54 G;exact aP (j.o _ _ _ (K.o.extRI (b.trans (ag _)) d) (c _) b0 b4))
    |(go_at_call_of 53 H;exact aP (kM B _ _ _ (M.o.extRB (b.trans (ag _)) d) (c _) b1))
    |(go_at_call_of 53 I;exact aP (kM B _ _ _ (J.o.extRB (b.trans (ag _)) d) (c _) b2))))
   refine wpQuiet_nil ?_;rintro _ ⟨e,rfl⟩;have a6:=b.trans e.ext;go_wp2_with fail
   go_roundw;case rel=>exact⟨a+1,zO,zN,by rw[P.o];go_num,a6⟩
   case measure=>simp[intOf];omega
  ·go_wp2_with fail
   go_ret;have:a=l.length:=by omega
   subst this;exact⟨zS,g⟩
theorem BW(B:Nat)(l:List Itm)(w:World)(v:Value)(b:Sl (RI w B) w B 9 l v)(a:B<=w.heap.size)(c:aa aj l<=1000000000):
 Calls Tryz.prog 54 #[v] w λe d=>e=.returned (.int .i64 (aa aj l))/\Ext w d:=
 Bf B _ l w v b a c (Nat.lt_succ_self _)
theorem Bc(B:Nat)(m:Nat):∀(l:List Itm) (w:World) (v:Value),Sl (RI w B) w B 9 l v->B<=w.heap.size->aa aj l<=1000000000->aa aj l<m->
 Calls Tryz.prog 57 #[v] w λe b8=>e=.returned (.int .i64 (ai aY l))/\Ext w b8:=by
 induction m with
 |zero=>intro l w v _ _ _ d1;omega
 |succ m ih=>
 intro l w v f d d9 d7;obtain⟨b9,c1,rfl,d3,D⟩:=f;have d6:=aw aj l cQ;have j:=Hd ih;clear ih
 go_in
 go_wp2_with fail
 go_loopw [3,4] (λb5 i wr=>∃a:Nat,a<=l.length/\i=.int .i64 a/\b5=.int .i64 (ai aY (l.take a):Nat)/\Ext w wr) (λ_ i _=>l.length - (intOf i).toNat)
 case atStart=>exact⟨0,aA _,rfl,rfl,af _⟩
 case round=>
  obtain⟨a,d4,rfl,rfl,g⟩:=hrel;have d5:=bu aj l a;by_cases h:a<l.length
  ·have a5:=eE aY l a h;have d8:=bu aj l (a+1);have a4:=ay aj l l[a] (an h);obtain⟨c0,o,f7,f8,f9,b6,b7,F,G,H,I,rfl,d2,q,p,e2,e3,e4,e5,e6,e7,e8,e9,f0⟩:=D.open9 h;generalize l[a]=y at*;obtain⟨_,_,_,_,_,_,C,A,f,t,r,u,n⟩:=RI_iff.1 q;simp only[List.cons.injEq,and_true] at C;obtain⟨rfl,rfl,rfl,rfl,rfl,rfl,rfl,rfl,rfl⟩:=C;obtain⟨Q,R,S,T,U,V,X,Y,Z⟩:=(p.ext g).get9;have a3:=bq y;have a2:=jL y;have a0:B<=wr.heap.size:=by have:=g.size;omega
   have a7:aa al y.x<=1000000000:=by omega
   have a8:aa ao y.s<=1000000000:=by omega
   have a9:aa aj y.l<=1000000000:=by omega
   have b0:aa aj y.els<=1000000000:=by omega
   have b1:aa au y.params<=1000000000:=by omega
   have b2:aa au y.binds<=1000000000:=by omega
   have b3:aa aj y.l<m:=by omega
   have b4:aa aj y.els<m:=by omega
   have f1:=fQ y.x;have f2:=ie y.s;have f3:=fP y.l;have f4:=fP y.els;have f5:=eW y.params;have f6:=eW y.binds;have P:=Hd (show ai aY (l.take (a+1))=max (ai aY (l.take a)) (1+max (max (max (max (max (ai aM y.x) (ai bP y.s)) (ai aY y.l)) (ai aY y.els)) (ai bz y.params)) (ai bz y.binds)) by omega);generalize y.x=yx at*;generalize y.s=ys at*;generalize y.l=yl at*;generalize y.els=ye at*;generalize y.params=yp at*;generalize y.binds=yb at*;generalize y.op=yo at*;generalize y.name=yn at*;generalize y.of=yf at*;have e0:(0:Int)<=(a:Int):=by omega
   have e1:(a:Int)<(l.length:Int):=by omega
   clear D q a5 a3 a2 a4;have O:=Hd A;have N:=Hd f;have L:=Hd t;have K:=Hd r;have M:=Hd u;have J:=Hd n;clear p A f t r u n;go_wp2_with fail
   obtain⟨k,z,E,a1⟩:=bM wr (.int .i64 yo) (.string yn) (.string yf) b6 b7 F G H I 37;rw[<-z];clear z;have b:=g.trans E;obtain⟨c2,c3,c4,c5,c6,c7,c8,c9,d0⟩:=a1.later9;have c:=λe:Later k=>ad a0 (E.trans e.ext).size
   clear Q R S T U V X Y Z;refine dM (W:=k) (by kernel_rfl) (by kernel_rfl) (af _) ?_
   repeat (go_big_quiet_step (first
    |(go_at_call 84;exact aP (po B _ _ _ (O.o.extRX (b.trans (ag _)) d) (c _) a7))
    |(go_at_call 85;exact aP (BV B _ _ _ (N.o.extRS (b.trans (ag _)) d) (c _) a8))
    |(go_at_call_of 57 F;exact aP (j.o _ _ _ (L.o.extRI (b.trans (ag _)) d) (c _) a9 b3))
    |(go_at_call_of 57 G;exact aP (j.o _ _ _ (K.o.extRI (b.trans (ag _)) d) (c _) b0 b4))
    |(go_at_call_of 56 H;exact aP (kK B _ _ _ (M.o.extRB (b.trans (ag _)) d) (c _) b1))
    |(go_at_call_of 56 I;exact aP (kK B _ _ _ (J.o.extRB (b.trans (ag _)) d) (c _) b2))))
   refine wpQuiet_nil ?_;rintro _ ⟨e,rfl⟩;have a6:=b.trans e.ext;go_wp2_with fail
   go_roundw;case rel=>exact⟨a+1,zO,zN,by rw[P.o];congr 1;omega,a6⟩
   case measure=>simp[intOf];omega
  ·go_wp2_with fail
   go_ret;have:a=l.length:=by omega
   subst this;exact⟨zS,g⟩
theorem BU(B:Nat)(l:List Itm)(w:World)(v:Value)(b:Sl (RI w B) w B 9 l v)(a:B<=w.heap.size)(c:aa aj l<=1000000000):
 Calls Tryz.prog 57 #[v] w λe d=>e=.returned (.int .i64 (ai aY l))/\Ext w d:=
 Bc B _ l w v b a c (Nat.lt_succ_self _)
theorem Bh(B:Nat)(l:List Mdl)(w:World)(v:Value)(b0:Sl (RM w B) w B 4 l v)(k:B<=w.heap.size)(f8:aa ar l<=1000000000):
 Calls Tryz.prog 30 #[.agg #[v]] w λe R=>e=.returned (.int .i64 (aa ar l))/\Ext w R:=by
 obtain⟨Y,Z,rfl,e9,P⟩:=b0;have f6:=aw ar l gj
 go_in
 go_wp2_with fail
 obtain⟨X,J,b8,b2⟩:=aL w (.slice Y l.length Z) 24;rw[<-J];clear J;go_loopw [3,4] (λx c wr=>∃a:Nat,a<=l.length/\c=.int .i64 a/\x=.int .i64 (aa ar (l.take a):Nat)/\Ext X wr) (λ_ c _=>l.length - (intOf c).toNat)
 case atStart=>exact⟨0,aA _,rfl,rfl,af _⟩
 case round=>
  obtain⟨a,f2,rfl,rfl,t⟩:=hrel;have h:=b8.trans t;have d2:=(b2.ext t).get1;have f3:=bu ar l a;by_cases g:a<l.length
  ·have r:=dv ar l a g;have b5:=bu ar l (a+1);have b6:=ay ar l l[a] (an g);have q:=dv ar l a g;obtain⟨d0,o,h2,c6,c7,c8,rfl,e8,a9,D,g3,g4,c3,g5⟩:=P.open4 g;generalize l[a]=y at*;obtain⟨_,_,_,O,H,I,G⟩:=a9;simp only[List.cons.injEq,and_true] at O;obtain⟨rfl,rfl,rfl,rfl⟩:=O;obtain⟨a0,a1,a2,a3⟩:=(D.ext h).get4;have b4:ar y=1+aa au y.params+aa aJ y.ports+aa aj y.items:=rfl;have b3:bH y=1+max (max (ai bz y.params) (ai cM y.ports)) (ai aY y.items):=rfl;have a8:B<=wr.heap.size:=by have:=h.size;omega
   have c4:aa au y.params<=1000000000:=by omega
   have c5:aa aj y.items<=1000000000:=by omega
   have h0:aa aJ y.ports<=1000000000:=by omega
   have g6:=eW y.params;have g7:=fP y.items;have g8:=gJ y.ports;have h1:aa ar (l.take a)+1+aa au y.params+aa aj y.items+aa aJ y.ports<=1000000000:=by omega
   have g9:=jV (l.take a);have f7:=aw aJ y.ports gQ;have A:=Hd (show aa ar (l.take (a+1))=aa ar (l.take a)+1+aa au y.params+aa aj y.items+aa aJ y.ports by omega);generalize y.params=yp at*;generalize y.ports=yq at*;generalize y.items=yi at*;generalize y.name=yn at*;have g1:(0:Int)<=(a:Int):=by omega
   have g2:(a:Int)<(l.length:Int):=by omega
   have T:=Hd H;have U:=Hd I;have S:=Hd G;clear P r q b4 b3 b6 H I G D;go_wp2_with fail
   obtain⟨C,K,s,m⟩:=bK wr (.string yn) c6 c7 c8 30;rw[<-K];clear K;have u:=h.trans s;obtain⟨a4,a5,a6,a7⟩:=m.later4;have j:=λe:Later C=>ad a8 (s.trans e.ext).size
   clear a0 a1 a2 a3;refine dM (W:=C) (by kernel_rfl) (by kernel_rfl) (af _) ?_
   repeat (go_big_quiet_step (first
    |(go_at_call 53;exact aP (kM B _ _ _ (T.o.extRB (u.trans (ag _)) k) (j _) c4))
    |(go_at_call 54;exact aP (BW B _ _ _ (S.o.extRI (u.trans (ag _)) k) (j _) c5))))
   refine wpQuiet_nil ?_;rintro _ ⟨e,rfl⟩;have i:=u.trans e.ext;obtain⟨c9,d3,b7,f0,p⟩:=U.o.extRP i k;subst b7;have N:=m.ext e.ext;have Q:=(t.trans s).trans e.ext;obtain⟨f,L⟩:∃f,f=e.w:=⟨_,rfl⟩;rw[<-L] at i p N Q⊢;clear L e a4 a5 a6 a7 j m;go_wp2_with fail
   go_loopw [3,6] (λx c wr=>∃b:Nat,b<=yq.length/\c=.int .i64 b/\x=.int .i64 (aa ar (l.take a)+1+aa au yp+aa aj yi+aa aJ (yq.take b):Nat)/\Ext f wr) (λ_ c _=>yq.length - (intOf c).toNat)
   case atStart=>exact⟨0,aA _,rfl,by simp[aa,ai],af _⟩
   case round=>
    obtain⟨b,f1,rfl,rfl,d⟩:=hrel;obtain⟨d4,d5,d6,d7⟩:=(N.ext d).get4;have f4:=bu aJ yq b;have f5:=gJ (yq.take b);by_cases n:b<yq.length
    ·have r:=dv aJ yq b n;have q:=dv aJ yq b n;have b5:=bu aJ yq (b+1);obtain⟨d1,c3,u0,u1,u2,u3,u4,u5,u6,u7,rfl,e6,F,E,_⟩:=p.open8 n;generalize yq[b]=z at*;obtain⟨rfl,rfl,M⟩:=RP_iff.1 F;obtain⟨d8,d9,e0,e1,e2,e3,e4,e5⟩:=(E.ext d).get8;have b9:=M.ext d (by have:=i.size;omega);have c0:aJ z=1+al z.w:=rfl;have c1:cM z=1+aM z.w:=rfl;have f9:=fo z.w;have c2:al z.w<=1000000000:=by omega
     have g0:B<=f.heap.size:=by have:=i.size;omega
     have V:=Hd (show aa aJ (yq.take (b+1))=aa aJ (yq.take b)+1+al z.w by omega);have e7:aa ar (l.take a)+1+aa au yp+aa aj yi+aa aJ (yq.take b)+1+al z.w<=1000000000:=by omega
     clear r q c0 c1 M F E p A;go_wp2_with fail
     refine(kN B z.w wr _ b9 (by have:=d.size;omega) c2).mono ?_;rintro e R ⟨rfl,b1⟩;go_wp2_with fail
     all_goals
      go_roundw;case rel=>exact⟨b+1,zO,zN,by rw[V.o];go_num,d.trans b1⟩
      case measure=>simp[intOf];omega
    ·have:b=yq.length:=by omega
     subst this;go_wp2_with fail
     go_roundw;case rel=>exact⟨a+1,zO,zN,by rw[A.o];simp,Q.trans d⟩
     case measure=>simp[intOf];omega
  ·go_wp2_with fail
   go_ret;have:a=l.length:=by omega
   subst this;exact⟨zS,h⟩
theorem tK(a b:Nat):(if a<b then(b:Int) else(a:Int))=((max a b:Nat):Int):=by split<;>omega
theorem tL(a b:Nat):(if(a:Int)<1+(b:Int) then 1+(b:Int) else(a:Int))=((max a (1+b):Nat):Int):=by split<;>omega
theorem Be(B:Nat)(l:List Mdl)(w:World)(v:Value)(b2:Sl (RM w B) w B 4 l v)(n:B<=w.heap.size)(f9:aa ar l<=1000000000):
 Calls Tryz.prog 31 #[.agg #[v]] w λe T=>e=.returned (.int .i64 (ai bH l))/\Ext w T:=by
 obtain⟨a0,a1,rfl,f0,R⟩:=b2;have f7:=aw ar l gj
 go_in
 go_wp2_with fail
 obtain⟨Z,K,b9,b4⟩:=aL w (.slice a0 l.length a1) 24;rw[<-K];clear K;go_loopw [3,4] (λA c wr=>∃a:Nat,a<=l.length/\c=.int .i64 a/\A=.int .i64 (ai bH (l.take a):Nat)/\Ext Z wr) (λ_ c _=>l.length - (intOf c).toNat)
 case atStart=>exact⟨0,aA _,rfl,rfl,af _⟩
 case round=>
  obtain⟨a,f3,rfl,rfl,u⟩:=hrel;have i:=b9.trans u;have d3:=(b4.ext u).get1;have f4:=bu ar l a;by_cases h:a<l.length
  ·have f:=eE bH l a h;have b6:=bu ar l (a+1);have b7:=ay ar l l[a] (an h);have s:=dv ar l a h;obtain⟨d1,o,h3,c7,c8,c9,rfl,e9,b1,E,g4,g5,c4,g6⟩:=R.open4 h;generalize l[a]=y at*;obtain⟨_,_,_,Q,I,J,H⟩:=b1;simp only[List.cons.injEq,and_true] at Q;obtain⟨rfl,rfl,rfl,rfl⟩:=Q;obtain⟨a2,a3,a4,a5⟩:=(E.ext i).get4;have b5:ar y=1+aa au y.params+aa aJ y.ports+aa aj y.items:=rfl;have P:bH y=1+max (max (ai bz y.params) (ai cM y.ports)) (ai aY y.items):=rfl;have b0:B<=wr.heap.size:=by have:=i.size;omega
   have c5:aa au y.params<=1000000000:=by omega
   have c6:aa aj y.items<=1000000000:=by omega
   have h1:aa aJ y.ports<=1000000000:=by omega
   have g7:=eW y.params;have g8:=fP y.items;have g9:=gJ y.ports;have h2:aa ar (l.take a)+1+aa au y.params+aa aj y.items+aa aJ y.ports<=1000000000:=by omega
   have h0:=jV (l.take a);have f8:=aw aJ y.ports gQ;have C:=Hd (show ai bH (l.take (a+1))=max (max (ai bH (l.take a)) (1+max (ai bz y.params) (ai aY y.items))) (if y.ports.length=0 then 0 else 1+ai cM y.ports) by
    rw[f,P];split
    ·rename_i m
     rw[List.eq_nil_of_length_eq_zero m];simp only[ai];omega
    ·omega)
   generalize y.params=yp at*;generalize y.ports=yq at*;generalize y.items=yi at*;generalize y.name=yn at*;have g2:(0:Int)<=(a:Int):=by omega
   have g3:(a:Int)<(l.length:Int):=by omega
   have V:=Hd I;have X:=Hd J;have U:=Hd H;clear R f s b5 P b7 I J H E;go_wp2_with fail
   obtain⟨D,L,t,p⟩:=bK wr (.string yn) c7 c8 c9 30;rw[<-L];clear L;have x:=i.trans t;obtain⟨a6,a7,a8,a9⟩:=p.later4;have k:=λe:Later D=>ad b0 (t.trans e.ext).size
   clear a2 a3 a4 a5;refine dM (W:=D) (by kernel_rfl) (by kernel_rfl) (af _) ?_
   repeat (go_big_quiet_step (first
    |(go_at_call 56;exact aP (kK B _ _ _ (V.o.extRB (x.trans (ag _)) n) (k _) c5))
    |(go_at_call 57;exact aP (BU B _ _ _ (U.o.extRI (x.trans (ag _)) n) (k _) c6))))
   refine wpQuiet_nil ?_;rintro _ ⟨e,rfl⟩;try simp only[tK,tL]
   have j:=x.trans e.ext;obtain⟨d0,d4,b8,f1,r⟩:=X.o.extRP j n;subst b8;have O:=p.ext e.ext;have S:=(u.trans t).trans e.ext;obtain⟨g,M⟩:∃g,g=e.w:=⟨_,rfl⟩;rw[<-M] at j r O S⊢;clear M e a6 a7 a8 a9 k p;go_wp2_with fail
   go_loopw [3,6] (λA c wr=>∃b:Nat,b<=yq.length/\c=.int .i64 b/\A=.int .i64 (max (max (ai bH (l.take a)) (1+max (ai bz yp) (ai aY yi))) (if b=0 then 0 else 1+ai cM (yq.take b)):Nat)/\Ext g wr) (λ_ c _=>yq.length - (intOf c).toNat)
   case atStart=>exact⟨0,aA _,rfl,by simp[aa,ai],af _⟩
   case round=>
    obtain⟨b,f2,rfl,rfl,d⟩:=hrel;obtain⟨d5,d6,d7,d8⟩:=(O.ext d).get4;have f5:=bu aJ yq b;have f6:=gJ (yq.take b);by_cases q:b<yq.length
    ·have f:=eE cM yq b q;have s:=dv aJ yq b q;have b6:=bu aJ yq (b+1);obtain⟨d2,c4,u0,u1,u2,u3,u4,u5,u6,u7,rfl,e7,G,F,_⟩:=r.open8 q;generalize yq[b]=z at*;obtain⟨rfl,rfl,N⟩:=RP_iff.1 G;obtain⟨d9,e0,e1,e2,e3,e4,e5,e6⟩:=(F.ext d).get8;have c0:=N.ext d (by have:=j.size;omega);have c1:aJ z=1+al z.w:=rfl;have c2:cM z=1+aM z.w:=rfl;have g0:=fo z.w;have c3:al z.w<=1000000000:=by omega
     have g1:B<=g.heap.size:=by have:=j.size;omega
     have Y:=Hd (show max (max (ai bH (l.take a)) (1+max (ai bz yp) (ai aY yi))) (if b+1=0 then 0 else 1+ai cM (yq.take (b+1)))=max (max (max (ai bH (l.take a)) (1+max (ai bz yp) (ai aY yi))) (if b=0 then 0 else 1+ai cM (yq.take b))) (2+aM z.w) by
      rw[if_neg (Nat.succ_ne_zero b)];split
      ·rename_i m
       subst m;simp only[List.take_zero,ai] at f;omega
      ·omega)
     have e8:max (max (ai bH (l.take a)) (1+max (ai bz yp) (ai aY yi))) (if b=0 then 0 else 1+ai cM (yq.take b))<=1000000001:=by split<;>omega
     generalize max (max (ai bH (l.take a)) (1+max (ai bz yp) (ai aY yi))) (if b=0 then 0 else 1+ai cM (yq.take b))=acc at*;clear f s c1 c2 N G F r C;go_wp2_with fail
     refine(kL B z.w wr _ c0 (by have:=d.size;omega) c3).mono ?_;rintro e T ⟨rfl,b3⟩;go_wp2_with fail
     all_goals
      go_roundw;case rel=>exact⟨b+1,zO,zN,by rw[Y.o];congr 1;omega,d.trans b3⟩
      case measure=>simp[intOf];omega
    ·have:b=yq.length:=by omega
     subst this;go_wp2_with fail
     go_roundw;case rel=>exact⟨a+1,zO,zN,by rw[C.o];simp,S.trans d⟩
     case measure=>simp[intOf];omega
  ·go_wp2_with fail
   go_ret;have:a=l.length:=by omega
   subst this;exact⟨zS,i⟩
