import Derived.WalkSpells
import Derived.WalkLawsBesides
import Derived.Test.YtlfmlodanoolhaaGreatDoorV4
set_option linter.all false
set_option maxRecDepth 200000
set_option maxHeartbeats 0
namespace Go.Proofs.YtlfmlodanoolhaaGreatDoor
open Go Go.RowKit Go.Proofs.Tryz
attribute [local go_sem] bc
theorem zK{p:Prop}(h:p:=by kernel_rfl):p:=h
theorem gB{a b:ByteArray}(h:¬a=b):(a.toList==b.toList)=false:=by
 refine beq_eq_false_iff_ne.2 λe=>h ?_
 rw[ByteArray.toList_eq,ByteArray.toList_eq] at e;cases a;cases b;simp at e;rw[e]
def av(s d:Nat):Value:=.agg #[.int .i64 s,.int .i64 d]
theorem eC(s d a b:Nat)(w:World)(f:s<=4000000000)(g:a<=4000000000):
 Calls Tryz.prog 125 #[av s d,av a b] w λe c=>e=.returned (av (s+a) (max d b))/\Ext w c:=by
 unfold av
 go_in
 go_wp2
 all_goals
  refine bodyPost_ret (v:=av (s+a) (max d b)) ?_ rfl ⟨rfl,((aE _ _).alloc _).alloc _⟩;simp[results,results125,go_sem,av];omega
theorem hD(s d:Nat)(w:World)(c:s<=4000000000)(b:d<=4000000000):
 Calls Tryz.prog 132 #[av s d] w λe a=>e=.returned (av (1+s) (1+d))/\Ext w a:=by
 unfold av
 go_in
 go_wp2
 exact bodyPost_ret (v:=av (1+s) (1+d)) (by simp[results,results132,go_sem,av];omega) rfl ⟨rfl,(aE _ _).alloc _⟩
theorem lK(f:Nat)(F:Enters Tryz.prog f)(b c:X->Nat)(B:Nat)(l:List X)(H:∀x,x∈l->∀(w:World) (u:List Value),RX w B x u->B<=w.heap.size->
 Calls Tryz.prog f #[.agg u.toArray] w λe r=>e=.returned (av (b x) (c x))/\Ext w r)
 (w:World) (v:Value) (a0:Sl (RX w B) w B 6 l v) (z:B<=w.heap.size) (c5:aa b l<=1000000000) (J:∀x,1<=b x):
 Calls Tryz.prog 168 #[v,.func (.func f) #[] #[]] w λe r=>e=.returned (av (aa b l) (ai c l))/\Ext w r:=by
 obtain⟨b4,b6,rfl,c0,K⟩:=a0;have c4:=aw b l J;have s:=Hd H;have c1:=F.o;clear H F J
 go_in
 go_wp2_with fail
 go_loopw [10] (λq wr=>∃a:Nat,a<=l.length/\q=.int .i64 a/\Ext w wr/\Blk wr w.heap.size 141 [.int .i64 0,.int .i64 0]/\
  Blk wr (w.heap.size+1) 141 [.int .i64 (aa b (l.take a)),.int .i64 (ai c (l.take a))]) (λq _=>l.length - (intOf q).toNat)
 case atStart=>exact⟨0,aA _,rfl,(aE _ _).alloc _,(ax _ _ [_,_]).alloc _,by simpa [aa,ai] using ax (w.alloc (.cells #[.int .i64 0,.int .i64 0] 141)) 141 [.int .i64 0,.int .i64 0]⟩
 case round=>
  obtain⟨a,c2,rfl,k,d,g⟩:=hrel;have c6:=g.lt;by_cases h:a<l.length
  ·have L:=dv b l a h;have G:=eE c l a h;have c3:=bu b l (a+1);have I:=s.o l[a] (an h);obtain⟨b5,o,a8,a9,b0,b1,b2,b3,rfl,b9,C,A,c9,d0,d1,d2,d3,d4⟩:=K.open6 h;obtain⟨S,T,U,V,Y,Z⟩:=(A.ext k).get6;generalize l[a]=y at*;have t:=Hd L;have P:=Hd G;have Q:=Hd I;clear A K L G I s;obtain⟨M,N⟩:=g.get2;go_wp2_with fail
   obtain⟨i,D,m,E⟩:=aV wr a8 a9 b0 b1 b2 b3 40;rw[<-D];have n:=k.trans m;have a1:=d.ext m;have j:=g.ext m;obtain⟨d9,e0,e1,e2,e3,e4⟩:=E.later6;obtain⟨c7,c8⟩:=j.later2;obtain⟨d5,d6⟩:=j.laterFree2;have R:=Hd (λe:Later i=>C.ext (n.trans e.ext) z);have O:=λe:Later i=>ad z (n.trans e.ext).size
   clear S T U V Y Z M N D C E;refine fc (W:=i) zK rfl zK zK (af _) ?_;dsimp only[List.dropLast]
   repeat (go_big_quiet_step (first
    |(go_at_call 125;refine aP (eC _ _ _ _ _ ?_ ?_)<;>(have:=t.o;omega))
    |exact aP (Q.o _ _ (R.o _) (O _))))
   refine wpQuiet_nil ?_;intro e;unfold av;have a5:=n.trans e.ext;have a3:=(j.ext e.ext).store2 (.int .i64 (aa b (l.take a)+b y:Nat)) (.int .i64 (max (ai c (l.take a)) (c y):Nat));have a4:=((a1.ext e.ext).far (p:=⟨w.heap.size+1,0,none⟩) zS (.int .i64 (aa b (l.take a)+b y:Nat))).far (p:=⟨w.heap.size+1,1,none⟩) zS (.int .i64 (max (ai c (l.take a)) (c y):Nat));go_wp2_with fail
   go_roundw;case rel=>exact⟨a+1,zO,by go_num,(a5.setCell zS _).setCell zS _,a4,by rw[t.o,P.o];exact a3⟩
   case measure=>simp[intOf];omega
  ·obtain⟨M,N⟩:=g.get2;obtain⟨d7,d8⟩:=d.get2;obtain⟨b7,b8⟩:=d.free2;have:a=l.length:=by omega
   subst this;rw[List.take_length] at*;go_wp2_with fail
   have a2:=(d.store2 (.int .i64 (aa b l)) (.int .i64 (ai c l)));refine bodyPost_ret (v:=av (aa b l) (ai c l)) ?_ rfl ⟨rfl,(k.setCell (ac _) _).setCell (ac _) _⟩;obtain⟨a6,a7⟩:=a2.get2;simp[results,results168,go_sem,a6,a7,av]
theorem rb(f:Nat)(F:Enters Tryz.prog f)(b c:S->Nat)(B:Nat)(l:List S)(H:∀x,x∈l->∀(w:World) (u:List Value),RS w B x u->B<=w.heap.size->
 Calls Tryz.prog f #[.agg u.toArray] w λe r=>e=.returned (av (b x) (c x))/\Ext w r)
 (w:World) (v:Value) (Y:Sl (RS w B) w B 4 l v) (z:B<=w.heap.size) (c1:aa b l<=1000000000) (J:∀x,1<=b x):
 Calls Tryz.prog 169 #[v,.func (.func f) #[] #[]] w λe r=>e=.returned (av (aa b l) (ai c l))/\Ext w r:=by
 obtain⟨b0,b2,rfl,b6,K⟩:=Y;have c0:=aw b l J;have s:=Hd H;have b7:=F.o;clear H F J
 go_in
 go_wp2_with fail
 go_loopw [10] (λq wr=>∃a:Nat,a<=l.length/\q=.int .i64 a/\Ext w wr/\Blk wr w.heap.size 141 [.int .i64 0,.int .i64 0]/\
  Blk wr (w.heap.size+1) 141 [.int .i64 (aa b (l.take a)),.int .i64 (ai c (l.take a))]) (λq _=>l.length - (intOf q).toNat)
 case atStart=>exact⟨0,aA _,rfl,(aE _ _).alloc _,(ax _ _ [_,_]).alloc _,by simpa [aa,ai] using ax (w.alloc (.cells #[.int .i64 0,.int .i64 0] 141)) 141 [.int .i64 0,.int .i64 0]⟩
 case round=>
  obtain⟨a,b8,rfl,k,d,g⟩:=hrel;have c2:=g.lt;by_cases h:a<l.length
  ·have L:=dv b l a h;have G:=eE c l a h;have b9:=bu b l (a+1);have I:=s.o l[a] (an h);obtain⟨b1,o,a6,a7,a8,a9,rfl,b5,C,A,c5,c6,c7,c8⟩:=K.open4 h;obtain⟨T,U,V,X⟩:=(A.ext k).get4;generalize l[a]=y at*;have t:=Hd L;have P:=Hd G;have Q:=Hd I;clear A K L G I s;obtain⟨M,N⟩:=g.get2;go_wp2_with fail
   obtain⟨i,D,m,E⟩:=bK wr a6 a7 a8 a9 177;rw[<-D];have n:=k.trans m;have Z:=d.ext m;have j:=g.ext m;obtain⟨d3,d4,d5,d6⟩:=E.later4;obtain⟨c3,c4⟩:=j.later2;obtain⟨c9,d0⟩:=j.laterFree2;have R:=Hd (λe:Later i=>C.ext (n.trans e.ext) z);have O:=λe:Later i=>ad z (n.trans e.ext).size
   clear T U V X M N D C E;refine fc (W:=i) zK rfl zK zK (af _) ?_;dsimp only[List.dropLast]
   repeat (go_big_quiet_step (first
    |(go_at_call 125;refine aP (eC _ _ _ _ _ ?_ ?_)<;>(have:=t.o;omega))
    |exact aP (Q.o _ _ (R.o _) (O _))))
   refine wpQuiet_nil ?_;intro e;unfold av;have a3:=n.trans e.ext;have a1:=(j.ext e.ext).store2 (.int .i64 (aa b (l.take a)+b y:Nat)) (.int .i64 (max (ai c (l.take a)) (c y):Nat));have a2:=((Z.ext e.ext).far (p:=⟨w.heap.size+1,0,none⟩) zS (.int .i64 (aa b (l.take a)+b y:Nat))).far (p:=⟨w.heap.size+1,1,none⟩) zS (.int .i64 (max (ai c (l.take a)) (c y):Nat));go_wp2_with fail
   go_roundw;case rel=>exact⟨a+1,zO,by go_num,(a3.setCell zS _).setCell zS _,a2,by rw[t.o,P.o];exact a1⟩
   case measure=>simp[intOf];omega
  ·obtain⟨M,N⟩:=g.get2;obtain⟨d1,d2⟩:=d.get2;obtain⟨b3,b4⟩:=d.free2;have:a=l.length:=by omega
   subst this;rw[List.take_length] at*;go_wp2_with fail
   have a0:=(d.store2 (.int .i64 (aa b l)) (.int .i64 (ai c l)));refine bodyPost_ret (v:=av (aa b l) (ai c l)) ?_ rfl ⟨rfl,(k.setCell (ac _) _).setCell (ac _) _⟩;obtain⟨a4,a5⟩:=a0.get2;simp[results,results169,go_sem,a4,a5,av]
theorem mw(f:Nat)(F:Enters Tryz.prog f)(b c:Bnd->Nat)(B:Nat)(l:List Bnd)(H:∀x,x∈l->∀(w:World) (u:List Value),RB w B x u->B<=w.heap.size->
 Calls Tryz.prog f #[.agg u.toArray] w λe r=>e=.returned (av (b x) (c x))/\Ext w r)
 (w:World) (v:Value) (a0:Sl (RB w B) w B 7 l v) (z:B<=w.heap.size) (c6:aa b l<=1000000000) (J:∀x,1<=b x):
 Calls Tryz.prog 126 #[v,.func (.func f) #[] #[]] w λe r=>e=.returned (av (aa b l) (ai c l))/\Ext w r:=by
 obtain⟨b5,b7,rfl,c1,K⟩:=a0;have c5:=aw b l J;have s:=Hd H;have c2:=F.o;clear H F J
 go_in
 go_wp2_with fail
 go_loopw [10] (λq wr=>∃a:Nat,a<=l.length/\q=.int .i64 a/\Ext w wr/\Blk wr w.heap.size 141 [.int .i64 0,.int .i64 0]/\
  Blk wr (w.heap.size+1) 141 [.int .i64 (aa b (l.take a)),.int .i64 (ai c (l.take a))]) (λq _=>l.length - (intOf q).toNat)
 case atStart=>exact⟨0,aA _,rfl,(aE _ _).alloc _,(ax _ _ [_,_]).alloc _,by simpa [aa,ai] using ax (w.alloc (.cells #[.int .i64 0,.int .i64 0] 141)) 141 [.int .i64 0,.int .i64 0]⟩
 case round=>
  obtain⟨a,c3,rfl,k,d,g⟩:=hrel;have c7:=g.lt;by_cases h:a<l.length
  ·have L:=dv b l a h;have G:=eE c l a h;have c4:=bu b l (a+1);have I:=s.o l[a] (an h);obtain⟨b6,o,a8,a9,b0,b1,b2,b3,b4,rfl,c0,C,A,d0,d1,d2,d3,d4,d5,d6⟩:=K.open7 h;obtain⟨S,T,U,V,X,Y,Z⟩:=(A.ext k).get7;generalize l[a]=y at*;have t:=Hd L;have P:=Hd G;have Q:=Hd I;clear A K L G I s;obtain⟨M,N⟩:=g.get2;go_wp2_with fail
   obtain⟨i,D,m,E⟩:=fF wr a8 a9 b0 b1 b2 b3 b4 45;rw[<-D];have n:=k.trans m;have a1:=d.ext m;have j:=g.ext m;obtain⟨e1,e2,e3,e4,e5,e6,e7⟩:=E.later7;obtain⟨c8,c9⟩:=j.later2;obtain⟨d7,d8⟩:=j.laterFree2;have R:=Hd (λe:Later i=>C.ext (n.trans e.ext) z);have O:=λe:Later i=>ad z (n.trans e.ext).size
   clear S T U V X Y Z M N D C E;refine fc (W:=i) zK rfl zK zK (af _) ?_;dsimp only[List.dropLast]
   repeat (go_big_quiet_step (first
    |(go_at_call 125;refine aP (eC _ _ _ _ _ ?_ ?_)<;>(have:=t.o;omega))
    |exact aP (Q.o _ _ (R.o _) (O _))))
   refine wpQuiet_nil ?_;intro e;unfold av;have a5:=n.trans e.ext;have a3:=(j.ext e.ext).store2 (.int .i64 (aa b (l.take a)+b y:Nat)) (.int .i64 (max (ai c (l.take a)) (c y):Nat));have a4:=((a1.ext e.ext).far (p:=⟨w.heap.size+1,0,none⟩) zS (.int .i64 (aa b (l.take a)+b y:Nat))).far (p:=⟨w.heap.size+1,1,none⟩) zS (.int .i64 (max (ai c (l.take a)) (c y):Nat));go_wp2_with fail
   go_roundw;case rel=>exact⟨a+1,zO,by go_num,(a5.setCell zS _).setCell zS _,a4,by rw[t.o,P.o];exact a3⟩
   case measure=>simp[intOf];omega
  ·obtain⟨M,N⟩:=g.get2;obtain⟨d9,e0⟩:=d.get2;obtain⟨b8,b9⟩:=d.free2;have:a=l.length:=by omega
   subst this;rw[List.take_length] at*;go_wp2_with fail
   have a2:=(d.store2 (.int .i64 (aa b l)) (.int .i64 (ai c l)));refine bodyPost_ret (v:=av (aa b l) (ai c l)) ?_ rfl ⟨rfl,(k.setCell (ac _) _).setCell (ac _) _⟩;obtain⟨a6,a7⟩:=a2.get2;simp[results,results126,go_sem,a6,a7,av]
theorem AE(f:Nat)(F:Enters Tryz.prog f)(b c:Prt->Nat)(B:Nat)(l:List Prt)(H:∀x,x∈l->∀(w:World) (u:List Value),RP w B x u->B<=w.heap.size->
 Calls Tryz.prog f #[.agg u.toArray] w λe r=>e=.returned (av (b x) (c x))/\Ext w r)
 (w:World) (v:Value) (a1:Sl (RP w B) w B 8 l v) (z:B<=w.heap.size) (c8:aa b l<=1000000000) (J:∀x,1<=b x):
 Calls Tryz.prog 128 #[v,.func (.func f) #[] #[]] w λe r=>e=.returned (av (aa b l) (ai c l))/\Ext w r:=by
 obtain⟨b7,b9,rfl,c3,K⟩:=a1;have c7:=aw b l J;have s:=Hd H;have c4:=F.o;clear H F J
 go_in
 go_wp2_with fail
 go_loopw [10] (λq wr=>∃a:Nat,a<=l.length/\q=.int .i64 a/\Ext w wr/\Blk wr w.heap.size 141 [.int .i64 0,.int .i64 0]/\
  Blk wr (w.heap.size+1) 141 [.int .i64 (aa b (l.take a)),.int .i64 (ai c (l.take a))]) (λq _=>l.length - (intOf q).toNat)
 case atStart=>exact⟨0,aA _,rfl,(aE _ _).alloc _,(ax _ _ [_,_]).alloc _,by simpa [aa,ai] using ax (w.alloc (.cells #[.int .i64 0,.int .i64 0] 141)) 141 [.int .i64 0,.int .i64 0]⟩
 case round=>
  obtain⟨a,c5,rfl,k,d,g⟩:=hrel;have c9:=g.lt;by_cases h:a<l.length
  ·have L:=dv b l a h;have G:=eE c l a h;have c6:=bu b l (a+1);have I:=s.o l[a] (an h);obtain⟨b8,o,a9,b0,b1,b2,b3,b4,b5,b6,rfl,c2,C,A,d2,d3,d4,d5,d6,d7,d8,d9⟩:=K.open8 h;obtain⟨S,T,U,V,X,Y,Z,a0⟩:=(A.ext k).get8;generalize l[a]=y at*;have t:=Hd L;have P:=Hd G;have Q:=Hd I;clear A K L G I s;obtain⟨M,N⟩:=g.get2;go_wp2_with fail
   obtain⟨i,D,m,E⟩:=de wr a9 b0 b1 b2 b3 b4 b5 b6 42;rw[<-D];have n:=k.trans m;have a2:=d.ext m;have j:=g.ext m;obtain⟨e4,e5,e6,e7,e8,e9,f0,f1⟩:=E.later8;obtain⟨d0,d1⟩:=j.later2;obtain⟨e0,e1⟩:=j.laterFree2;have R:=Hd (λe:Later i=>C.ext (n.trans e.ext) z);have O:=λe:Later i=>ad z (n.trans e.ext).size
   clear S T U V X Y Z a0 M N D C E;refine fc (W:=i) zK rfl zK zK (af _) ?_;dsimp only[List.dropLast]
   repeat (go_big_quiet_step (first
    |(go_at_call 125;refine aP (eC _ _ _ _ _ ?_ ?_)<;>(have:=t.o;omega))
    |exact aP (Q.o _ _ (R.o _) (O _))))
   refine wpQuiet_nil ?_;intro e;unfold av;have a6:=n.trans e.ext;have a4:=(j.ext e.ext).store2 (.int .i64 (aa b (l.take a)+b y:Nat)) (.int .i64 (max (ai c (l.take a)) (c y):Nat));have a5:=((a2.ext e.ext).far (p:=⟨w.heap.size+1,0,none⟩) zS (.int .i64 (aa b (l.take a)+b y:Nat))).far (p:=⟨w.heap.size+1,1,none⟩) zS (.int .i64 (max (ai c (l.take a)) (c y):Nat));go_wp2_with fail
   go_roundw;case rel=>exact⟨a+1,zO,by go_num,(a6.setCell zS _).setCell zS _,a5,by rw[t.o,P.o];exact a4⟩
   case measure=>simp[intOf];omega
  ·obtain⟨M,N⟩:=g.get2;obtain⟨e2,e3⟩:=d.get2;obtain⟨c0,c1⟩:=d.free2;have:a=l.length:=by omega
   subst this;rw[List.take_length] at*;go_wp2_with fail
   have a3:=(d.store2 (.int .i64 (aa b l)) (.int .i64 (ai c l)));refine bodyPost_ret (v:=av (aa b l) (ai c l)) ?_ rfl ⟨rfl,(k.setCell (ac _) _).setCell (ac _) _⟩;obtain⟨a7,a8⟩:=a3.get2;simp[results,results128,go_sem,a7,a8,av]
theorem mx(f:Nat)(F:Enters Tryz.prog f)(b c:Itm->Nat)(B:Nat)(l:List Itm)(H:∀x,x∈l->∀(w:World) (u:List Value),RI w B x u->B<=w.heap.size->
 Calls Tryz.prog f #[.agg u.toArray] w λe r=>e=.returned (av (b x) (c x))/\Ext w r)
 (w:World) (v:Value) (a2:Sl (RI w B) w B 9 l v) (z:B<=w.heap.size) (d0:aa b l<=1000000000) (J:∀x,1<=b x):
 Calls Tryz.prog 130 #[v,.func (.func f) #[] #[]] w λe r=>e=.returned (av (aa b l) (ai c l))/\Ext w r:=by
 obtain⟨b9,c1,rfl,c5,K⟩:=a2;have c9:=aw b l J;have s:=Hd H;have c6:=F.o;clear H F J
 go_in
 go_wp2_with fail
 go_loopw [10] (λq wr=>∃a:Nat,a<=l.length/\q=.int .i64 a/\Ext w wr/\Blk wr w.heap.size 141 [.int .i64 0,.int .i64 0]/\
  Blk wr (w.heap.size+1) 141 [.int .i64 (aa b (l.take a)),.int .i64 (ai c (l.take a))]) (λq _=>l.length - (intOf q).toNat)
 case atStart=>exact⟨0,aA _,rfl,(aE _ _).alloc _,(ax _ _ [_,_]).alloc _,by simpa [aa,ai] using ax (w.alloc (.cells #[.int .i64 0,.int .i64 0] 141)) 141 [.int .i64 0,.int .i64 0]⟩
 case round=>
  obtain⟨a,c7,rfl,k,d,g⟩:=hrel;have d1:=g.lt;by_cases h:a<l.length
  ·have L:=dv b l a h;have G:=eE c l a h;have c8:=bu b l (a+1);have I:=s.o l[a] (an h);obtain⟨c0,o,b0,b1,b2,b3,b4,b5,b6,b7,b8,rfl,c4,C,A,d4,d5,d6,d7,d8,d9,e0,e1,e2⟩:=K.open9 h;obtain⟨S,T,U,V,X,Y,Z,a0,a1⟩:=(A.ext k).get9;generalize l[a]=y at*;have t:=Hd L;have P:=Hd G;have Q:=Hd I;clear A K L G I s;obtain⟨M,N⟩:=g.get2;go_wp2_with fail
   obtain⟨i,D,m,E⟩:=bM wr b0 b1 b2 b3 b4 b5 b6 b7 b8 37;rw[<-D];have n:=k.trans m;have a3:=d.ext m;have j:=g.ext m;obtain⟨e7,e8,e9,f0,f1,f2,f3,f4,f5⟩:=E.later9;obtain⟨d2,d3⟩:=j.later2;obtain⟨e3,e4⟩:=j.laterFree2;have R:=Hd (λe:Later i=>C.ext (n.trans e.ext) z);have O:=λe:Later i=>ad z (n.trans e.ext).size
   clear S T U V X Y Z a0 a1 M N D C E;refine fc (W:=i) zK rfl zK zK (af _) ?_;dsimp only[List.dropLast]
   repeat (go_big_quiet_step (first
    |(go_at_call 125;refine aP (eC _ _ _ _ _ ?_ ?_)<;>(have:=t.o;omega))
    |exact aP (Q.o _ _ (R.o _) (O _))))
   refine wpQuiet_nil ?_;intro e;unfold av;have a7:=n.trans e.ext;have a5:=(j.ext e.ext).store2 (.int .i64 (aa b (l.take a)+b y:Nat)) (.int .i64 (max (ai c (l.take a)) (c y):Nat));have a6:=((a3.ext e.ext).far (p:=⟨w.heap.size+1,0,none⟩) zS (.int .i64 (aa b (l.take a)+b y:Nat))).far (p:=⟨w.heap.size+1,1,none⟩) zS (.int .i64 (max (ai c (l.take a)) (c y):Nat));go_wp2_with fail
   go_roundw;case rel=>exact⟨a+1,zO,by go_num,(a7.setCell zS _).setCell zS _,a6,by rw[t.o,P.o];exact a5⟩
   case measure=>simp[intOf];omega
  ·obtain⟨M,N⟩:=g.get2;obtain⟨e5,e6⟩:=d.get2;obtain⟨c2,c3⟩:=d.free2;have:a=l.length:=by omega
   subst this;rw[List.take_length] at*;go_wp2_with fail
   have a4:=(d.store2 (.int .i64 (aa b l)) (.int .i64 (ai c l)));refine bodyPost_ret (v:=av (aa b l) (ai c l)) ?_ rfl ⟨rfl,(k.setCell (ac _) _).setCell (ac _) _⟩;obtain⟨a8,a9⟩:=a4.get2;simp[results,results130,go_sem,a8,a9,av]
theorem AD(f:Nat)(F:Enters Tryz.prog f)(b c:Mdl->Nat)(B:Nat)(l:List Mdl)(H:∀x,x∈l->∀(w:World) (u:List Value),RM w B x u->B<=w.heap.size->
 Calls Tryz.prog f #[.agg u.toArray] w λe r=>e=.returned (av (b x) (c x))/\Ext w r)
 (w:World) (v:Value) (X:Sl (RM w B) w B 4 l v) (z:B<=w.heap.size) (c0:aa b l<=1000000000) (J:∀x,1<=b x):
 Calls Tryz.prog 87 #[v,.func (.func f) #[] #[]] w λe r=>e=.returned (av (aa b l) (ai c l))/\Ext w r:=by
 obtain⟨a9,b1,rfl,b5,K⟩:=X;have b9:=aw b l J;have s:=Hd H;have b6:=F.o;clear H F J
 go_in
 go_wp2_with fail
 go_loopw [10] (λq wr=>∃a:Nat,a<=l.length/\q=.int .i64 a/\Ext w wr/\Blk wr w.heap.size 141 [.int .i64 0,.int .i64 0]/\
  Blk wr (w.heap.size+1) 141 [.int .i64 (aa b (l.take a)),.int .i64 (ai c (l.take a))]) (λq _=>l.length - (intOf q).toNat)
 case atStart=>exact⟨0,aA _,rfl,(aE _ _).alloc _,(ax _ _ [_,_]).alloc _,by simpa [aa,ai] using ax (w.alloc (.cells #[.int .i64 0,.int .i64 0] 141)) 141 [.int .i64 0,.int .i64 0]⟩
 case round=>
  obtain⟨a,b7,rfl,k,d,g⟩:=hrel;have c1:=g.lt;by_cases h:a<l.length
  ·have L:=dv b l a h;have G:=eE c l a h;have b8:=bu b l (a+1);have I:=s.o l[a] (an h);obtain⟨b0,o,a5,a6,a7,a8,rfl,b4,C,A,c4,c5,c6,c7⟩:=K.open4 h;obtain⟨S,T,U,V⟩:=(A.ext k).get4;generalize l[a]=y at*;have t:=Hd L;have P:=Hd G;have Q:=Hd I;clear A K L G I s;obtain⟨M,N⟩:=g.get2;go_wp2_with fail
   obtain⟨i,D,m,E⟩:=bK wr a5 a6 a7 a8 30;rw[<-D];have n:=k.trans m;have Y:=d.ext m;have j:=g.ext m;obtain⟨d2,d3,d4,d5⟩:=E.later4;obtain⟨c2,c3⟩:=j.later2;obtain⟨c8,c9⟩:=j.laterFree2;have R:=Hd (λe:Later i=>C.ext (n.trans e.ext) z);have O:=λe:Later i=>ad z (n.trans e.ext).size
   clear S T U V M N D C E;refine fc (W:=i) zK rfl zK zK (af _) ?_;dsimp only[List.dropLast]
   repeat (go_big_quiet_step (first
    |(go_at_call 125;refine aP (eC _ _ _ _ _ ?_ ?_)<;>(have:=t.o;omega))
    |exact aP (Q.o _ _ (R.o _) (O _))))
   refine wpQuiet_nil ?_;intro e;unfold av;have a2:=n.trans e.ext;have a0:=(j.ext e.ext).store2 (.int .i64 (aa b (l.take a)+b y:Nat)) (.int .i64 (max (ai c (l.take a)) (c y):Nat));have a1:=((Y.ext e.ext).far (p:=⟨w.heap.size+1,0,none⟩) zS (.int .i64 (aa b (l.take a)+b y:Nat))).far (p:=⟨w.heap.size+1,1,none⟩) zS (.int .i64 (max (ai c (l.take a)) (c y):Nat));go_wp2_with fail
   go_roundw;case rel=>exact⟨a+1,zO,by go_num,(a2.setCell zS _).setCell zS _,a1,by rw[t.o,P.o];exact a0⟩
   case measure=>simp[intOf];omega
  ·obtain⟨M,N⟩:=g.get2;obtain⟨d0,d1⟩:=d.get2;obtain⟨b2,b3⟩:=d.free2;have:a=l.length:=by omega
   subst this;rw[List.take_length] at*;go_wp2_with fail
   have Z:=(d.store2 (.int .i64 (aa b l)) (.int .i64 (ai c l)));refine bodyPost_ret (v:=av (aa b l) (ai c l)) ?_ rfl ⟨rfl,(k.setCell (ac _) _).setCell (ac _) _⟩;obtain⟨a3,a4⟩:=Z.get2;simp[results,results87,go_sem,a3,a4,av]
theorem mc:Enters Tryz.prog 167:=⟨λ_ _=>by kernel_rfl⟩
theorem od:Enters Tryz.prog 170:=⟨λ_ _=>by kernel_rfl⟩
theorem lZ:Enters Tryz.prog 127:=⟨λ_ _=>by kernel_rfl⟩
theorem zR:Enters Tryz.prog 129:=⟨λ_ _=>by kernel_rfl⟩
theorem ma:Enters Tryz.prog 131:=⟨λ_ _=>by kernel_rfl⟩
theorem zQ:Enters Tryz.prog 88:=⟨λ_ _=>by kernel_rfl⟩
theorem iQ(B:Nat)(x:X):∀(w:World) (a:List Value),RX w B x a->B<=w.heap.size->al x<=1000000000->
 Calls Tryz.prog 167 #[.agg a.toArray] w λe U=>e=.returned (av (al x) (aM x))/\Ext w U:=by
 induction x using X.ind with
 |h x ih=>
 intro w a p J t;obtain⟨v,rfl,d⟩:=RX_iff.1 p;have a1:1+aa al x.l<=1000000000:=by rw[<-dJ];exact t
 have Z:=fQ x.l;have N:=Hd (λb (c:b∈x.l)=>ay al x.l b c);rw[dJ,hU];have E:=Hd ih;have D:=Hd d;have a0:=d.oneCell;generalize x.op=op at*;generalize x.name=nm at*;generalize x.n=n at*;generalize x.w=wd at*;generalize x.v=xv at*;generalize x.l=l at*;clear p t ih d
 go_in
 go_wp2_with fail
 obtain⟨F,f,O,L⟩:=aV w (.int .i64 op) (.string nm) (.int .i64 n) (.int .i64 wd) (.int .u64 xv) v 40;rw[<-f];have Q:=eA f;clear f;obtain⟨G,g,y,q⟩:=dd F (.int .i64 0) (.int .i64 0) 141;rw[<-g];have R:=eA g;clear g;rw[Q] at q R;have u:=O.trans y;have Y:=L.ext y;have K:B<=G.heap.size:=by omega
 refine(lK _ mc al aM B l (λb c w a H I=>E.o b c w a H I (by have:=N.o b c;omega)) _ v (D.o.extRX u J) K zO cR).mono ?_;rintro e a4 ⟨rfl,r⟩;go_wp2_with fail
 refine(hD _ _ _ zO zO).mono ?_;rintro e a5 ⟨rfl,s⟩;unfold av;obtain⟨z,k⟩:∃n,n=1+aa al l:=⟨_,rfl⟩;obtain⟨m,j⟩:∃n,n=1+ai aM l:=⟨_,rfl⟩;rw[<-k,<-j];have A:=Hd k;have C:=Hd j;clear k j;have P:=(u.trans r).trans s;have i:=(q.ext r).ext s;have M:=i.store2 (.int .i64 z) (.int .i64 m);obtain⟨a2,a3⟩:=i.get2;obtain⟨V,W⟩:=i.free2;go_wp2_with fail
 refine bodyPost_ret (v:=av z m) ?_ rfl ⟨by rw[A.o,C.o],(P.setCell zS _).setCell zS _⟩;obtain⟨S,T⟩:=M.get2;simp[results,results167,go_sem,S,T,av]
theorem nb(B:Nat)(x:Bnd)(w:World)(a:List Value)(F:RB w B x a)(D:B<=w.heap.size)(p:au x<=1000000000):
 Calls Tryz.prog 127 #[.agg a.toArray] w λe P=>e=.returned (av (au x) (bz x))/\Ext w P:=by
 have a1:1+al x.x<=1000000000:=p;have Z:=fo x.x;obtain⟨a,rfl,d⟩:=F;obtain⟨v,rfl,j⟩:=RX_iff.1 d;have a0:=j.oneCell;unfold au bz;have z:=Hd d;generalize x.name=nm at*;generalize x.x=y at*;clear d j p
 go_in
 go_wp2_with fail
 obtain⟨A,b,J,G⟩:=fF w (.string nm) (.int .i64 y.op) (.string y.name) (.int .i64 y.n) (.int .i64 y.w) (.int .u64 y.v) v 45;rw[<-b];have L:=eA b;clear b;obtain⟨C,c,r,k⟩:=dd A (.int .i64 0) (.int .i64 0) 141;rw[<-c];have M:=eA c;clear c;rw[L] at k M;have q:=J.trans r;have H:=G.ext r;have E:B<=C.heap.size:=by omega
 obtain⟨Q,R,S,T,U,V,W⟩:=H.get7;go_wp2_with fail
 refine(iQ B y _ _ (z.o.ext q D) E zO).mono ?_;rintro e a4 ⟨rfl,l⟩;go_wp2_with fail
 refine(hD _ _ _ zO zO).mono ?_;rintro e a5 ⟨rfl,m⟩;unfold av;obtain⟨s,h⟩:∃n,n=1+al y:=⟨_,rfl⟩;obtain⟨i,g⟩:∃n,n=1+aM y:=⟨_,rfl⟩;rw[<-h,<-g];have t:=Hd h;have u:=Hd g;clear h g;have K:=(q.trans l).trans m;have f:=(k.ext l).ext m;have I:=f.store2 (.int .i64 s) (.int .i64 i);obtain⟨a2,a3⟩:=f.get2;obtain⟨X,Y⟩:=f.free2;go_wp2_with fail
 refine bodyPost_ret (v:=av s i) ?_ rfl ⟨by rw[t.o,u.o],(K.setCell zS _).setCell zS _⟩;obtain⟨N,O⟩:=I.get2;simp[results,results127,go_sem,N,O,av]
theorem ug(B:Nat)(x:Prt)(w:World)(a:List Value)(F:RP w B x a)(D:B<=w.heap.size)(p:aJ x<=1000000000):
 Calls Tryz.prog 129 #[.agg a.toArray] w λe P=>e=.returned (av (aJ x) (cM x))/\Ext w P:=by
 have a2:1+al x.w<=1000000000:=p;have a0:=fo x.w;obtain⟨a,rfl,d⟩:=F;obtain⟨v,rfl,j⟩:=RX_iff.1 d;have a1:=j.oneCell;unfold aJ cM;have z:=Hd d;generalize x.name=nm at*;generalize x.o=ou at*;generalize x.w=y at*;clear d j p
 go_in
 go_wp2_with fail
 obtain⟨A,b,J,G⟩:=de w (.string nm) (.bool ou) (.int .i64 y.op) (.string y.name) (.int .i64 y.n) (.int .i64 y.w) (.int .u64 y.v) v 42;rw[<-b];have L:=eA b;clear b;obtain⟨C,c,r,k⟩:=dd A (.int .i64 0) (.int .i64 0) 141;rw[<-c];have M:=eA c;clear c;rw[L] at k M;have q:=J.trans r;have H:=G.ext r;have E:B<=C.heap.size:=by omega
 obtain⟨Q,R,S,T,U,V,W,X⟩:=H.get8;go_wp2_with fail
 refine(iQ B y _ _ (z.o.ext q D) E zO).mono ?_;rintro e a5 ⟨rfl,l⟩;go_wp2_with fail
 refine(hD _ _ _ zO zO).mono ?_;rintro e a6 ⟨rfl,m⟩;unfold av;obtain⟨s,h⟩:∃n,n=1+al y:=⟨_,rfl⟩;obtain⟨i,g⟩:∃n,n=1+aM y:=⟨_,rfl⟩;rw[<-h,<-g];have t:=Hd h;have u:=Hd g;clear h g;have K:=(q.trans l).trans m;have f:=(k.ext l).ext m;have I:=f.store2 (.int .i64 s) (.int .i64 i);obtain⟨a3,a4⟩:=f.get2;obtain⟨Y,Z⟩:=f.free2;go_wp2_with fail
 refine bodyPost_ret (v:=av s i) ?_ rfl ⟨by rw[t.o,u.o],(K.setCell zS _).setCell zS _⟩;obtain⟨N,O⟩:=I.get2;simp[results,results129,go_sem,N,O,av]
theorem uh(B:Nat)(x:S):∀(w:World) (c:List Value),RS w B x c->B<=w.heap.size->ao x<=1000000000->
 Calls Tryz.prog 170 #[.agg c.toArray] w λe a1=>e=.returned (av (ao x) (bP x))/\Ext w a1:=by
 induction x using S.ind with
 |h x ih=>
 intro w c z y C;obtain⟨Z,a0,rfl,p,j⟩:=RS_iff.1 z;have a9:1+aa al x.x+aa ao x.l<=1000000000:=by rw[<-bW];exact C
 have d:=fQ x.x;have a8:=ie x.l;have P:=Hd (λa (b:a∈x.x)=>ay al x.x a b);have Q:=Hd (λa (b:a∈x.l)=>ay ao x.l a b);rw[show ao x=1+(aa al x.x+aa ao x.l) by rw[bW];omega,lw];have J:=Hd ih;have I:=Hd p;have H:=Hd j;have b0:=p.oneCell;have b1:=j.oneCell;generalize x.op=op at*;generalize x.name=nm at*;generalize x.x=yx at*;generalize x.l=yl at*;clear z C ih p j
 go_in
 go_wp2_with fail
 obtain⟨K,k,R,M⟩:=bK w (.int .i64 op) (.string nm) Z a0 177;rw[<-k];have U:=eA k;clear k;obtain⟨f,m,D,A⟩:=dd K (.int .i64 0) (.int .i64 0) 141;rw[<-m];have V:=eA m;clear m;rw[U] at A V;have s:=R.trans D;have N:=M.ext D;have L:B<=f.heap.size:=by omega
 obtain⟨a2,a3,a4,a5⟩:=N.later4;have t:=λe:Later f=>ad L e.ext.size
 go_wp2_with fail
 refine fc (W:=f) zK rfl zK zK (af _) ?_;dsimp only[List.dropLast]
 repeat (go_big_quiet_step (first
  |(go_at_call 168;exact aP (lK _ mc al aM B yx (λa b w c g i=>iQ B a w c g i (by have:=P.o a b;omega)) _ _ (I.o.extRX (s.trans (ag _)) y) (t _) zO cR))
  |(go_at_call 169;exact aP (rb _ od ao bP B yl (λa b w c g i=>J.o a b w c g i (by have:=Q.o a b;omega)) _ _ (H.o.extRS (s.trans (ag _)) y) (t _) zO da))
  |(go_at_call 125;refine aP (eC _ _ _ _ _ ?_ ?_)<;>omega)
  |(go_at_call 132;refine aP (hD _ _ _ ?_ ?_)<;>omega)))
 refine wpQuiet_nil ?_;intro e;unfold av;obtain⟨E,r⟩:∃n,n=1+(aa al yx+aa ao yl):=⟨_,rfl⟩;obtain⟨u,d⟩:∃n,n=1+max (ai aM yx) (ai bP yl):=⟨_,rfl⟩;rw[<-r,<-d];have F:=Hd r;have G:=Hd d;clear r d;have T:=s.trans e.ext;have q:=A.ext e.ext;have O:=q.store2 (.int .i64 E) (.int .i64 u);obtain⟨b2,b3⟩:=q.get2;obtain⟨a6,a7⟩:=q.free2;go_wp2_with fail
 refine bodyPost_ret (v:=av E u) ?_ rfl ⟨by rw[F.o,G.o],(T.setCell zS _).setCell zS _⟩;obtain⟨X,Y⟩:=O.get2;simp[results,results170,go_sem,X,Y,av]
theorem ue(B:Nat)(x:Itm):∀(w:World) (r:List Value),RI w B x r->B<=w.heap.size->aj x<=1000000000->
 Calls Tryz.prog 131 #[.agg r.toArray] w λe t=>e=.returned (av (aj x) (aY x))/\Ext w t:=by
 induction x using Itm.ind with
 |h x ih1 ih2=>
 intro w r e3 I P;obtain⟨b8,b9,c0,c1,f5,f6,rfl,a7,a4,a2,a1,a3,a0⟩:=RI_iff.1 e3;have i8:1+aa al x.x+aa ao x.s+aa aj x.l+aa aj x.els+aa au x.params+aa au x.binds<=1000000000:=by rw[<-bq];exact P
 have O:=fQ x.x;have i2:=ie x.s;have i3:=fP x.l;have i4:=fP x.els;have i5:=eW x.params;have i6:=eW x.binds;have e5:=Hd (λg (k:g∈x.x)=>ay al x.x g k);have e6:=Hd (λg (k:g∈x.s)=>ay ao x.s g k);have e7:=Hd (λg (k:g∈x.l)=>ay aj x.l g k);have e8:=Hd (λg (k:g∈x.els)=>ay aj x.els g k);have e9:=Hd (λg (k:g∈x.params)=>ay au x.params g k);have f0:=Hd (λg (k:g∈x.binds)=>ay au x.binds g k);rw[show aj x=1+(aa al x.x+aa ao x.s+aa aj x.l+aa aj x.els+aa au x.params+aa au x.binds) by rw[bq];omega,jL];have d8:=Hd ih1;have d9:=Hd ih2;have d7:=Hd a7;have d6:=Hd a4;have d4:=Hd a2;have d3:=Hd a1;have d5:=Hd a3;have d2:=Hd a0;have j2:=a7.oneCell;have j3:=a4.oneCell;have j4:=a2.oneCell;have j5:=a1.oneCell;have j6:=a3.oneCell;have j7:=a0.oneCell;generalize x.op=op at*;generalize x.name=nm at*;generalize x.of=of at*;generalize x.x=yx at*;generalize x.s=ys at*;generalize x.l=yl at*;generalize x.els=ye at*;generalize x.params=yp at*;generalize x.binds=yb at*;clear e3 P ih1 ih2 a7 a4 a2 a1 a3 a0
 go_in
 go_wp2_with fail
 obtain⟨f9,a5,f2,e4⟩:=bM w (.int .i64 op) (.string nm) (.string of) b8 b9 c0 c1 f5 f6 37;rw[<-a5];have h7:=eA a5;clear a5;obtain⟨D,a6,b6,a8⟩:=dd f9 (.int .i64 0) (.int .i64 0) 141;rw[<-a6];have h8:=eA a6;clear a6;rw[h7] at a8 h8;have q:=f2.trans b6;have E:=e4.ext b6;have i1:B<=D.heap.size:=by omega
 obtain⟨g0,g1,g2,g3,g4,g5,g6,g7,g8⟩:=E.get9;go_wp2_with fail
 have c2:∀a,Ext D a->Calls Tryz.prog 168 #[b8,.func (.func 167) #[] #[]] a λe t=>e=.returned (av (aa al yx) (ai aM yx))/\Ext a t:=λa j=>
  lK _ mc al aM B yx (λg k w r u y=>iQ B g w r u y (by have:=e5.o g k;omega)) _ _ (d7.o.extRX (q.trans j) I) (by have:=j.size;omega) zO cR
 have c3:∀a,Ext D a->Calls Tryz.prog 169 #[b9,.func (.func 170) #[] #[]] a λe t=>e=.returned (av (aa ao ys) (ai bP ys))/\Ext a t:=λa j=>
  rb _ od ao bP B ys (λg k w r u y=>uh B g w r u y (by have:=e6.o g k;omega)) _ _ (d6.o.extRS (q.trans j) I) (by have:=j.size;omega) zO da
 have c4:∀a,Ext D a->Calls Tryz.prog 130 #[c0,.func (.func 131) #[] #[]] a λe t=>e=.returned (av (aa aj yl) (ai aY yl))/\Ext a t:=λa j=>
  mx _ ma aj aY B yl (λg k w r u y=>d8.o g k w r u y (by have:=e7.o g k;omega)) _ _ (d4.o.extRI (q.trans j) I) (by have:=j.size;omega) zO cQ
 have c5:∀a,Ext D a->Calls Tryz.prog 130 #[c1,.func (.func 131) #[] #[]] a λe t=>e=.returned (av (aa aj ye) (ai aY ye))/\Ext a t:=λa j=>
  mx _ ma aj aY B ye (λg k w r u y=>d9.o g k w r u y (by have:=e8.o g k;omega)) _ _ (d3.o.extRI (q.trans j) I) (by have:=j.size;omega) zO cQ
 have L:∀a,Ext D a->Calls Tryz.prog 126 #[f5,.func (.func 127) #[] #[]] a λe t=>e=.returned (av (aa au yp) (ai bz yp))/\Ext a t:=λa j=>
  mw _ lZ au bz B yp (λg k w r u y=>nb B g w r u y (by have:=e9.o g k;omega)) _ _ (d5.o.extRB (q.trans j) I) (by have:=j.size;omega) zO du
 have M:∀a,Ext D a->Calls Tryz.prog 126 #[f6,.func (.func 127) #[] #[]] a λe t=>e=.returned (av (aa au yb) (ai bz yb))/\Ext a t:=λa j=>
  mw _ lZ au bz B yb (λg k w r u y=>nb B g w r u y (by have:=f0.o g k;omega)) _ _ (d2.o.extRB (q.trans j) I) (by have:=j.size;omega) zO du
 have c6:=Hd c2;have c7:=Hd c3;have c8:=Hd c4;have c9:=Hd c5;have d0:=Hd L;have d1:=Hd M;clear c2 c3 c4 c5 L M d7 d6 d4 d3 d5 d2 d8 d9 e5 e6 e7 e8 e9 f0
 obtain⟨vals,b5⟩:∃vals:List Value,vals=[.pointer (some ⟨w.heap.size,3,none⟩),b8,av (aa al yx) (ai aM yx),.pointer (some ⟨w.heap.size,4,none⟩),b9,av (aa ao ys) (ai bP ys),
  av (aa al yx+aa ao ys) (max (ai aM yx) (ai bP ys)),.pointer (some ⟨w.heap.size,5,none⟩),c0,av (aa aj yl) (ai aY yl),
  av (aa al yx+aa ao ys+aa aj yl) (max (max (ai aM yx) (ai bP ys)) (ai aY yl)),.pointer (some ⟨w.heap.size,6,none⟩),c1,av (aa aj ye) (ai aY ye),
  av (aa al yx+aa ao ys+aa aj yl+aa aj ye) (max (max (max (ai aM yx) (ai bP ys)) (ai aY yl)) (ai aY ye))]:=⟨_,rfl⟩
 refine vd (W:=D) (λQ v t=>if Q=15 then(∃C,v=.pointer (some ⟨C,0,none⟩)/\D.heap.size<=C/\Blk t C 141 [.int .i64 0,.int .i64 0]) else v=vals.getD Q undef) zK rfl zK zK (af _) ?_ ?_ ?_
 ·intro Q v a k0 j q;by_cases e2:Q=15
  ·rw[if_pos e2] at j⊢;obtain⟨C,u,y,g9⟩:=j;exact⟨C,u,y,g9.ext q⟩
  ·rw[if_neg e2] at j⊢;exact j
 ·subst b5;refine⟨?_,?_,?_,?_,?_,?_,?_,?_,?_,?_,?_,?_,?_,?_,?_,?_,trivial⟩
  ·intro c a i b f;have z:=ah f 1 zK;simp at z;clear b f;go_simp;exact af _
  ·intro c a i b f;have m:=dQ (d:=4) b rfl rfl;simp at m;obtain⟨R,H,S,T,A,U,V,X,Y⟩:=(E.ext i).get9;clear b f;go_simp;exact af _
  ·intro c a i b f;have m:=dQ (d:=5) b rfl rfl;simp at m;clear b f;go_simp;refine(c6.o _ i).mono ?_;rintro e J ⟨rfl,q⟩;go_simp
  ·intro c a i b f;have z:=ah f 1 zK;simp at z;clear b f;go_simp;exact af _
  ·intro c a i b f;have m:=dQ (d:=7) b rfl rfl;simp at m;obtain⟨R,H,S,T,A,U,V,X,Y⟩:=(E.ext i).get9;clear b f;go_simp;exact af _
  ·intro c a i b f;have m:=dQ (d:=8) b rfl rfl;simp at m;clear b f;go_simp;refine(c7.o _ i).mono ?_;rintro e J ⟨rfl,q⟩;go_simp
  ·intro c a i b f;have m:=dQ (d:=6) b rfl rfl;have F:=dQ (d:=9) b.2 rfl rfl;simp at m F;clear b f;go_simp;refine(eC _ _ _ _ _ zO zO).mono ?_;rintro e J ⟨rfl,q⟩;go_simp
  ·intro c a i b f;have z:=ah f 1 zK;simp at z;clear b f;go_simp;exact af _
  ·intro c a i b f;have m:=dQ (d:=11) b rfl rfl;simp at m;obtain⟨R,H,S,T,A,U,V,X,Y⟩:=(E.ext i).get9;clear b f;go_simp;exact af _
  ·intro c a i b f;have m:=dQ (d:=12) b rfl rfl;simp at m;clear b f;go_simp;refine(c8.o _ i).mono ?_;rintro e J ⟨rfl,q⟩;go_simp
  ·intro c a i b f;have m:=dQ (d:=10) b rfl rfl;have F:=dQ (d:=13) b.2 rfl rfl;simp at m F;clear b f;go_simp;refine(eC _ _ _ _ _ zO zO).mono ?_;rintro e J ⟨rfl,q⟩;go_simp
  ·intro c a i b f;have z:=ah f 1 zK;simp at z;clear b f;go_simp;exact af _
  ·intro c a i b f;have m:=dQ (d:=15) b rfl rfl;simp at m;obtain⟨R,H,S,T,A,U,V,X,Y⟩:=(E.ext i).get9;clear b f;go_simp;exact af _
  ·intro c a i b f;have m:=dQ (d:=16) b rfl rfl;simp at m;clear b f;go_simp;refine(c9.o _ i).mono ?_;rintro e J ⟨rfl,q⟩;go_simp
  ·intro c a i b f;have m:=dQ (d:=14) b rfl rfl;have F:=dQ (d:=17) b.2 rfl rfl;simp at m F;clear b f;go_simp;refine(eC _ _ _ _ _ zO zO).mono ?_;rintro e J ⟨rfl,q⟩;go_simp
  ·intro c a i b f;clear b f;go_simp;exact⟨_,rfl,(af _).alloc _,_,rfl,by have:=i.size;omega,ax _ _ [_,_]⟩
 ·intro c a h4;obtain⟨i,P,h3,b1,b2⟩:=h4;obtain⟨C,b7,f1,N⟩:=b1 15 3 rfl rfl;obtain⟨G,b4⟩:∃n,n=aa al yx+aa ao ys+aa aj yl+aa aj ye:=⟨_,rfl⟩;obtain⟨A,b0⟩:∃n,n=max (max (max (ai aM yx) (ai bP ys)) (ai aY yl)) (ai aY ye):=⟨_,rfl⟩;have f4:c.tmps[18]?.getD undef=av G A:=by
   have j:=b1 14 18 rfl rfl;subst b5;rw[Array.getD_eq_getD_getElem?] at j;rw[b4,b0];exact j
  clear b5;have z:=ah b2 1 zK;have Z:=ah b2 2 zK;clear b1 b2;rw[ey P h3];simp[List.range,List.range.loop] at b7 z Z;simp[List.range,List.range.loop,b7,f4,z,Z];clear b7 f4 z Z;have i9:G+aa au yp+aa au yb<1000000000:=by omega
  have i7:A<=G:=by omega
  have f8:=Hd b4;have f7:=Hd b0;clear b4 b0;generalize c.tmps[0]?.getD undef=A0 at*;generalize c.tmps[4]?.getD undef=A4 at*;generalize c.tmps[5]?.getD undef=A5 at*;generalize c.tmps[6]?.getD undef=A6 at*;generalize c.tmps[7]?.getD undef=A7 at*;generalize c.tmps[8]?.getD undef=A8 at*;generalize c.tmps[9]?.getD undef=A9 at*;generalize c.tmps[10]?.getD undef=A10 at*;generalize c.tmps[11]?.getD undef=A11 at*;generalize c.tmps[12]?.getD undef=A12 at*;generalize c.tmps[13]?.getD undef=A13 at*;generalize c.tmps[14]?.getD undef=A14 at*;generalize c.tmps[15]?.getD undef=A15 at*;generalize c.tmps[16]?.getD undef=A16 at*;generalize c.tmps[17]?.getD undef=A17 at*;generalize c.tmps[19]?.getD undef=A19 at*;generalize c.tmps[20]?.getD undef=A20 at*;generalize c.tmps[21]?.getD undef=A21 at*;generalize c.tmps[22]?.getD undef=A22 at*;generalize c.tmps[23]?.getD undef=A23 at*;generalize c.tmps[24]?.getD undef=A24 at*;generalize c.tmps[25]?.getD undef=A25 at*;generalize c.tmps[26]?.getD undef=A26 at*;generalize c.tmps[27]?.getD undef=A27 at*;generalize c.tmps[28]?.getD undef=A28 at*;have h0:=N.store2 (.int .i64 G) (.int .i64 A);have K:=(i.setCell (p:=⟨C,0,none⟩) f1 (.int .i64 G)).setCell (p:=⟨C,1,none⟩) f1 (.int .i64 A);obtain⟨h9,i0⟩:=N.get2;obtain⟨e0,e1⟩:=N.free2;unfold av;go_wp2_with fail
  generalize (a.setCell ⟨C,0,none⟩ (.int .i64 G)).setCell ⟨C,1,none⟩ (.int .i64 A)=W3 at*;clear N h9 i0 e0 e1 i;have h6:=q.trans K;obtain⟨j0,j1⟩:=h0.later2;obtain⟨g0,g1,g2,g3,g4,g5,g6,g7,g8⟩:=(E.ext K).later9;have h1:=a8.ext K;have L:=Hd (λe:Later W3=>d0.o _ (K.trans e.ext));have M:=Hd (λe:Later W3=>d1.o _ (K.trans e.ext));clear c6 c7 c8 c9 d0 d1 E e4 f2 b6 a8;refine fc (W:=W3) zK rfl zK zK (af _) ?_;dsimp only[List.dropLast]
  repeat (go_big_quiet_step (first
   |(go_at_call 125;refine aP (eC _ _ _ _ _ ?_ ?_)<;>omega)
   |(go_at_call 132;refine aP (hD _ _ _ ?_ ?_)<;>omega)
   |(go_at_call 126;with_reducible exact aP (L.o _))|(go_at_call 126;with_reducible exact aP (M.o _))))
  refine wpQuiet_nil ?_;intro e;unfold av;obtain⟨f3,b3⟩:∃n,n=1+(G+aa au yp+aa au yb):=⟨_,rfl⟩;obtain⟨H,O⟩:∃n,n=1+max A (max (ai bz yp) (ai bz yb)):=⟨_,rfl⟩;rw[<-b3,<-O];have K1:=Hd b3;have K2:=Hd O;clear b3 O;have h5:=h6.trans e.ext;have a9:=h1.ext e.ext;have h2:=a9.store2 (.int .i64 f3) (.int .i64 H);obtain⟨j8,j9⟩:=a9.get2;obtain⟨e0,e1⟩:=a9.free2;go_wp2_with fail
  refine bodyPost_ret (v:=av f3 H) ?_ rfl ⟨by congr 2<;>(have:=K1.o;have:=K2.o;have:=f8.o;have:=f7.o;omega),(h5.setCell zS _).setCell zS _⟩;obtain⟨m,F⟩:=h2.get2;simp[results,results131,go_sem,m,F,av]
theorem uf(B:Nat)(x:Mdl)(w:World)(c:List Value)(N:RM w B x c)(k:B<=w.heap.size)(z:ar x<=1000000000):
 Calls Tryz.prog 88 #[.agg c.toArray] w λe a4=>e=.returned (av (ar x) (bH x))/\Ext w a4:=by
 obtain⟨a1,a2,a3,rfl,p,m,l⟩:=N;have b3:1+aa au x.params+aa aJ x.ports+aa aj x.items<=1000000000:=z;have h:=eW x.params;have b1:=gJ x.ports;have b2:=fP x.items;have R:=Hd (λa (b:a∈x.params)=>ay au x.params a b);have S:=Hd (λa (b:a∈x.ports)=>ay aJ x.ports a b);have T:=Hd (λa (b:a∈x.items)=>ay aj x.items a b);rw[show ar x=1+(aa au x.params+aa aJ x.ports+aa aj x.items) by unfold ar;omega,show bH x=1+max (max (ai bz x.params) (ai cM x.ports)) (ai aY x.items) from rfl];have K:=Hd p;have J:=Hd m;have I:=Hd l;have b4:=p.oneCell;have b5:=m.oneCell;have b6:=l.oneCell;generalize x.name=nm at*;generalize x.params=yp at*;generalize x.ports=yo at*;generalize x.items=yi at*;clear z p m l
 go_in
 go_wp2_with fail
 obtain⟨L,q,U,O⟩:=bK w (.string nm) a1 a2 a3 30;rw[<-q];have X:=eA q;clear q;obtain⟨d,r,A,y⟩:=dd L (.int .i64 0) (.int .i64 0) 141;rw[<-r];have Y:=eA r;clear r;rw[X] at y Y;have i:=U.trans A;have P:=O.ext A;have M:B<=d.heap.size:=by omega
 obtain⟨a5,a6,a7,a8⟩:=P.later4;have j:=λe:Later d=>ad M e.ext.size
 go_wp2_with fail
 have D:=Hd (λe:Later d=>mw _ lZ au bz B yp (λa b w c f g=>nb B a w c f g (by have:=R.o a b;omega)) _ _ (K.o.extRB (i.trans e.ext) k) (j _) zO du);have E:=Hd (λe:Later d=>AE _ zR aJ cM B yo (λa b w c f g=>ug B a w c f g (by have:=S.o a b;omega)) _ _ (J.o.extRP (i.trans e.ext) k) (j _) zO gQ);have F:=Hd (λe:Later d=>mx _ ma aj aY B yi (λa b w c f g=>ue B a w c f g (by have:=T.o a b;omega)) _ _ (I.o.extRI (i.trans e.ext) k) (j _) zO cQ);refine fc (W:=d) zK rfl zK zK (af _) ?_;dsimp only[List.dropLast]
 repeat (go_big_quiet_step (first
  |(go_at_call 126;exact aP (D.o _))
  |(go_at_call 128;exact aP (E.o _))
  |(go_at_call 130;exact aP (F.o _))
  |(go_at_call 125;refine aP (eC _ _ _ _ _ ?_ ?_)<;>omega)
  |(go_at_call 132;refine aP (hD _ _ _ ?_ ?_)<;>omega)))
 refine wpQuiet_nil ?_;intro e;unfold av;obtain⟨C,t⟩:∃n,n=1+(aa au yp+aa aJ yo+aa aj yi):=⟨_,rfl⟩;obtain⟨u,h⟩:∃n,n=1+max (ai bz yp) (max (ai cM yo) (ai aY yi)):=⟨_,rfl⟩;rw[<-t,<-h];have G:=Hd t;have H:=Hd h;clear t h;have V:=i.trans e.ext;have s:=y.ext e.ext;have Q:=s.store2 (.int .i64 C) (.int .i64 u);obtain⟨b7,b8⟩:=s.get2;obtain⟨a9,b0⟩:=s.free2;go_wp2_with fail
 refine bodyPost_ret (v:=av C u) ?_ rfl ⟨by congr 2<;>(have:=G.o;have:=H.o;omega),(V.setCell zS _).setCell zS _⟩;obtain⟨Z,a0⟩:=Q.get2;simp[results,results88,go_sem,Z,a0,av]
