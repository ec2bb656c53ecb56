import Derived.Test.YtlfmlodanoolhaaGreatDoorY50
set_option linter.all false
set_option maxRecDepth 200000
set_option maxHeartbeats 32000000
namespace Go.Proofs.YtlfmlodanoolhaaGreatDoor
open Go Go.RowKit Go.Proofs.Tryz
theorem sN{t a:Itm}(h:a∈t.l):ai a<=ai t:=by
 have b:=bB t;have c:=aD ai t.l a h;omega
theorem wg{t a:Itm}(h:a∈t.els):ai a<=ai t:=by
 have b:=bB t;have c:=aD ai t.els a h;omega
theorem xq(f:World)(B N0 mb:Nat)(n:Option Addr)(o:Nat)(fl:List Mdl)(v:Sl (RM f B) f B 4 fl (.slice n fl.length o))(w:fl.length<=1000000)
 (y:∀j,j∈fl->VM j/\dk j/\ay j<=65536):∀(k:Nat) (l:List Itm),RkM fl k (bJ l)->(∀a,a∈l->VI a/\MayI a/\ai a<=65536)->fh f B N0 mb (.slice n fl.length o) (cz fl k) k l:=by
 intro k;induction k with
 |zero=>
  intro l m h;refine jj f B N0 mb _ _ 0 l (λa g=>pc f B N0 mb _ _ (iJ fl 0) 0 (λa=>RkM fl 0 (ofI a)) (λa e b c=>b.sub λs d=>ofI_mem.2 (.inr (.inl (ofIs_mem.2 ⟨e,c,d⟩)))) (λa e b c=>b.sub λs d=>ofI_mem.2 (.inr (.inr (ofIs_mem.2 ⟨e,c,d⟩)))) (λa b _ _ i=>absurd (ofI_mem.2 (.inl ⟨i,rfl⟩)) (b a.of)) a (m.sub λs d=>ofIs_mem.2 ⟨a,g,d⟩) (h a g).1 (h a g).2.1)
 |succ k ih=>
  intro l m h;refine jj f B N0 mb _ _ (k+1) l (λa g=>pc f B N0 mb _ _ (iJ fl (k+1)) (k+1) (λa=>RkM fl (k+1) (ofI a)/\ai a<=65536) (λa e b c=>⟨b.1.sub λs d=>ofI_mem.2 (.inr (.inl (ofIs_mem.2 ⟨e,c,d⟩))),ad (sN c) b.2⟩) (λa e b c=>⟨b.1.sub λs d=>ofI_mem.2 (.inr (.inr (ofIs_mem.2 ⟨e,c,d⟩))),ad (wg c) b.2⟩) (λa b z x i=>?_) a ⟨m.sub λs d=>ofIs_mem.2 ⟨a,g,d⟩,(h a g).2.2⟩ (h a g).1 (h a g).2.1);obtain⟨of,p,u⟩:=b.1 a.of (ofI_mem.2 (.inl ⟨i,rfl⟩));obtain⟨q,r,t⟩:=y of (mt p).1;exact tG f B N0 mb n o fl k a of p q r t z x i v w b.2 (ih of.items u λe c=>⟨q.2.2.2 e c,r.2.2.2 e c,by
   have:=aD ai of.items e c;unfold ay at t;omega⟩)
end Go.Proofs.YtlfmlodanoolhaaGreatDoor
namespace Go.Proofs.YtlfmlodanoolhaaGreatDoor
open Go Go.RowKit Go.Proofs.Tryz
attribute [local go_sem] bc
structure DsnV(w:World)(N0:Nat)(d:Dsn)(vs vp vc:Value):Prop where
 sig:OwnL RSg N0 57 4 d.sigs vs w
 prc:OwnL (RPc w) N0 70 2 d.procs vp w
 chk:OwnL (RCk w) N0 62 9 d.chks vc w
def ElR(fl:List Mdl)(b:ByteArray)(a:List (ByteArray×Int))(w:World)(e:Ending)(g:World):Prop:=
 ∃f d c,e=.returned (.tuple #[.agg #[f,d,c],.int .i64 (bv fl b a).2])/\DsnV g w.heap.size (bv fl b a).1 f d c/\Ext w g
theorem DsnV.none_(w:World)(N0:Nat):DsnV w N0 ⟨[],[],[]⟩ (.slice none 0 0) (.slice none 0 0) (.slice none 0 0):=⟨⟨[],World.ownsRow_nil _ _ _ _,Fl.nil⟩,⟨[],World.ownsRow_nil _ _ _ _,Fl.nil⟩,⟨[],World.ownsRow_nil _ _ _ _,Fl.nil⟩⟩
def hpK(j:Nat)(W:World)(b:List Value)(vals:List Value)(i:Nat)(v:Value)(w:World):Prop:=
 if i=j then∃a,v=.func (.func 68) #[] #[.pointer (some ⟨a,0,none⟩)]/\W.heap.size<=a/\Blk w a 30 b else v=vals.getD i undef
theorem rT{j:Nat}{W:World}{b vals:List Value}{i:Nat}{v:Value}{w c:World}(h:hpK j W b vals i v w)(k:Ext w c):hpK j W b vals i v c:=by
 unfold hpK at h⊢;split
 ·rename_i a;rw[if_pos a] at h;obtain⟨d,e,f,g⟩:=h;exact⟨d,e,f,g.ext k⟩
 ·rename_i a;rw[if_neg a] at h;exact h
theorem mf{of:Mdl}{p:ByteArray×Int}{l:List (ByteArray×Int)}{o:ByteArray->Option Int}(h:¬(o p.1=none/\∃a,a∈of.params/\a.name=p.1)):dz of (p::l) o=.error 82:=by
 rw[dz];unfold aR;rw[if_neg h];rfl
theorem mg{of:Mdl}{p:ByteArray×Int}{l:List (ByteArray×Int)}{o:ByteArray->Option Int}(h:o p.1=none/\∃a,a∈of.params/\a.name=p.1)(h2:¬(0<=p.2/\p.2<=2147483647)):dz of (p::l) o=.error 62:=by
 rw[dz];unfold aR;rw[if_pos h];simp only[bind,Except.bind];rw[if_neg h2]
theorem wv{of:Mdl}{p:ByteArray×Int}{l:List (ByteArray×Int)}{o:ByteArray->Option Int}(h:o p.1=none/\∃a,a∈of.params/\a.name=p.1)(h2:0<=p.2/\p.2<=2147483647):dz of (p::l) o=dz of l (av o p.1 p.2):=by
 rw[dz];unfold aR;rw[if_pos h];simp only[bind,Except.bind];rw[if_pos h2]
theorem DsnV.keep{w i:World}{N0 mb:Nat}{n l k j:Value}{m:Mk}(h:MkI w N0 mb n l k j m)(e:∀a b,(b=57\/b=70\/b=62\/b=60\/b=73\/b=85)->Tag w a b->i.heap[a]? =w.heap[a]?):DsnV i N0 m.d l k j:=by
 have kp:Kp w i:=λg c=>by
  rcases c with c|c|c
  ·exact e g _ (.inr (.inr (.inr (.inl rfl)))) c
  ·exact e g _ (.inr (.inr (.inr (.inr (.inl rfl))))) c
  ·exact e g _ (.inr (.inr (.inr (.inr (.inr rfl))))) c
 exact⟨h.sig.chg (λa _ f=>e a _ (.inl rfl) f) (λ_ _ h=>h),h.prc.chg (λa _ f=>e a _ (.inr (.inl rfl)) f) (RPc.keep kp),h.chk.chg (λa _ f=>e a _ (.inr (.inr (.inl rfl))) f) (RCk.keep kp)⟩
theorem gP{fl:List Mdl}{b:ByteArray}{a:List (ByteArray×Int)}{w e:World}{c:Int}(h:cc fl b a=.error c)(f:Ext w e):ElR fl b a w (.returned (.tuple #[.agg #[.slice none 0 0,.slice none 0 0,.slice none 0 0],.int .i64 c])) e:=by
 have d:bv fl b a=(⟨[],[],[]⟩,c):=by unfold bv;rw[h]
 exact⟨_,_,_,by rw[d],by rw[d];exact DsnV.none_ _ _,f⟩
theorem yE{R:Ending->World->Prop}{tmps:Array Value}{a b:Nat}{u0 u1 u2:Value}{c:Int}{w:World}(g:tmps[6]? =some (.pointer (some ⟨a,0,none⟩)))(i:tmps[7]? =some (.pointer (some ⟨b,0,none⟩)))
 (j:Blk w a 50 [u0,u1,u2]) (k:Blk w b 51 [.int .i64 c]) (h:R (.returned (.tuple #[.agg #[u0,u1,u2],.int .i64 c])) w):
 Leaves Tryz.prog Tryz.f15 tmps R [{target:=.fn (.func 34) #[.pointer (some ⟨a,0,none⟩),.pointer (some ⟨b,0,none⟩)],args:=#[]}] .returning w:=by
 refine leaves_cons (f:=34) (args:=#[.pointer (some ⟨a,0,none⟩),.pointer (some ⟨b,0,none⟩)]) zS (by simp[go_sem]) ?_;obtain⟨l,m,n⟩:=j.get3;have d:=k.cell 0;simp only[List.getElem?_cons_zero] at d;refine(uN a b w).mono ?_;rintro e o p ⟨rfl,rfl,rfl⟩;simp[Leaves,settle,results,results15,go_sem,g,i,l,m,n,d,h]
theorem gK{R:Ending->World->Prop}{tmps:Array Value}{a b:Nat}{u0 u1 u2:Value}{g c:Int}{w:World}(k:tmps[6]? =some (.pointer (some ⟨a,0,none⟩)))(l:tmps[7]? =some (.pointer (some ⟨b,0,none⟩)))
 (n:Blk w a 50 [u0,u1,u2]) (p:Blk w b 51 [.int .i64 g]) (h:∀d,Chg (λj=>j=a\/j=b) w d->R (.returned (.tuple #[.agg #[.slice none 0 0,.slice none 0 0,.slice none 0 0],.int .i64 c])) d):
 Leaves Tryz.prog Tryz.f15 tmps R [{target:=.fn (.func 34) #[.pointer (some ⟨a,0,none⟩),.pointer (some ⟨b,0,none⟩)],args:=#[]}] (.panicking (aN c)) w:=by
 refine leaves_cons (f:=34) (args:=#[.pointer (some ⟨a,0,none⟩),.pointer (some ⟨b,0,none⟩)]) zS (by simp[go_sem]) ?_;refine(wV a b u0 u1 u2 g c w n p).mono ?_;rintro e v d ⟨rfl,rfl,o,q,m⟩;obtain⟨s,t,u⟩:=o.get3;have i:=q.cell 0;simp only[List.getElem?_cons_zero] at i;have r:=h d m;simp[Leaves,settle,results,results15,go_sem,k,l,s,t,u,i,r]
theorem ti(B:Nat)(fl:List Mdl)(e6:Option Addr)(e7:Nat)(u:ByteArray)(j:List (ByteArray×Int))(A2:Option Addr)(A3:Nat)(w:World)(a6:Tabs w)(z9:TabP w)(n0:Sl (RM w B) w B 4 fl (.slice e6 fl.length e7))(x8:Sl RNm w B 2 j (.slice A2 j.length A3))(c4:B<=w.heap.size)
 (f9:ab ay fl<=10000000) (o4:∀g5,g5∈fl->VM g5) (K8:j.length<=1000000):
 Calls Tryz.prog 15 #[.agg #[.slice e6 fl.length e7],.string u,.slice A2 j.length A3] w (ElR fl u j w):=by
 have w6:=Hd n0;have C4:=Hd x8;have K7:fl.length<=10000000:=by have:=aw ay fl jr;omega
 obtain⟨c,j7,A0,f6⟩:=aJ w (.slice e6 fl.length e7) 24;obtain⟨k,y4,k5,n2⟩:=fk c (.slice none 0 0) (.slice none 0 0) (.slice none 0 0) 50;obtain⟨m4,y5,g1,n3⟩:=aJ k (.int .i64 0) 51;have E5:=j7.symm;have E6:=y4.symm;have E7:=y5.symm;have L6:w.heap.size<c.heap.size:=f6.lt;have M0:c.heap.size<k.heap.size:=n2.lt;have M1:k.heap.size<m4.heap.size:=n3.lt;have j2:=Hd (A0.trans (k5.trans g1));have B0:=Hd (f6.ext (k5.trans g1));have A6:=Hd (n2.ext g1);have A8:=Hd n3;have i4:=(f6.ext (k5.trans g1)).cell 0;simp only[List.getElem?_cons_zero] at i4;have w9:=Hd (wT B fl m4 _ (a6.ext j2.o) (n0.extRM j2.o c4) (ad c4 j2.o.size) f9 o4);have D1:=Hd z9;have D8:=Hd g1;have D0:=Hd a6;have w7:=Hd o4;clear j7 y4 y5 A0 k5 g1 f6 n2 n3 n0 x8 a6 z9 o4;have K9:=@hmf_ Tryz.prog;have L0:=@run_makeMap Tryz.prog
 go_enter_defers func15,ntmps15
 go_wp2_with fail
 go_at_call 32;refine w9.o.mono ?_;rintro _ A4 ⟨rfl,d3⟩;have k9:=Hd (A8.o.ext d3);obtain⟨a9,d9⟩:=an (k9.o.cell 0) (k9.o.frozen 0);simp only[List.getElem?_cons_zero] at a9;obtain⟨F,f5⟩:∃F,F=A4.setCell ⟨k.heap.size,0,none⟩ (.int .i64 (da fl)):=⟨_,rfl⟩;have y1:=f5.symm;have n4:Blk F k.heap.size 51 [.int .i64 (da fl)]:=by rw[f5];exact k9.o.store1 _
 have G7:Ext k F:=by rw[f5];exact Ext.setCell (D8.o.trans d3) (ac _) _
 have k2:Chg (λf=>f=k.heap.size) A4 F:=by rw[f5];exact dt _ _ _ _
 have g8:=Hd (show Ext w F by rw[f5];exact(j2.o.trans d3).setCell (p:=⟨k.heap.size,0,none⟩) (by show w.heap.size<=k.heap.size;omega) _);have v6:=Hd (k2.blk (A6.o.ext d3) zO);have v9:=Hd (k2.blk (B0.o.ext d3) zO);have i9:=Hd n4;have M2:m4.heap.size<=F.heap.size:=ad d3.size k2.size;obtain⟨J9,K4⟩:∃U,U=c.heap.size:=⟨_,rfl⟩;obtain⟨K0,K5⟩:∃U,U=k.heap.size:=⟨_,rfl⟩;have i7:=n4.cell 0;simp only[List.getElem?_cons_zero] at i7;obtain⟨b7,k3⟩:∃b6,b6=da fl:=⟨_,rfl⟩;rw[<-k3] at y1 i7 i9;rw[<-k3];have f0:=Hd k3;clear f5 n4 G7 k2 d3 w9 k3 i4;by_cases A:b7=0
 ·subst A;have s:=oS B fl u F (.slice e6 fl.length e7) (w6.o.extRM g8.o c4) (ad c4 g8.o.size) zO;have x0:=Hd s;clear s;have i4:=v9.o.cell 0;simp only[List.getElem?_cons_zero] at i4;go_wp2_with fail
  go_at_call 33;refine x0.o.mono ?_;rintro _ b1 ⟨J8,b4,c3,b5,rfl,z8,d4⟩;have C9:=Hd z8;obtain⟨I8,I9,J0,h2,F8,F9,G0⟩:=z8;simp only[List.cons.injEq,and_true] at h2;obtain⟨rfl,rfl,rfl,rfl⟩:=h2;have H4:=F8.oneCell;have H5:=F9.oneCell;have H6:=G0.oneCell;obtain⟨D6,y6,A1,k1⟩:=bH b1 (.string ⟨#[]⟩) (.slice none 0 0) (.slice none 0 0) (.slice none 0 0) 30;have F0:=y6.symm;obtain⟨c6,c7,c8,i2⟩:=k1.get4;obtain⟨t2,t3,t4,H0⟩:=k1.free4;have C2:=Hd (rfl:((bU fl u).getD jy).name=((bU fl u).getD jy).name);obtain⟨a2,o1⟩:∃a2,a2=((bU fl u).getD jy).name:=⟨_,rfl⟩;rw[<-o1];have C3:=Hd o1;obtain⟨G,j8⟩:∃G,G=((((D6.setCell ⟨b1.heap.size,0,none⟩ (.string a2)).setCell ⟨b1.heap.size,1,none⟩ b4).setCell ⟨b1.heap.size,2,none⟩ c3).setCell ⟨b1.heap.size,3,none⟩ b5):=⟨_,rfl⟩;have E8:=j8.symm;have n5:Blk G b1.heap.size 30 [.string a2,b4,c3,b5]:=by rw[j8];exact k1.store4 _ _ _ _
  have h8:Ext b1 G:=by rw[j8];exact((((A1).setCell (ac _) _).setCell (ac _) _).setCell (ac _) _).setCell (ac _) _
  have x5:=Hd (g8.o.trans (d4.trans h8));have D2:=Hd (g8.o.trans d4);have i8:=Hd (v6.o.ext (d4.trans h8));have j0:=Hd (i9.o.ext (d4.trans h8));have B1:=Hd (v9.o.ext (d4.trans h8));have B5:=Hd n5;have M3:F.heap.size<=b1.heap.size:=d4.size;have M4:b1.heap.size<G.heap.size:=n5.lt;clear j8 h8 n5 A1 k1 y6 d4 x0 o1 C2;obtain⟨d7,o5,o6⟩:=i8.o.get3;obtain⟨i1,o7,G8⟩:=i8.o.free3;have i0:=j0.o.cell 0;simp only[List.getElem?_cons_zero] at i0;have G9:=j0.o.frozen 0;cases hfd:bU fl u with
  |none=>
   have d0:=Hd (show bv fl u j=(⟨[],[],[]⟩,71) by unfold bv cc;rw[if_neg (by rw[<-f0.o];decide),hfd]);have X:c.heap.size≠k.heap.size:=by omega
   obtain⟨J,a7⟩:∃J,J=((((G.setCell ⟨c.heap.size,0,none⟩ (.slice none 0 0)).setCell ⟨c.heap.size,1,none⟩ (.slice none 0 0)).setCell ⟨c.heap.size,2,none⟩ (.slice none 0 0)).setCell ⟨k.heap.size,0,none⟩ (.int .i64 71)):=⟨_,rfl⟩;have y2:=a7.symm;have y8:Blk J c.heap.size 50 [.slice none 0 0,.slice none 0 0,.slice none 0 0]:=by rw[a7];exact(i8.o.store3 _ _ _).far X _
   have z1:Blk J k.heap.size 51 [.int .i64 71]:=by rw[a7];exact(((j0.o.far (p:=⟨c.heap.size,0,none⟩) (λe=>X e.symm) _).far (p:=⟨c.heap.size,1,none⟩) (λe=>X e.symm) _).far (p:=⟨c.heap.size,2,none⟩) (λe=>X e.symm) _).store1 _
   have c1:Ext w J:=by rw[a7];exact(((x5.o.setCell (p:=⟨c.heap.size,0,none⟩) (by show w.heap.size<=c.heap.size;omega) _).setCell (p:=⟨c.heap.size,1,none⟩) (by show w.heap.size<=c.heap.size;omega) _).setCell (p:=⟨c.heap.size,2,none⟩) (by show w.heap.size<=c.heap.size;omega) _).setCell (p:=⟨k.heap.size,0,none⟩) (by show w.heap.size<=k.heap.size;omega) _
   obtain⟨J2,J3,J4⟩:=y8.get3;have A5:=z1.cell 0;simp only[List.getElem?_cons_zero] at A5;have g6:=Hd (show ElR fl u j w (.returned (.tuple #[.agg #[.slice none 0 0,.slice none 0 0,.slice none 0 0],.int .i64 71])) J from⟨_,_,_,by rw[d0.o],by rw[d0.o];exact DsnV.none_ _ _,c1⟩);clear y8 z1 c1 a7;go_wp2_with fail
   simp[bodyPostD,Leaves,settle,results,results15,go_sem,J2,J3,J4,A5];exact g6.o
  |some of=>
   have J6:=Hd hfd;have w5:=Hd (show RM w B of [.string a2,b4,c3,b5] from by
    have a:=C9.o;rw[hfd] at a;exact RM.keep (λR P=>(D2.o.cell zO).symm) (ac _) _ _ (by rw[C3.o,hfd];exact a))
   obtain⟨I8,I9,J0,h2,o3,G2,z7⟩:=w5.o;simp only[List.cons.injEq,and_true] at h2;obtain⟨F4,rfl,rfl,rfl⟩:=h2;have C6:=Hd o3;have C7:=Hd z7;have h7:=(mt hfd).1;have G4:ay of<=10000000:=ad (aD ay fl of h7) f9;obtain⟨J,a7⟩:∃J,J=G.alloc (.map #[] 0):=⟨_,rfl⟩;have y2:=a7.symm;have c1:Ext G J:=by rw[a7];exact ax _ _
   have l7:=Hd (show EnvM J G.heap.size (λ_=>none) by rw[a7];exact EnvM.new _);have D9:=Hd (x5.o.trans c1);have A7:=Hd (i8.o.ext c1);have A9:=Hd (j0.o.ext c1);have B2:=Hd (B1.o.ext c1);have B6:=Hd (B5.o.ext c1);have M5:G.heap.size<J.heap.size:=l7.o.lt
   obtain⟨f2,m9⟩:∃f2:(ByteArray->Option Int)->Rs Dsn,f2=λaB=>(do
    let a<-eF of aB ⟨#[]⟩ (λR=>if R.o=true then 2 else 1) noMk
    let z<-aY (cz fl fl.length) of.items a.1 a.2
    return z.2.d):=⟨_,rfl⟩
   have l9:=Hd m9;obtain⟨f1,b9⟩:∃f1,f1=cc fl u j:=⟨_,rfl⟩;have c9:=Hd b9;have w8:=Hd (show f1=(do let aB<-dz of (j.drop 0) (λ_=>none);f2 aB) by rw[b9];unfold cc;rw[if_neg (by rw[<-f0.o];decide),hfd,m9];rfl);have X:c.heap.size≠k.heap.size:=by omega
   clear a7 c1 o3 G2 z7 m9 b9 hfd F4;go_wp2_with fail
   go_loopw [36] (λd6 wr=>∃(f:Nat) (o:ByteArray->Option Int),f<=j.length/\d6=.int .i64 f/\EnvM wr G.heap.size o/\(∀i5 v,o i5=some v->bF v)/\Chg (λf=>f=G.heap.size) J wr/\f1=(do let aB<-dz of (j.drop f) o;f2 aB)) (λd6 _=>j.length - (intOf d6).toNat)
   case atStart=>exact⟨0,λ_=>none,aO _,rfl,l7.o,(λ_ _ a=>by cases a),aV _ _,w8.o⟩
   case round=>
    obtain⟨f,o,i,rfl,c5,n9,f7,b9⟩:=hrel;clear w8 y2 E8 F0 y1 E7 E6 E5 d7 o5 o6 i1 o7 G8 i0 G9 i4 c6 c7 c8 i2 t2 t3 t4 H0 a9 d9 i7;have w3:=Hd c5;have w2:=Hd n9;have B9:=Hd f7;have g2:Ext w wr:=f7.ext D9.o (λf i=>by have:f=G.heap.size:=i;omega);have m1:=Hd g2;have a8:=iP l7.o f7;have k7:=Hd (A7.o.tags a8);have l0:=Hd (A9.o.tags a8);have B3:=Hd (B2.o.tags a8);have l1:=Hd (B6.o.tags a8);have M6:J.heap.size<=wr.heap.size:=f7.size;by_cases z4:f<j.length
    ·rw[List.drop_eq_getElem_cons z4] at b9;have b2:=Hd b9;obtain⟨L4,L5,o2,G1,z6⟩:=C4.o;injection o2 with E2 E3 E4;subst E2;obtain⟨U,L3,N2,N3,rfl,K3,x9,x6,F6,F7⟩:=z6.open2 z4;simp only[RNm,List.cons.injEq,and_true] at x9;obtain⟨rfl,rfl⟩:=x9;obtain⟨E0,E1⟩:=(x6.ext g2).get2;obtain⟨f3,y0,h9,h0⟩:=cM wr (.string j[f].1) (.int .i64 j[f].2) 85;have j7:=y0.symm;obtain⟨H9,I0⟩:=h0.later2;have t5:=h0.get2;obtain⟨t5,H1⟩:=t5;have h6:=(c5.ext h9).look j[f].1;have w1:=Hd h0;have b3:=Hd h9;have M7:wr.heap.size<f3.heap.size:=h0.lt;have m3:=Hd (λg=>dS 82 g);have x2:=Hd (λg=>ed 82 zD g);have D5:=Hd (λg=>dS 62 g);have x3:=Hd (λg=>ed 62 zD g);generalize j[f]=q at*;obtain⟨b0,a3⟩:=q;simp only at H9 I0 t5 H1 E0 E1 h6 j7 w1;have o3:=Hd (show∀e:Later f3,e.w.cell? ⟨b1.heap.size,0,none⟩=some (.string a2) from λe=>((l1.o.ext h9).ext e.ext).cell 0);obtain⟨j3,j4,j5,j6⟩:=(l1.o.ext h9).later4;clear x6 y0 h9 h0 c5 n9 f7 b9 a8 G1 z6 g2 E3 E4 F6 F7;cases ho:o b0 with
     |some z=>
      rw[ho] at h6;simp only[Option.getD_some,Option.isSome_some] at h6;have Y:=Hd (show cc fl u j=.error 82 by rw[<-c9.o,b2.o,mf (λa=>by rw[ho] at a;cases a.1)];rfl);clear ho;go_wp2_with fail
      refine bT 9 (W:=f3) (Ext) (eqG [.bool true,.bool false,.bool false,undef,undef,undef,undef,undef,.bool false]) (λ_ _=>False) (λd6=>match d6 with|3|4|5|6|7=>false|_=>true) zK (bG) zK zK ?_ (ah _) (λd6 v w g a E=>eU a E) ?_ (λH m6 w h P=>P.elim) ?_
      ·exact⟨rfl,rfl,rfl,(λv w a e=>by have V:=e.symm.trans a;cases V),(λv w a e=>by have V:=e.symm.trans a;cases V),(λv w a e=>by have V:=e.symm.trans a;cases V),(λv w a e=>by have V:=e.symm.trans a;cases V),(λv w a e=>by have V:=e.symm.trans a;cases V),rfl,trivial⟩
      ·refine⟨?_,?_,?_,λw=>rfl,λw=>rfl,λw=>rfl,λw=>rfl,λw=>rfl,?_,trivial⟩
       all_goals
        intro H C N h l;obtain⟨y,rfl⟩:=ae N;try (have a9:=aa h 0 47 zD rfl;simp[eqG] at a9)
        try (have d9:=aa h 1 48 zD rfl;simp[eqG] at d9)
        try (have i6:=aa h 2 49 zD rfl;simp[eqG] at i6)
        try (have t7:=aa h 7 54 zD rfl;simp[eqG] at t7)
        have t8:=ag l 14 zK;simp at t8;clear h l;exact zA
      ·intro H C i;obtain⟨b8,rfl,N,a1,b⟩:=i.fin (n:=89) rfl;obtain⟨y,rfl⟩:=ae N;have L:=b 6 zK;have M:=b 7 zK;have i3:b8 55=.bool false:=a1 8 55 rfl rfl;clear a1 b;simp at L M;simp only[List.drop_succ_cons,List.drop_zero];simp[List.range,List.range.loop,L,M,i3];clear L M i3;go_wp2_with fail
       go_at_call 35;refine(x2.o _).mono ?_;rintro _ e9 ⟨rfl,rfl⟩;have d5:=Hd (m1.o.trans (b3.o.trans y.ext));have F2:=Hd (k7.o.ext (b3.o.trans y.ext));have f8:=Hd (l0.o.ext (b3.o.trans y.ext));go_wp2_with fail
       refine gK rfl rfl F2.o f8.o (λe8 A=>gP Y.o ?_);exact A.ext d5.o (λf i=>by rcases i with i|i<;>omega)
     |none=>
      rw[ho] at h6;simp only[Option.getD_none,Option.isSome_none] at h6;have l8:=Hd ho;have j1:=Hd (λg=>nu (.string a2) b4 c3 b5 rfl H4 H5 H6 g);obtain⟨d8,z3⟩:∃d8,d8=yes (∃x,x∈of.params/\x.name=b0):=⟨_,rfl⟩;have l5:=Hd z3;have D3:=Hd (show∀(a0:Nat) (g:World),Blk g a0 30 [.string a2,b4,c3,b5]->Ext f3 g->Calls Tryz.prog 68 #[.string b0,.pointer (some ⟨a0,0,none⟩)] g λe e8=>e=.returned (.bool d8)/\Ext g e8 from λa0 g t E=>by
       have N:=(m1.o.trans b3.o).trans E;rw[l5.o];exact lS B of.params b4 b0 a0 g (t.cell 1) (C6.o.extRB N c4) (ad c4 N.size) (by have:=aw az of.params dH;unfold ay at G4;omega) t.lt)
      clear ho z3;go_wp2_with fail
      refine bT 9 (W:=f3) (Ext) (hpK 4 f3 [.string a2,b4,c3,b5] [.bool false,.bool true,.bool true,.agg #[.string a2,b4,c3,b5],undef,.pointer (some ⟨wr.heap.size,0,none⟩),.string b0,.bool d8,.bool d8]) (λ_ _=>False) (λ_=>true) zK (bG) zK zK ?_ (ah _) (λd6 v w g a E=>rT a E) ?_ (λH m6 w h P=>P.elim) ?_
      ·exact⟨rfl,rfl,rfl,(λv w a=>a),(λv w a=>a),(λv w a=>a),(λv w a=>a),(λv w a=>a),rfl,trivial⟩
      ·refine⟨?_,?_,?_,?_,?_,?_,?_,?_,?_,trivial⟩;rotate_left 4
       ·intro H C N h l;obtain⟨y,rfl⟩:=ae N;have t6:=aa h 3 50 zK rfl;simp[hpK] at t6;clear h l;go_simp;refine(j1.o y.w).mono ?_;rintro _ J1 ⟨rfl,y9,E⟩;have l2:=Hd y9;have m2:=Hd y.ext.size;clear y9;go_simp;first|exact⟨_,rfl,E,_,rfl,m2.o,l2.o⟩|exact⟨E,_,rfl,m2.o,l2.o⟩|exact⟨_,rfl,_,rfl,m2.o,l2.o⟩
       rotate_left 2
       ·intro H C N h l;obtain⟨y,rfl⟩:=ae N;obtain⟨a0,I1,K6,z0⟩:=aa h 4 51 zK rfl;simp at I1;have B7:=Hd z0;clear z0;have I3:=aa h 6 53 zK rfl;simp[hpK] at I3;clear h l;go_simp;refine(D3.o a0 y.w B7.o y.ext).mono ?_;rintro _ J1 ⟨rfl,E⟩;go_simp;first|exact⟨_,rfl,E,rfl⟩|exact⟨E,rfl⟩|exact⟨_,rfl,rfl⟩|exact E
       all_goals
        intro H C N h l;obtain⟨y,rfl⟩:=ae N;try (have i6:=aa h 2 49 zD rfl;simp[hpK] at i6)
        try (have t7:=aa h 7 54 zD rfl;simp[hpK] at t7)
        try (have a9:=aa h 0 47 zD rfl;simp[hpK] at a9)
        try (have d9:=aa h 1 48 zD rfl;simp[hpK] at d9)
        try (have I2:=aa h 5 52 zD rfl;simp[hpK] at I2)
        have t8:=ag l 14 zK;simp at t8;have I6:=ag l 8 zK;simp at I6;have I4:=ag l 12 zK;simp at I4;clear h l;exact zA
      ·intro H C i;obtain⟨b8,rfl,N,a1,b⟩:=i.fin (n:=89) rfl;obtain⟨y,rfl⟩:=ae N;have c6:=b 0 zK;have c7:=b 1 zK;have c8:=b 2 zK;have i2:=b 3 zK;have r2:=b 4 zK;have r3:=b 5 zK;have L:=b 6 zK;have M:=b 7 zK;have s2:=b 8 zK;have t1:=b 9 zK;have o8:=b 10 zK;have o9:=b 11 zK;have p1:=b 15 zK;have p2:=b 16 zK;have p3:=b 17 zK;have p4:=b 18 zK;have p5:=b 19 zK;have p6:=b 20 zK;have p7:=b 21 zK;have g3:=b 22 zK;have p8:=b 23 zK;have p9:=b 24 zK;have q0:=b 25 zK;have q1:=b 26 zK;have q2:=b 27 zK;have q3:=b 28 zK;have q4:=b 29 zK;have q5:=b 30 zK;have q6:=b 31 zK;have q7:=b 32 zK;have q8:=b 33 zK;have q9:=b 34 zK;have r0:=b 35 zK;have r1:=b 36 zK;have r4:=b 72 zK;have r5:=b 73 zK;have r6:=b 74 zK;have r7:=b 75 zK;have r8:=b 76 zK;have r9:=b 77 zK;have s0:=b 78 zK;have s1:=b 79 zK;have s3:=b 80 zK;have s4:=b 81 zK;have s5:=b 82 zK;have s6:=b 83 zK;have s7:=b 84 zK;have s8:=b 85 zK;have s9:=b 86 zK;have t0:=b 87 zK;have g4:=b 88 zK;have p0:=b 12 zK;have i3:b8 55=.bool d8:=a1 8 55 rfl rfl;clear a1 b;simp at c6 c7 c8 i2 r2 r3 L M s2 t1 o8 o9 p1 p2 p3 p4 p5 p6 p7 g3 p8 p9 q0 q1 q2 q3 q4 q5 q6 q7 q8 q9 r0 r1 r4 r5 r6 r7 r8 r9 s0 s1 s3 s4 s5 s6 s7 s8 s9 t0 g4 p0;simp only[List.drop_succ_cons,List.drop_zero];simp[List.range,List.range.loop,c6,c7,c8,i2,r2,r3,L,M,s2,t1,o8,o9,p1,p2,p3,p4,p5,p6,p7,g3,p8,p9,q0,q1,q2,q3,q4,q5,q6,q7,q8,q9,r0,r1,r4,r5,r6,r7,r8,r9,s0,s1,s3,s4,s5,s6,s7,s8,s9,t0,g4,p0,i3];clear c6 c7 c8 i2 r2 r3 L M s2 t1 o8 o9 p1 p2 p3 p4 p5 p6 p7 g3 p8 p9 q0 q1 q2 q3 q4 q5 q6 q7 q8 q9 r0 r1 r4 r5 r6 r7 r8 r9 s0 s1 s3 s4 s5 s6 s7 s8 s9 t0 g4 p0 i3;have m0:=Hd (m1.o.trans (b3.o.trans y.ext));have l3:=Hd (k7.o.ext (b3.o.trans y.ext));have l4:=Hd (l0.o.ext (b3.o.trans y.ext));cases d8 with
       |false=>
        have Y:=Hd (show cc fl u j=.error 82 by rw[<-c9.o,b2.o,mf (λa=>by have:=yes_no.1 l5.o.symm;exact this a.2)];rfl);go_wp2_with fail
        go_at_call 35;refine(x2.o _).mono ?_;rintro _ e9 ⟨rfl,rfl⟩;go_wp2_with fail
        refine gK rfl rfl l3.o l4.o (λe8 A=>gP Y.o ?_);exact A.ext m0.o (λf i=>by rcases i with i|i<;>omega)
       |true=>
        have l6:=Hd (show∃U,U∈of.params/\U.name=b0 from yes_iff.1 l5.o.symm);obtain⟨m7,K1⟩:=(w1.o.ext y.ext).get2;obtain⟨H7,G6,o0⟩:=(w3.o.ext (b3.o.trans y.ext)).put b0 a3;obtain⟨D,K⟩:∃D,D=aE y.w G.heap.size H7:=⟨_,rfl⟩;rw[<-K] at G6 o0;have C1:=Hd o0;have B8:=Hd (show Chg (λf=>f=G.heap.size) J D by rw[K];exact(B9.o.trans (b3.o.trans y.ext).chg).trans (pq _ _ _));clear K o0;by_cases f4:0<=a3
        ·by_cases g9:a3<=2147483647
         ·have y7:decide (0<=a3)=true:=decide_eq_true f4;have f6:decide (a3<=2147483647)=true:=decide_eq_true g9;have C8:=Hd (show f1=(do let aB<-dz of (j.drop (f+1)) (av o b0 a3);f2 aB) by rw[b2.o,wv ⟨l8.o,l6.o⟩ ⟨f4,g9⟩]);have C0:=Hd (show∀i5 v,av o b0 a3 i5=some v->bF v from λi5 v a=>by
           unfold av at a;split at a
           ·injection a with a;rw[<-a];exact⟨f4,g9⟩
           ·exact w2.o i5 v a)
          go_wp2_with fail
          go_at_call 35;refine(m3.o _).mono ?_;rintro _ e9 ⟨rfl,rfl⟩;go_wp2_with fail
          go_at_call 35;refine(D5.o _).mono ?_;rintro _ e9 ⟨rfl,rfl⟩;go_wp2_with fail
          go_roundw;case rel=>exact⟨f+1,av o b0 a3,zO,zN,C1.o,C0.o,B8.o,C8.o⟩
          case measure=>simp[intOf];omega
         ·have y7:decide (0<=a3)=true:=decide_eq_true f4;have f6:decide (a3<=2147483647)=false:=decide_eq_false g9;have Y:=Hd (show cc fl u j=.error 62 by rw[<-c9.o,b2.o,mg ⟨l8.o,l6.o⟩ (λa=>g9 a.2)];rfl);go_wp2_with fail
          go_at_call 35;refine(m3.o _).mono ?_;rintro _ e9 ⟨rfl,rfl⟩;go_wp2_with fail
          go_at_call 35;refine(x3.o _).mono ?_;rintro _ e9 ⟨rfl,rfl⟩;go_wp2_with fail
          refine gK rfl rfl l3.o l4.o (λe8 A=>gP Y.o ?_);exact A.ext m0.o (λf i=>by rcases i with i|i<;>omega)
        ·have y7:decide (0<=a3)=false:=decide_eq_false f4;have Y:=Hd (show cc fl u j=.error 62 by rw[<-c9.o,b2.o,mg ⟨l8.o,l6.o⟩ (λa=>f4 a.1)];rfl);go_wp2_with fail
         go_at_call 35;refine(m3.o _).mono ?_;rintro _ e9 ⟨rfl,rfl⟩;go_wp2_with fail
         go_at_call 35;refine(x3.o _).mono ?_;rintro _ e9 ⟨rfl,rfl⟩;go_wp2_with fail
         refine gK rfl rfl l3.o l4.o (λe8 A=>gP Y.o ?_);exact A.ext m0.o (λf i=>by rcases i with i|i<;>omega)
    ·have F3:f=j.length:=by omega
     subst F3;have b2:=Hd (show f1=f2 o by rw[b9,List.drop_length];rfl);have F1:=np f0.o.symm;have h1:=yC F1.1;have x7:=h1.2.2.2 of h7;have d2:ay of<=65536:=ad (aD ay fl of h7) h1.2.1;have n1:=w7.o of h7;obtain⟨c2,y3,g0,j9⟩:=aW wr (.slice e6 fl.length e7) (.slice none 0 0) (.slice none 0 0) (.slice none 0 0) (.int .i64 0) (.int .i64 0) 99;have K2:=y3.symm;have m5:=Hd (g2.trans g0);have J5:=Hd j9;have v3:=Hd (k7.o.ext g0);have v7:=Hd (l0.o.ext g0);have w0:=Hd (l1.o.ext g0);have L7:wr.heap.size<c2.heap.size:=j9.lt;have m7:=B3.o.cell 0;simp only[List.getElem?_cons_zero] at m7;obtain⟨j3,j4,j5,j6⟩:=w0.o.get4
     have j1:=Hd (oW w B w.heap.size wr.heap.size c2.heap.size c2.heap.size G.heap.size (.slice e6 fl.length e7) (.slice none 0 0) (.slice none 0 0) (.slice none 0 0) of [.string a2,b4,c3,b5] o ⟨#[]⟩ 38 qx (λR=>if R.o=true then 2 else 1) noMk c2
      ⟨D0.o,c4,m5.o⟩ D1.o ⟨j9,⟨[],World.ownsRow_nil _ _ _ _,Fl.nil⟩,⟨[],World.ownsRow_nil _ _ _ _,Fl.nil⟩,⟨[],World.ownsRow_nil _ _ _ _,Fl.nil⟩,g2.size⟩ ⟨zD,zD,zD,zD,zD,zD,zD⟩ (λa0 h5=>by cases h5) (ac _) (w3.o.ext g0) w2.o w5.o (λR g b6 E Q=>vF B R g b6 (Q.ext E c4))
      (λU t b6 A=>⟨A,by have m8:=aD az of.params U t;have V:az U=1+am U.x:=rfl;unfold ay at d2;omega,(n1.2.1 U t).2⟩)
      (λR P b6 A=>⟨A,by have m8:=aD bA of.ports R P;have V:bA R=1+am R.w:=rfl;unfold ay at d2;omega,(n1.2.2.1 R P).2⟩)
      (by have:=aw az of.params dH;unfold ay at d2;omega) (by have:=aw bA of.ports js;unfold ay at d2;omega) (λR P=>by have:=(x7.2.2.1 R P).1.2.1;omega) zD)
     clear b9 c5 n9 f7 a8 y3 g0 j9 g2;go_wp2_with fail
     go_at_call 37;refine j1.o.mono ?_;rintro e k6 (⟨k4,I7,Q,rfl,H2,H3,rfl,L1,L2,h3,s,z5,n8⟩|⟨b6,Q,rfl,s⟩);rotate_left
     ·have Y:=Hd (show cc fl u j=.error b6 by rw[<-c9.o,b2.o,l9.o];simp only[bind,Except.bind];rw[Q]);have h:=Hd (s.blk v3.o ⟨zD,zD,zD⟩ zO zO zO);have n7:=Hd (s.blk v7.o ⟨zD,zD,zD⟩ zO zO zO);have E:=Hd (s.ext m5.o (ac _) zO zO zO);clear s Q;go_wp2_with fail
      refine gK rfl rfl h.o n7.o (λe8 A=>gP Y.o ?_);exact A.ext E.o (λf i=>by rcases i with i|i<;>omega)
     have h4:FrQ w.heap.size wr.heap.size c2 k6:=s;have B4:=Hd (h4.blk w0.o ⟨zD,zD,zD⟩ zO);have v4:=Hd (h4.blk v3.o ⟨zD,zD,zD⟩ zO);have v8:=Hd (h4.blk v7.o ⟨zD,zD,zD⟩ zO);have x4:=Hd ((s c2.heap.size c2.heap.size).ext m5.o (ac _) zO zO zO);have L8:c2.heap.size<=k6.heap.size:=h4.size;have C5:=Hd (show k4.1.path.size+100*(fl.length*70000+ab ai of.items)<=1000000000 from by
      have m8:k4.1.path.size=0:=by rw[z5];rfl
      have V:=h1.1;unfold ay at d2;omega)
     have x1:=Hd (xq w B w.heap.size wr.heap.size e6 e7 fl w6.o zO (λg5 c5=>⟨w7.o g5 c5,h1.2.2.2 g5 c5,ad (aD ay fl g5 c5) h1.2.1⟩) fl.length of.items (sK f0.o.symm h7) (λv1 a8=>⟨n1.2.2.2 v1 a8,x7.2.2.2 v1 a8,by have:=aD ai of.items v1 a8;unfold ay at d2;omega⟩) H2 H3 k4.2 k4.1 k6 b5 h3
      (by have:=aw az of.params dH;unfold ay at d2;omega) C5.o C7.o)
     have w4:=Hd Q;clear Q s h4 h3 z5 n8 j1 j3 j4 j5 j6 m7;obtain⟨j3,j4,j5,j6⟩:=B4.o.get4;go_wp2_with fail
     go_at_call 39;refine x1.o.mono ?_;rintro e a4 (⟨r,I7,Q,rfl,G5,h3,s,n8,o2⟩|⟨b6,Q,rfl,s⟩);rotate_left
     ·have Y:=Hd (show cc fl u j=.error b6 by rw[<-c9.o,b2.o,l9.o];simp only[bind,Except.bind];rw[w4.o];simp only;rw[Q]);have h:=Hd (s.blk v4.o ⟨zD,zD,zD⟩ zO zO zO);have n7:=Hd (s.blk v8.o ⟨zD,zD,zD⟩ zO zO zO);have E:=Hd (s.ext x4.o (ac _) zO zO zO);clear s Q;go_wp2_with fail
      refine gK rfl rfl h.o n7.o (λe8 A=>gP Y.o ?_);exact A.ext E.o (λf i=>by rcases i with i|i<;>omega)
     subst G5;have d0:=Hd (show cc fl u j=.ok r.2.d by rw[<-c9.o,b2.o,l9.o];simp only[bind,Except.bind];rw[w4.o];simp only;rw[Q];rfl);obtain⟨N1,N0,M8,M9,z2,G3⟩:=h3.ex;have v5:=Hd (s.blk v4.o ⟨zD,zD,zD⟩ zO zO zO);have k8:=Hd (s.blk v8.o ⟨zD,zD,zD⟩ zO zO zO);have D7:=Hd (s.ext x4.o (ac _) zO zO zO);have g7:=Hd z2;have L9:k6.heap.size<=a4.heap.size:=s.size;clear Q h3 s n8 o2 z2 G3 x1 j3 j4 j5 j6;have F5:wr.heap.size≠c.heap.size:=by omega
     have H8:=g7.o.sig.form;obtain⟨e4,e5,rfl⟩:=H8;obtain⟨e2,e3,rfl⟩:=g7.o.prc.form;obtain⟨e0,e1,rfl⟩:=g7.o.chk.form;go_wp2_with fail
     refine eD 6 (eqS [5] [.pointer (some ⟨wr.heap.size,0,none⟩),.pointer (some ⟨wr.heap.size,0,none⟩),.pointer (some ⟨wr.heap.size,1,none⟩),.agg #[.slice e4 r.2.d.sigs.length e5,.slice e2 r.2.d.procs.length e3,.slice e0 r.2.d.chks.length e1],.int .i64 0,undef]) (chJ [(5,λa5 g=>Blk g c.heap.size 50 [.slice none 0 0,.slice none 0 0,.slice none 0 0]/\Chg (λf=>f=c.heap.size) a4 g)] (λa5 g=>Blk g c.heap.size 50 [.slice e4 r.2.d.sigs.length e5,.slice e2 r.2.d.procs.length e3,.slice e0 r.2.d.chks.length e1]/\Chg (λf=>f=c.heap.size) a4 g)) (λ_ _=>False) zK (λ_ _ _ _ a=>a) zK zK ?_ (gy _ ⟨v5.o,(aV _ a4).drew⟩) ?_ (λH m6 w h P=>P.elim) ?_
     ·simp[GuardsMet]
     ·refine⟨?_,?_,?_,?_,?_,?_,trivial⟩;rotate_left 5
      ·refine StepI.chain 0 rfl zK zK ?_;intro H C f9 m h l;have t6:=aa h 3 87 zK rfl;simp[eqS] at t6;have t9:=ag l 6 zK;simp at t9;replace m:Blk C c.heap.size 50 [.slice none 0 0,.slice none 0 0,.slice none 0 0]/\Chg (λf=>f=c.heap.size) a4 C:=m;obtain⟨t,O⟩:=m;obtain⟨c6,c7,c8⟩:=t.get3;obtain⟨t2,t3,t4⟩:=t.free3;have Z:=Hd (an (t.store3 (.slice e4 r.2.d.sigs.length e5) (.slice e2 r.2.d.procs.length e3) (.slice e0 r.2.d.chks.length e1)) (((O.setCell (p:=⟨c.heap.size,0,none⟩) rfl (.slice e4 r.2.d.sigs.length e5)).setCell (p:=⟨c.heap.size,1,none⟩) rfl (.slice e2 r.2.d.procs.length e3)).setCell (p:=⟨c.heap.size,2,none⟩) rfl (.slice e0 r.2.d.chks.length e1)));clear h l t O f9;go_simp;first|exact⟨undef,rfl,trivial,Z.o⟩|exact⟨trivial,Z.o⟩|exact Z.o|exact⟨undef,trivial,Z.o⟩|exact⟨⟨undef,trivial⟩,Z.o⟩
      all_goals
       refine StepI.plain (S:=[5]) (T:=[]) (I:=Chg (λf=>f=c.heap.size) a4) (fU (T:=[]) (λa5 v2 w a6 m=>m) _ ⟨λa5 v2 w a6 m=>m,trivial⟩) (λD4 a5 w a=>gS (I:=Chg (λf=>f=c.heap.size) a4) a (λ_ _ a=>a.2) ⟨λ_ _ a=>a.2,trivial⟩) zD zD ?_;intro H C d1 h l;try (have a9:=aa h 0 84 zD rfl;simp[eqS] at a9)
       try (have d9:=aa h 1 85 zD rfl;simp[eqS] at d9)
       try (have i6:=aa h 2 86 zD rfl;simp[eqS] at i6)
       have I5:=ag l 15 zK;simp at I5;have v0:=ag l 7 zK;simp at v0;obtain⟨N4,N5,N6,N7,N8,N9⟩:=(d1.blk g7.o.blk F5).get6;have d7:=(d1.blk k8.o (show¬k.heap.size=c.heap.size from λe=>X e.symm)).cell 0;try simp only[List.getElem?_cons_succ,List.getElem?_cons_zero] at d7
       clear h l d1;exact zB
     ·intro H C i;obtain⟨b8,rfl,a1,b,m⟩:=i.fin (n:=89) rfl;replace m:(λa5 g=>Blk g c.heap.size 50 [.slice e4 r.2.d.sigs.length e5,.slice e2 r.2.d.procs.length e3,.slice e0 r.2.d.chks.length e1]/\Chg (λf=>f=c.heap.size) a4 g) b8 C:=gb _ rfl m;have g4:b8 88=.int .i64 0:=a1 4 88 rfl rfl;have L:=b 6 zK;have M:=b 7 zK;simp at L M;clear a1 b;simp only[List.drop_succ_cons,List.drop_zero];simp[List.range,List.range.loop,g4,L,M];clear g4 L M;obtain⟨t,O⟩:=m;have c0:=O.blk k8.o (show¬k.heap.size=c.heap.size from λe=>X e.symm);have i1:=c0.cell 0;simp only[List.getElem?_cons_zero] at i1;have o7:=c0.frozen 0;obtain⟨D,K⟩:∃D,D=C.setCell ⟨k.heap.size,0,none⟩ (.int .i64 0):=⟨_,rfl⟩;have E9:=K.symm;have k0:=Hd (show Blk D c.heap.size 50 [.slice e4 r.2.d.sigs.length e5,.slice e2 r.2.d.procs.length e3,.slice e0 r.2.d.chks.length e1] by rw[K];exact t.far X _);have f8:=Hd (show Blk D k.heap.size 51 [.int .i64 0] by rw[K];exact c0.store1 (.int .i64 0));have n6:Chg (λf=>f=c.heap.size\/f=k.heap.size) a4 D:=by
       rw[K];exact(O.mono (λ_ _ a=>.inl a)).setCell (p:=⟨k.heap.size,0,none⟩) (.inr rfl) _
      have d5:Ext w D:=n6.ext D7.o (λf i=>by rcases i with i|i<;>omega);have g6:=Hd (show ElR fl u j w (.returned (.tuple #[.agg #[.slice e4 r.2.d.sigs.length e5,.slice e2 r.2.d.procs.length e3,.slice e0 r.2.d.chks.length e1],.int .i64 0])) D from by
       have h:bv fl u j=(r.2.d,0):=by unfold bv;rw[d0.o]
       refine⟨_,_,_,by rw[h],?_,d5⟩;rw[h];exact DsnV.keep g7.o (λa0 J7 a6 h5=>n6.block a0 h5.lt (λe=>by
        rcases e with e|e
        ·have:=h5.one (show Tag a4 a0 _ from e▸v5.o.tag);rcases a6 with rfl|rfl|rfl|rfl|rfl|rfl<;>exact absurd this zD
        ·have:=h5.one (show Tag a4 a0 _ from e▸k8.o.tag);rcases a6 with rfl|rfl|rfl|rfl|rfl|rfl<;>exact absurd this zD)))
      clear t O c0 K d5 n6;go_wp2_with fail
      exact yE rfl rfl k0.o f8.o g6.o
 ·have m8:(b7 !=0)=true:=bne_iff_ne.2 A;have d0:=Hd (show bv fl u j=(⟨[],[],[]⟩,b7) by unfold bv cc;rw[if_pos (by rw[<-f0.o];exact A),<-f0.o]);have X:c.heap.size≠k.heap.size:=by omega
  go_wp2_with fail
  refine eD 3 (eqS [2] [.agg #[.slice none 0 0,.slice none 0 0,.slice none 0 0],.int .i64 b7,undef]) (chJ [(2,λa5 g=>Blk g c.heap.size 50 [.slice none 0 0,.slice none 0 0,.slice none 0 0]/\Chg (λf=>f=c.heap.size) F g)] (λa5 g=>Blk g c.heap.size 50 [.slice none 0 0,.slice none 0 0,.slice none 0 0]/\Chg (λf=>f=c.heap.size) F g)) (λ_ _=>False) zK (λ_ _ _ _ a=>a) zK zK ?_ (gy _ ⟨v6.o,(aV _ F).drew⟩) ?_ (λH m6 w h P=>P.elim) ?_
  ·simp[GuardsMet]
  ·refine⟨?_,?_,?_,trivial⟩;rotate_left 2
   ·refine StepI.chain 0 rfl zK zK ?_;intro H C f9 m h l;have a9:=aa h 0 21 zK rfl;simp[eqS] at a9;have i7:=ag l 6 zK;simp at i7;replace m:Blk C c.heap.size 50 [.slice none 0 0,.slice none 0 0,.slice none 0 0]/\Chg (λf=>f=c.heap.size) F C:=m;obtain⟨t,O⟩:=m;obtain⟨c6,c7,c8⟩:=t.get3;obtain⟨t2,t3,t4⟩:=t.free3;have Z:=Hd (an (t.store3 (.slice none 0 0) (.slice none 0 0) (.slice none 0 0)) (((O.setCell (p:=⟨c.heap.size,0,none⟩) rfl (.slice none 0 0)).setCell (p:=⟨c.heap.size,1,none⟩) rfl (.slice none 0 0)).setCell (p:=⟨c.heap.size,2,none⟩) rfl (.slice none 0 0)));clear h l t O f9;go_simp;first|exact⟨undef,rfl,trivial,Z.o⟩|exact⟨trivial,Z.o⟩|exact Z.o|exact⟨undef,trivial,Z.o⟩|exact⟨⟨undef,trivial⟩,Z.o⟩
   all_goals
    refine StepI.plain (S:=[2]) (T:=[]) (I:=λg=>Blk g c.heap.size 50 [.slice none 0 0,.slice none 0 0,.slice none 0 0]/\Chg (λf=>f=c.heap.size) F g) (fU (T:=[]) (λa5 v2 w a6 m=>m) _ ⟨λa5 v2 w a6 m=>m,trivial⟩) (λD4 a5 w a=>gS (I:=λg=>Blk g c.heap.size 50 [.slice none 0 0,.slice none 0 0,.slice none 0 0]/\Chg (λf=>f=c.heap.size) F g) a (λ_ _ a=>a) ⟨λ_ _ a=>a,trivial⟩) zD zD ?_;intro H C d1 h l;have t9:=ag l 6 zK;simp at t9;have v0:=ag l 7 zK;simp at v0;obtain⟨c6,c7,c8⟩:=d1.1.get3;have d7:=(d1.2.blk i9.o (show¬k.heap.size=c.heap.size from λe=>X e.symm)).cell 0;try simp only[List.getElem?_cons_succ,List.getElem?_cons_zero] at d7
    clear h l d1;exact zB
  ·intro H C i;obtain⟨b8,rfl,a1,b,m⟩:=i.fin (n:=89) rfl;replace m:(λa5 g=>Blk g c.heap.size 50 [.slice none 0 0,.slice none 0 0,.slice none 0 0]/\Chg (λf=>f=c.heap.size) F g) b8 C:=gb _ rfl m;have g3:b8 22=.int .i64 b7:=a1 1 22 rfl rfl;have L:=b 6 zK;have M:=b 7 zK;simp at L M;clear a1 b;simp only[List.drop_succ_cons,List.drop_zero];simp[List.range,List.range.loop,g3,L,M];clear g3 L M;obtain⟨t,O⟩:=m;have c0:=O.blk i9.o (show¬k.heap.size=c.heap.size from λe=>X e.symm);have i1:=c0.cell 0;simp only[List.getElem?_cons_zero] at i1;have o7:=c0.frozen 0;obtain⟨D,K⟩:∃D,D=C.setCell ⟨k.heap.size,0,none⟩ (.int .i64 b7):=⟨_,rfl⟩;have E9:=K.symm;have k0:Blk D c.heap.size 50 [.slice none 0 0,.slice none 0 0,.slice none 0 0]:=by rw[K];exact t.far X _
   have f8:Blk D k.heap.size 51 [.int .i64 b7]:=by rw[K];exact c0.store1 (.int .i64 b7)
   obtain⟨d7,o5,o6⟩:=k0.get3;have i0:=f8.cell 0;simp only[List.getElem?_cons_zero] at i0;have d5:Ext w D:=by
    rw[K];exact(O.ext g8.o (λf i=>by have:f=c.heap.size:=i;omega)).setCell (p:=⟨k.heap.size,0,none⟩) (by show w.heap.size<=k.heap.size;omega) _
   have g6:=Hd (show ElR fl u j w (.returned (.tuple #[.agg #[.slice none 0 0,.slice none 0 0,.slice none 0 0],.int .i64 b7])) D from⟨_,_,_,by rw[d0.o],by rw[d0.o];exact DsnV.none_ _ _,d5⟩);clear t O c0 k0 f8 K d5;go_wp2_with fail
   simp[bodyPostD,Leaves,settle,results,results15,go_sem,d7,o5,o6,i0];exact g6.o
end Go.Proofs.YtlfmlodanoolhaaGreatDoor
