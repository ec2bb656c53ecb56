import Derived.Test.YtlfmlodanoolhaaGreatDoorV50
set_option linter.all false
set_option maxRecDepth 200000
set_option maxHeartbeats 0
namespace Go.Proofs.YtlfmlodanoolhaaGreatDoor
section
open Go Go.RowKit Go.Proofs.Tryz
theorem up{t a:Itm}(h:a∈t.l):aj a<=aj t:=by
 have b:=bq t;have c:=ay aj t.l a h;omega
theorem yP{t a:Itm}(h:a∈t.els):aj a<=aj t:=by
 have b:=bq t;have c:=ay aj t.els a h;omega
theorem Ag(f:World)(B N0 mb:Nat)(n:Option Addr)(o:Nat)(fl:List Mdl)(v:Sl (RM f B) f B 4 fl (.slice n fl.length o))(w:fl.length<=1000000)
 (y:∀j,j∈fl->VM j/\dc j/\ar j<=65536):∀(k:Nat) (l:List Itm),RkM fl k (bX l)->(∀a,a∈l->VI a/\MayI a/\aj a<=65536)->fE f B N0 mb (.slice n fl.length o) (cf fl k) k l:=by
 intro k;induction k with
 |zero=>
  intro l m h;refine jY f B N0 mb _ _ 0 l (λa g=>qD f B N0 mb _ _ (kh fl 0) 0 (λa=>RkM fl 0 (ofI a)) (λa e b c=>b.sub λs d=>ofI_mem.2 (.inr (.inl (ofIs_mem.2 ⟨e,c,d⟩)))) (λa e b c=>b.sub λs d=>ofI_mem.2 (.inr (.inr (ofIs_mem.2 ⟨e,c,d⟩)))) (λa b _ _ i=>absurd (ofI_mem.2 (.inl ⟨i,rfl⟩)) (b a.of)) a (m.sub λs d=>ofIs_mem.2 ⟨a,g,d⟩) (h a g).1 (h a g).2.1)
 |succ k ih=>
  intro l m h;refine jY f B N0 mb _ _ (k+1) l (λa g=>qD f B N0 mb _ _ (kh fl (k+1)) (k+1) (λa=>RkM fl (k+1) (ofI a)/\aj a<=65536) (λa e b c=>⟨b.1.sub λs d=>ofI_mem.2 (.inr (.inl (ofIs_mem.2 ⟨e,c,d⟩))),ad (up c) b.2⟩) (λa e b c=>⟨b.1.sub λs d=>ofI_mem.2 (.inr (.inr (ofIs_mem.2 ⟨e,c,d⟩))),ad (yP c) b.2⟩) (λa b z x i=>?_) a ⟨m.sub λs d=>ofIs_mem.2 ⟨a,g,d⟩,(h a g).2.2⟩ (h a g).1 (h a g).2.1);obtain⟨of,p,u⟩:=b.1 a.of (ofI_mem.2 (.inl ⟨i,rfl⟩));obtain⟨q,r,t⟩:=y of (gU p).1;exact vP f B N0 mb n o fl k a of p q r t z x i v w b.2 (ih of.items u λe c=>⟨q.2.2.2 e c,r.2.2.2 e c,by
   have:=ay aj of.items e c;unfold ar at t;omega⟩)
end
section
open Go Go.RowKit Go.Proofs.Tryz
attribute [local go_sem] bc
structure DsnV(w:World)(N0:Nat)(d:Dsn)(vs vp vc:Value):Prop where
 sig:OwnL RSg N0 57 4 d.sigs vs w
 prc:OwnL (RPc w) N0 70 2 d.procs vp w
 chk:OwnL (RCk w) N0 62 9 d.chks vc w
def ElR(fl:List Mdl)(a:ByteArray)(ps:List (ByteArray×Int))(w:World)(e:Ending)(f:World):Prop:=
 ∃d c b,e=.returned (.tuple #[.agg #[d,c,b],.int .i64 (bh fl a ps).2])/\DsnV f w.heap.size (bh fl a ps).1 d c b/\Ext w f
theorem DsnV.none_(w:World)(N0:Nat):DsnV w N0 ⟨[],[],[]⟩ (.slice none 0 0) (.slice none 0 0) (.slice none 0 0):=⟨⟨[],World.ownsRow_nil _ _ _ _,Fl.nil⟩,⟨[],World.ownsRow_nil _ _ _ _,Fl.nil⟩,⟨[],World.ownsRow_nil _ _ _ _,Fl.nil⟩⟩
def hpK(j:Nat)(W:World)(b:List Value)(vals:List Value)(i:Nat)(v:Value)(w:World):Prop:=
 if i=j then∃a,v=.func (.func 68) #[] #[.pointer (some ⟨a,0,none⟩)]/\W.heap.size<=a/\Blk w a 30 b else v=vals.getD i undef
theorem tD{j:Nat}{W:World}{b vals:List Value}{i:Nat}{v:Value}{w c:World}(h:hpK j W b vals i v w)(k:Ext w c):hpK j W b vals i v c:=by
 unfold hpK at h⊢;split
 ·rename_i a;rw[if_pos a] at h;obtain⟨d,e,f,g⟩:=h;exact⟨d,e,f,g.ext k⟩
 ·rename_i a;rw[if_neg a] at h;exact h
theorem rS{of:Mdl}{p:ByteArray×Int}{l:List (ByteArray×Int)}{o:ByteArray->Option Int}(h:¬(o p.1=none/\∃a,a∈of.params/\a.name=p.1)):dr of (p::l) o=.error 82:=by
 rw[dr];unfold aU;rw[if_neg h];rfl
theorem rT{of:Mdl}{p:ByteArray×Int}{l:List (ByteArray×Int)}{o:ByteArray->Option Int}(h:o p.1=none/\∃a,a∈of.params/\a.name=p.1)(h2:¬(0<=p.2/\p.2<=2147483647)):dr of (p::l) o=.error 62:=by
 rw[dr];unfold aU;rw[if_pos h];simp only[bind,Except.bind];rw[if_neg h2]
theorem zd{of:Mdl}{p:ByteArray×Int}{l:List (ByteArray×Int)}{o:ByteArray->Option Int}(h:o p.1=none/\∃a,a∈of.params/\a.name=p.1)(h2:0<=p.2/\p.2<=2147483647):dr of (p::l) o=dr of l (az o p.1 p.2):=by
 rw[dr];unfold aU;rw[if_pos h];simp only[bind,Except.bind];rw[if_pos h2]
theorem DsnV.keep{w i:World}{N0 mb:Nat}{n l k j:Value}{m:Mk}(h:MkI w N0 mb n l k j m)(e:∀a b,(b=57\/b=70\/b=62\/b=60\/b=73\/b=85)->Tag w a b->i.heap[a]? =w.heap[a]?):DsnV i N0 m.d l k j:=by
 have kp:Kp w i:=λg c=>by
  rcases c with c|c|c
  ·exact e g _ (.inr (.inr (.inr (.inl rfl)))) c
  ·exact e g _ (.inr (.inr (.inr (.inr (.inl rfl))))) c
  ·exact e g _ (.inr (.inr (.inr (.inr (.inr rfl))))) c
 exact⟨h.sig.chg (λa _ f=>e a _ (.inl rfl) f) (λ_ _ h=>h),h.prc.chg (λa _ f=>e a _ (.inr (.inl rfl)) f) (RPc.keep kp),h.chk.chg (λa _ f=>e a _ (.inr (.inr (.inl rfl))) f) (RCk.keep kp)⟩
theorem hC{fl:List Mdl}{b:ByteArray}{ps:List (ByteArray×Int)}{w d:World}{a:Int}(h:bQ fl b ps=.error a)(e:Ext w d):ElR fl b ps w (.returned (.tuple #[.agg #[.slice none 0 0,.slice none 0 0,.slice none 0 0],.int .i64 a])) d:=by
 have c:bh fl b ps=(⟨[],[],[]⟩,a):=by unfold bh;rw[h]
 exact⟨_,_,_,by rw[c],by rw[c];exact DsnV.none_ _ _,e⟩
theorem Bt{R:Ending->World->Prop}{tmps:Array Value}{a b:Nat}{u0 u1 u2:Value}{c:Int}{w:World}(g:tmps[6]? =some (.pointer (some ⟨a,0,none⟩)))(i:tmps[7]? =some (.pointer (some ⟨b,0,none⟩)))
 (j:Blk w a 50 [u0,u1,u2]) (k:Blk w b 51 [.int .i64 c]) (h:R (.returned (.tuple #[.agg #[u0,u1,u2],.int .i64 c])) w):
 Leaves Tryz.prog Tryz.f15 tmps R [{target:=.fn (.func 34) #[.pointer (some ⟨a,0,none⟩),.pointer (some ⟨b,0,none⟩)],args:=#[]}] .returning w:=by
 refine leaves_cons (f:=34) (args:=#[.pointer (some ⟨a,0,none⟩),.pointer (some ⟨b,0,none⟩)]) zS (by simp[go_sem]) ?_;obtain⟨l,m,n⟩:=j.get3;have d:=k.cell 0;simp only[List.getElem?_cons_zero] at d;refine(xk a b w).mono ?_;rintro e o p ⟨rfl,rfl,rfl⟩;simp[Leaves,settle,results,results15,go_sem,g,i,l,m,n,d,h]
theorem gZ{R:Ending->World->Prop}{tmps:Array Value}{a b:Nat}{u0 u1 u2:Value}{g d:Int}{w:World}(k:tmps[6]? =some (.pointer (some ⟨a,0,none⟩)))(l:tmps[7]? =some (.pointer (some ⟨b,0,none⟩)))
 (n:Blk w a 50 [u0,u1,u2]) (p:Blk w b 51 [.int .i64 g]) (h:∀c,Chg (λj=>j=a\/j=b) w c->R (.returned (.tuple #[.agg #[.slice none 0 0,.slice none 0 0,.slice none 0 0],.int .i64 d])) c):
 Leaves Tryz.prog Tryz.f15 tmps R [{target:=.fn (.func 34) #[.pointer (some ⟨a,0,none⟩),.pointer (some ⟨b,0,none⟩)],args:=#[]}] (.panicking (aR d)) w:=by
 refine leaves_cons (f:=34) (args:=#[.pointer (some ⟨a,0,none⟩),.pointer (some ⟨b,0,none⟩)]) zS (by simp[go_sem]) ?_;refine(zI a b u0 u1 u2 g d w n p).mono ?_;rintro e v c ⟨rfl,rfl,o,q,m⟩;obtain⟨s,t,u⟩:=o.get3;have i:=q.cell 0;simp only[List.getElem?_cons_zero] at i;have r:=h c m;simp[Leaves,settle,results,results15,go_sem,k,l,s,t,u,i,r]
theorem vr(B:Nat)(fl:List Mdl)(e5:Option Addr)(e6:Nat)(t:ByteArray)(ps:List (ByteArray×Int))(A1:Option Addr)(A2:Nat)(w:World)(a5:Tabs w)(z8:TabP w)(m9:Sl (RM w B) w B 4 fl (.slice e5 fl.length e6))(x7:Sl RNm w B 2 ps (.slice A1 ps.length A2))(c3:B<=w.heap.size)
 (f8:aa ar fl<=10000000) (o3:∀g4,g4∈fl->VM g4) (K7:ps.length<=1000000):
 Calls Tryz.prog 15 #[.agg #[.slice e5 fl.length e6],.string t,.slice A1 ps.length A2] w (ElR fl t ps w):=by
 have w5:=Hd m9;have C3:=Hd x7;have K6:fl.length<=10000000:=by have:=aw ar fl gj;omega
 obtain⟨c,j6,z9,f5⟩:=aL w (.slice e5 fl.length e6) 24;obtain⟨j,y3,k4,n1⟩:=eS c (.slice none 0 0) (.slice none 0 0) (.slice none 0 0) 50;obtain⟨m3,y4,g0,n2⟩:=aL j (.int .i64 0) 51;have E4:=j6.symm;have E5:=y3.symm;have E6:=y4.symm;have L5:w.heap.size<c.heap.size:=f5.lt;have L9:c.heap.size<j.heap.size:=n1.lt;have M0:j.heap.size<m3.heap.size:=n2.lt;have j1:=Hd (z9.trans (k4.trans g0));have A9:=Hd (f5.ext (k4.trans g0));have A5:=Hd (n1.ext g0);have A7:=Hd n2;have i3:=(f5.ext (k4.trans g0)).cell 0;simp only[List.getElem?_cons_zero] at i3;have w8:=Hd (zG B fl m3 _ (a5.ext j1.o) (m9.extRM j1.o c3) (ad c3 j1.o.size) f8 o3);have D0:=Hd z8;have D7:=Hd g0;have C9:=Hd a5;have w6:=Hd o3;clear j6 y3 y4 z9 k4 g0 f5 n1 n2 m9 x7 a5 z8 o3;have K8:=@hmf_ Tryz.prog;have K9:=@run_makeMap Tryz.prog
 go_enter_defers func15,ntmps15
 go_wp2_with fail
 go_at_call 32;refine w8.o.mono ?_;rintro _ A3 ⟨rfl,d2⟩;have k8:=Hd (A7.o.ext d2);obtain⟨a8,d8⟩:=aq (k8.o.cell 0) (k8.o.frozen 0);simp only[List.getElem?_cons_zero] at a8;obtain⟨E,f4⟩:∃E,E=A3.setCell ⟨j.heap.size,0,none⟩ (.int .i64 (cC fl)):=⟨_,rfl⟩;have y0:=f4.symm;have n3:Blk E j.heap.size 51 [.int .i64 (cC fl)]:=by rw[f4];exact k8.o.store1 _
 have G6:Ext j E:=by rw[f4];exact Ext.setCell (D7.o.trans d2) (ac _) _
 have k1:Chg (λf=>f=j.heap.size) A3 E:=by rw[f4];exact dD _ _ _ _
 have g7:=Hd (show Ext w E by rw[f4];exact(j1.o.trans d2).setCell (p:=⟨j.heap.size,0,none⟩) (by show w.heap.size<=j.heap.size;omega) _);have v5:=Hd (k1.blk (A5.o.ext d2) zO);have v8:=Hd (k1.blk (A9.o.ext d2) zO);have i8:=Hd n3;have M1:m3.heap.size<=E.heap.size:=ad d2.size k1.size;obtain⟨J8,K3⟩:∃R,R=c.heap.size:=⟨_,rfl⟩;obtain⟨J9,K4⟩:∃R,R=j.heap.size:=⟨_,rfl⟩;have i6:=n3.cell 0;simp only[List.getElem?_cons_zero] at i6;obtain⟨b6,k2⟩:∃b5,b5=cC fl:=⟨_,rfl⟩;rw[<-k2] at y0 i6 i8;rw[<-k2];have e9:=Hd k2;clear f4 n3 G6 k1 d2 w8 k2 i3;by_cases y:b6=0
 ·subst y;have r:=qu B fl t E (.slice e5 fl.length e6) (w5.o.extRM g7.o c3) (ad c3 g7.o.size) zO;have w9:=Hd r;clear r;have i3:=v8.o.cell 0;simp only[List.getElem?_cons_zero] at i3;go_wp2_with fail
  go_at_call 33;refine w9.o.mono ?_;rintro _ b0 ⟨J7,b3,c2,b4,rfl,z7,d3⟩;have C8:=Hd z7;obtain⟨I7,I8,I9,h1,F7,F8,F9⟩:=z7;simp only[List.cons.injEq,and_true] at h1;obtain⟨rfl,rfl,rfl,rfl⟩:=h1;have H3:=F7.oneCell;have H4:=F8.oneCell;have H5:=F9.oneCell;obtain⟨D5,y5,A0,k0⟩:=bK b0 (.string ⟨#[]⟩) (.slice none 0 0) (.slice none 0 0) (.slice none 0 0) 30;have E9:=y5.symm;obtain⟨c5,c6,c7,i1⟩:=k0.get4;obtain⟨t1,t2,t3,G9⟩:=k0.free4;have C1:=Hd (rfl:((ce fl t).getD ks).name=((ce fl t).getD ks).name);obtain⟨a1,o0⟩:∃a1,a1=((ce fl t).getD ks).name:=⟨_,rfl⟩;rw[<-o0];have C2:=Hd o0;obtain⟨F,j7⟩:∃F,F=((((D5.setCell ⟨b0.heap.size,0,none⟩ (.string a1)).setCell ⟨b0.heap.size,1,none⟩ b3).setCell ⟨b0.heap.size,2,none⟩ c2).setCell ⟨b0.heap.size,3,none⟩ b4):=⟨_,rfl⟩;have E7:=j7.symm;have n4:Blk F b0.heap.size 30 [.string a1,b3,c2,b4]:=by rw[j7];exact k0.store4 _ _ _ _
  have h7:Ext b0 F:=by rw[j7];exact((((A0).setCell (ac _) _).setCell (ac _) _).setCell (ac _) _).setCell (ac _) _
  have x4:=Hd (g7.o.trans (d3.trans h7));have D1:=Hd (g7.o.trans d3);have i7:=Hd (v5.o.ext (d3.trans h7));have i9:=Hd (i8.o.ext (d3.trans h7));have B0:=Hd (v8.o.ext (d3.trans h7));have B4:=Hd n4;have M2:E.heap.size<=b0.heap.size:=d3.size;have M3:b0.heap.size<F.heap.size:=n4.lt;clear j7 h7 n4 A0 k0 y5 d3 w9 o0 C1;obtain⟨d6,o4,o5⟩:=i7.o.get3;obtain⟨i0,o6,G7⟩:=i7.o.free3;have h9:=i9.o.cell 0;simp only[List.getElem?_cons_zero] at h9;have G8:=i9.o.frozen 0;cases hfd:ce fl t with
  |none=>
   have c9:=Hd (show bh fl t ps=(⟨[],[],[]⟩,71) by unfold bh bQ;rw[if_neg (by rw[<-e9.o];decide),hfd]);have V:c.heap.size≠j.heap.size:=by omega
   obtain⟨H,a6⟩:∃H,H=((((F.setCell ⟨c.heap.size,0,none⟩ (.slice none 0 0)).setCell ⟨c.heap.size,1,none⟩ (.slice none 0 0)).setCell ⟨c.heap.size,2,none⟩ (.slice none 0 0)).setCell ⟨j.heap.size,0,none⟩ (.int .i64 71)):=⟨_,rfl⟩;have y1:=a6.symm;have y7:Blk H c.heap.size 50 [.slice none 0 0,.slice none 0 0,.slice none 0 0]:=by rw[a6];exact(i7.o.store3 _ _ _).far V _
   have z0:Blk H j.heap.size 51 [.int .i64 71]:=by rw[a6];exact(((i9.o.far (p:=⟨c.heap.size,0,none⟩) (λe=>V e.symm) _).far (p:=⟨c.heap.size,1,none⟩) (λe=>V e.symm) _).far (p:=⟨c.heap.size,2,none⟩) (λe=>V e.symm) _).store1 _
   have c0:Ext w H:=by rw[a6];exact(((x4.o.setCell (p:=⟨c.heap.size,0,none⟩) (by show w.heap.size<=c.heap.size;omega) _).setCell (p:=⟨c.heap.size,1,none⟩) (by show w.heap.size<=c.heap.size;omega) _).setCell (p:=⟨c.heap.size,2,none⟩) (by show w.heap.size<=c.heap.size;omega) _).setCell (p:=⟨j.heap.size,0,none⟩) (by show w.heap.size<=j.heap.size;omega) _
   obtain⟨J1,J2,J3⟩:=y7.get3;have A4:=z0.cell 0;simp only[List.getElem?_cons_zero] at A4;have g5:=Hd (show ElR fl t ps w (.returned (.tuple #[.agg #[.slice none 0 0,.slice none 0 0,.slice none 0 0],.int .i64 71])) H from⟨_,_,_,by rw[c9.o],by rw[c9.o];exact DsnV.none_ _ _,c0⟩);clear y7 z0 c0 a6;go_wp2_with fail
   simp[bodyPostD,Leaves,settle,results,results15,go_sem,J1,J2,J3,A4];exact g5.o
  |some of=>
   have J5:=Hd hfd;have w4:=Hd (show RM w B of [.string a1,b3,c2,b4] from by
    have a:=C8.o;rw[hfd] at a;exact RM.keep (λQ O=>(D1.o.cell zO).symm) (ac _) _ _ (by rw[C2.o,hfd];exact a))
   obtain⟨I7,I8,I9,h1,o2,G1,z6⟩:=w4.o;simp only[List.cons.injEq,and_true] at h1;obtain⟨F3,rfl,rfl,rfl⟩:=h1;have C5:=Hd o2;have C6:=Hd z6;have h6:=(gU hfd).1;have G3:ar of<=10000000:=ad (ay ar fl of h6) f8;obtain⟨H,a6⟩:∃H,H=F.alloc (.map #[] 0):=⟨_,rfl⟩;have y1:=a6.symm;have c0:Ext F H:=by rw[a6];exact aE _ _
   have l6:=Hd (show EnvM H F.heap.size (λ_=>none) by rw[a6];exact EnvM.new _);have D8:=Hd (x4.o.trans c0);have A6:=Hd (i7.o.ext c0);have A8:=Hd (i9.o.ext c0);have B1:=Hd (B0.o.ext c0);have B5:=Hd (B4.o.ext c0);have M4:F.heap.size<H.heap.size:=l6.o.lt
   obtain⟨f1,m8⟩:∃f1:(ByteArray->Option Int)->Rs Dsn,f1=λaB=>(do
    let a<-dN of aB ⟨#[]⟩ (λQ=>if Q.o=true then 2 else 1) noMk
    let z<-aZ (cf fl fl.length) of.items a.1 a.2
    return z.2.d):=⟨_,rfl⟩
   have l8:=Hd m8;obtain⟨f0,b8⟩:∃f0,f0=bQ fl t ps:=⟨_,rfl⟩;have c8:=Hd b8;have w7:=Hd (show f0=(do let aB<-dr of (ps.drop 0) (λ_=>none);f1 aB) by rw[b8];unfold bQ;rw[if_neg (by rw[<-e9.o];decide),hfd,m8];rfl);have V:c.heap.size≠j.heap.size:=by omega
   clear a6 c0 o2 G1 z6 m8 b8 hfd F3;go_wp2_with fail
   go_loopw [36] (λd5 wr=>∃(f:Nat) (o:ByteArray->Option Int),f<=ps.length/\d5=.int .i64 f/\EnvM wr F.heap.size o/\(∀i4 v,o i4=some v->bU v)/\Chg (λf=>f=F.heap.size) H wr/\f0=(do let aB<-dr of (ps.drop f) o;f1 aB)) (λd5 _=>ps.length - (intOf d5).toNat)
   case atStart=>exact⟨0,λ_=>none,aA _,rfl,l6.o,(λ_ _ a=>by cases a),bg _ _,w7.o⟩
   case round=>
    obtain⟨f,o,i,rfl,c4,n8,f6,b8⟩:=hrel;clear w7 y1 E7 E9 y0 E6 E5 E4 d6 o4 o5 i0 o6 G7 h9 G8 i3 c5 c6 c7 i1 t1 t2 t3 G9 a8 d8 i6;have w2:=Hd c4;have w1:=Hd n8;have B8:=Hd f6;have g1:Ext w wr:=f6.ext D8.o (λf i=>by have:f=F.heap.size:=i;omega);have m0:=Hd g1;have a7:=js l6.o f6;have k6:=Hd (A6.o.tags a7);have k9:=Hd (A8.o.tags a7);have B2:=Hd (B1.o.tags a7);have l0:=Hd (B5.o.tags a7);have M5:H.heap.size<=wr.heap.size:=f6.size;by_cases z3:f<ps.length
    ·rw[List.drop_eq_getElem_cons z3] at b8;have b1:=Hd b8;obtain⟨L3,L4,o1,G0,z5⟩:=C3.o;injection o1 with E1 E2 E3;subst E1;obtain⟨R,L2,N1,N2,rfl,K2,x8,x5,F5,F6⟩:=z5.open2 z3;simp only[RNm,List.cons.injEq,and_true] at x8;obtain⟨rfl,rfl⟩:=x8;obtain⟨D9,E0⟩:=(x5.ext g1).get2;obtain⟨f2,x9,h8,g9⟩:=dd wr (.string ps[f].1) (.int .i64 ps[f].2) 85;have j6:=x9.symm;obtain⟨H8,H9⟩:=g9.later2;have t4:=g9.get2;obtain⟨t4,H0⟩:=t4;have h5:=(c4.ext h8).look ps[f].1;have w0:=Hd g9;have b2:=Hd h8;have M6:wr.heap.size<f2.heap.size:=g9.lt;have m2:=Hd (λg=>dZ 82 g);have x1:=Hd (λg=>ei 82 zD g);have D4:=Hd (λg=>dZ 62 g);have x2:=Hd (λg=>ei 62 zD g);generalize ps[f]=q at*;obtain⟨a9,a2⟩:=q;simp only at H8 H9 t4 H0 D9 E0 h5 j6 w0;have o2:=Hd (show∀e:Later f2,e.w.cell? ⟨b0.heap.size,0,none⟩=some (.string a1) from λe=>((l0.o.ext h8).ext e.ext).cell 0);obtain⟨j2,j3,j4,j5⟩:=(l0.o.ext h8).later4;clear x5 x9 h8 g9 c4 n8 f6 b8 a7 G0 z5 g1 E2 E3 F5 F6;cases ho:o a9 with
     |some z=>
      rw[ho] at h5;simp only[Option.getD_some,Option.isSome_some] at h5;have X:=Hd (show bQ fl t ps=.error 82 by rw[<-c8.o,b1.o,rS (λa=>by rw[ho] at a;cases a.1)];rfl);clear ho;go_wp2_with fail
      refine bD 9 (W:=f2) (Ext) (eqG [.bool true,.bool false,.bool false,undef,undef,undef,undef,undef,.bool false]) (λ_ _=>False) (λd5=>match d5 with|3|4|5|6|7=>false|_=>true) zK (bo) zK zK ?_ (af _) (λd5 v w g a D=>dz a D) ?_ (λG m5 w h O=>O.elim) ?_
      ·exact⟨rfl,rfl,rfl,(λv w a e=>by have U:=e.symm.trans a;cases U),(λv w a e=>by have U:=e.symm.trans a;cases U),(λv w a e=>by have U:=e.symm.trans a;cases U),(λv w a e=>by have U:=e.symm.trans a;cases U),(λv w a e=>by have U:=e.symm.trans a;cases U),rfl,trivial⟩
      ·refine⟨?_,?_,?_,λw=>rfl,λw=>rfl,λw=>rfl,λw=>rfl,λw=>rfl,?_,trivial⟩
       all_goals
        intro G A M h k;obtain⟨u,rfl⟩:=ae M;try (have a8:=ab h 0 47 zD rfl;simp[eqG] at a8)
        try (have d8:=ab h 1 48 zD rfl;simp[eqG] at d8)
        try (have i5:=ab h 2 49 zD rfl;simp[eqG] at i5)
        try (have t6:=ab h 7 54 zD rfl;simp[eqG] at t6)
        have t7:=ah k 14 zK;simp at t7;clear h k;exact zA
      ·intro G A i;obtain⟨b7,rfl,M,a0,b⟩:=i.fin (n:=89) rfl;obtain⟨u,rfl⟩:=ae M;have K:=b 6 zK;have L:=b 7 zK;have i2:b7 55=.bool false:=a0 8 55 rfl rfl;clear a0 b;simp at K L;simp only[List.drop_succ_cons,List.drop_zero];simp[List.range,List.range.loop,K,L,i2];clear K L i2;go_wp2_with fail
       go_at_call 35;refine(x1.o _).mono ?_;rintro _ e8 ⟨rfl,rfl⟩;have d4:=Hd (m0.o.trans (b2.o.trans u.ext));have F1:=Hd (k6.o.ext (b2.o.trans u.ext));have f7:=Hd (k9.o.ext (b2.o.trans u.ext));go_wp2_with fail
       refine gZ rfl rfl F1.o f7.o (λe7 y=>hC X.o ?_);exact y.ext d4.o (λf i=>by rcases i with i|i<;>omega)
     |none=>
      rw[ho] at h5;simp only[Option.getD_none,Option.isSome_none] at h5;have l7:=Hd ho;have j0:=Hd (λg=>pl (.string a1) b3 c2 b4 rfl H3 H4 H5 g);obtain⟨d7,z2⟩:∃d7,d7=yes (∃x,x∈of.params/\x.name=a9):=⟨_,rfl⟩;have l4:=Hd z2;have D2:=Hd (show∀(Z:Nat) (g:World),Blk g Z 30 [.string a1,b3,c2,b4]->Ext f2 g->Calls Tryz.prog 68 #[.string a9,.pointer (some ⟨Z,0,none⟩)] g λe e7=>e=.returned (.bool d7)/\Ext g e7 from λZ g s D=>by
       have M:=(m0.o.trans b2.o).trans D;rw[l4.o];exact rD B of.params b3 a9 Z g (s.cell 1) (C5.o.extRB M c3) (ad c3 M.size) (by have:=aw au of.params du;unfold ar at G3;omega) s.lt)
      clear ho z2;go_wp2_with fail
      refine bD 9 (W:=f2) (Ext) (hpK 4 f2 [.string a1,b3,c2,b4] [.bool false,.bool true,.bool true,.agg #[.string a1,b3,c2,b4],undef,.pointer (some ⟨wr.heap.size,0,none⟩),.string a9,.bool d7,.bool d7]) (λ_ _=>False) (λ_=>true) zK (bo) zK zK ?_ (af _) (λd5 v w g a D=>tD a D) ?_ (λG m5 w h O=>O.elim) ?_
      ·exact⟨rfl,rfl,rfl,(λv w a=>a),(λv w a=>a),(λv w a=>a),(λv w a=>a),(λv w a=>a),rfl,trivial⟩
      ·refine⟨?_,?_,?_,?_,?_,?_,?_,?_,?_,trivial⟩;rotate_left 4
       ·intro G A M h k;obtain⟨u,rfl⟩:=ae M;have t5:=ab h 3 50 zK rfl;simp[hpK] at t5;clear h k;go_simp;refine(j0.o u.w).mono ?_;rintro _ J0 ⟨rfl,y8,D⟩;have l1:=Hd y8;have m1:=Hd u.ext.size;clear y8;go_simp;first|exact⟨_,rfl,D,_,rfl,m1.o,l1.o⟩|exact⟨D,_,rfl,m1.o,l1.o⟩|exact⟨_,rfl,_,rfl,m1.o,l1.o⟩
       rotate_left 2
       ·intro G A M h k;obtain⟨u,rfl⟩:=ae M;obtain⟨Z,I0,K5,y9⟩:=ab h 4 51 zK rfl;simp at I0;have B6:=Hd y9;clear y9;have I2:=ab h 6 53 zK rfl;simp[hpK] at I2;clear h k;go_simp;refine(D2.o Z u.w B6.o u.ext).mono ?_;rintro _ J0 ⟨rfl,D⟩;go_simp;first|exact⟨_,rfl,D,rfl⟩|exact⟨D,rfl⟩|exact⟨_,rfl,rfl⟩|exact D
       all_goals
        intro G A M h k;obtain⟨u,rfl⟩:=ae M;try (have i5:=ab h 2 49 zD rfl;simp[hpK] at i5)
        try (have t6:=ab h 7 54 zD rfl;simp[hpK] at t6)
        try (have a8:=ab h 0 47 zD rfl;simp[hpK] at a8)
        try (have d8:=ab h 1 48 zD rfl;simp[hpK] at d8)
        try (have I1:=ab h 5 52 zD rfl;simp[hpK] at I1)
        have t7:=ah k 14 zK;simp at t7;have I5:=ah k 8 zK;simp at I5;have I3:=ah k 12 zK;simp at I3;clear h k;exact zA
      ·intro G A i;obtain⟨b7,rfl,M,a0,b⟩:=i.fin (n:=89) rfl;obtain⟨u,rfl⟩:=ae M;have c5:=b 0 zK;have c6:=b 1 zK;have c7:=b 2 zK;have i1:=b 3 zK;have r1:=b 4 zK;have r2:=b 5 zK;have K:=b 6 zK;have L:=b 7 zK;have s1:=b 8 zK;have t0:=b 9 zK;have o7:=b 10 zK;have o8:=b 11 zK;have p0:=b 15 zK;have p1:=b 16 zK;have p2:=b 17 zK;have p3:=b 18 zK;have p4:=b 19 zK;have p5:=b 20 zK;have p6:=b 21 zK;have g2:=b 22 zK;have p7:=b 23 zK;have p8:=b 24 zK;have p9:=b 25 zK;have q0:=b 26 zK;have q1:=b 27 zK;have q2:=b 28 zK;have q3:=b 29 zK;have q4:=b 30 zK;have q5:=b 31 zK;have q6:=b 32 zK;have q7:=b 33 zK;have q8:=b 34 zK;have q9:=b 35 zK;have r0:=b 36 zK;have r3:=b 72 zK;have r4:=b 73 zK;have r5:=b 74 zK;have r6:=b 75 zK;have r7:=b 76 zK;have r8:=b 77 zK;have r9:=b 78 zK;have s0:=b 79 zK;have s2:=b 80 zK;have s3:=b 81 zK;have s4:=b 82 zK;have s5:=b 83 zK;have s6:=b 84 zK;have s7:=b 85 zK;have s8:=b 86 zK;have s9:=b 87 zK;have g3:=b 88 zK;have o9:=b 12 zK;have i2:b7 55=.bool d7:=a0 8 55 rfl rfl;clear a0 b;simp at c5 c6 c7 i1 r1 r2 K L s1 t0 o7 o8 p0 p1 p2 p3 p4 p5 p6 g2 p7 p8 p9 q0 q1 q2 q3 q4 q5 q6 q7 q8 q9 r0 r3 r4 r5 r6 r7 r8 r9 s0 s2 s3 s4 s5 s6 s7 s8 s9 g3 o9;simp only[List.drop_succ_cons,List.drop_zero];simp[List.range,List.range.loop,c5,c6,c7,i1,r1,r2,K,L,s1,t0,o7,o8,p0,p1,p2,p3,p4,p5,p6,g2,p7,p8,p9,q0,q1,q2,q3,q4,q5,q6,q7,q8,q9,r0,r3,r4,r5,r6,r7,r8,r9,s0,s2,s3,s4,s5,s6,s7,s8,s9,g3,o9,i2];clear c5 c6 c7 i1 r1 r2 K L s1 t0 o7 o8 p0 p1 p2 p3 p4 p5 p6 g2 p7 p8 p9 q0 q1 q2 q3 q4 q5 q6 q7 q8 q9 r0 r3 r4 r5 r6 r7 r8 r9 s0 s2 s3 s4 s5 s6 s7 s8 s9 g3 o9 i2;have l9:=Hd (m0.o.trans (b2.o.trans u.ext));have l2:=Hd (k6.o.ext (b2.o.trans u.ext));have l3:=Hd (k9.o.ext (b2.o.trans u.ext));cases d7 with
       |false=>
        have X:=Hd (show bQ fl t ps=.error 82 by rw[<-c8.o,b1.o,rS (λa=>by have:=yes_no.1 l4.o.symm;exact this a.2)];rfl);go_wp2_with fail
        go_at_call 35;refine(x1.o _).mono ?_;rintro _ e8 ⟨rfl,rfl⟩;go_wp2_with fail
        refine gZ rfl rfl l2.o l3.o (λe7 y=>hC X.o ?_);exact y.ext l9.o (λf i=>by rcases i with i|i<;>omega)
       |true=>
        have l5:=Hd (show∃R,R∈of.params/\R.name=a9 from yes_iff.1 l4.o.symm);obtain⟨m6,K0⟩:=(w0.o.ext u.ext).get2;obtain⟨H6,G5,n9⟩:=(w2.o.ext (b2.o.trans u.ext)).put a9 a2;obtain⟨C,J⟩:∃C,C=aH u.w F.heap.size H6:=⟨_,rfl⟩;rw[<-J] at G5 n9;have C0:=Hd n9;have B7:=Hd (show Chg (λf=>f=F.heap.size) H C by rw[J];exact(B8.o.trans (b2.o.trans u.ext).chg).trans (qW _ _ _));clear J n9;by_cases f3:0<=a2
        ·by_cases g8:a2<=2147483647
         ·have y6:decide (0<=a2)=true:=decide_eq_true f3;have f5:decide (a2<=2147483647)=true:=decide_eq_true g8;have C7:=Hd (show f0=(do let aB<-dr of (ps.drop (f+1)) (az o a9 a2);f1 aB) by rw[b1.o,zd ⟨l7.o,l5.o⟩ ⟨f3,g8⟩]);have B9:=Hd (show∀i4 v,az o a9 a2 i4=some v->bU v from λi4 v a=>by
           unfold az at a;split at a
           ·injection a with a;rw[<-a];exact⟨f3,g8⟩
           ·exact w1.o i4 v a)
          go_wp2_with fail
          go_at_call 35;refine(m2.o _).mono ?_;rintro _ e8 ⟨rfl,rfl⟩;go_wp2_with fail
          go_at_call 35;refine(D4.o _).mono ?_;rintro _ e8 ⟨rfl,rfl⟩;go_wp2_with fail
          go_roundw;case rel=>exact⟨f+1,az o a9 a2,zO,zN,C0.o,B9.o,B7.o,C7.o⟩
          case measure=>simp[intOf];omega
         ·have y6:decide (0<=a2)=true:=decide_eq_true f3;have f5:decide (a2<=2147483647)=false:=decide_eq_false g8;have X:=Hd (show bQ fl t ps=.error 62 by rw[<-c8.o,b1.o,rT ⟨l7.o,l5.o⟩ (λa=>g8 a.2)];rfl);go_wp2_with fail
          go_at_call 35;refine(m2.o _).mono ?_;rintro _ e8 ⟨rfl,rfl⟩;go_wp2_with fail
          go_at_call 35;refine(x2.o _).mono ?_;rintro _ e8 ⟨rfl,rfl⟩;go_wp2_with fail
          refine gZ rfl rfl l2.o l3.o (λe7 y=>hC X.o ?_);exact y.ext l9.o (λf i=>by rcases i with i|i<;>omega)
        ·have y6:decide (0<=a2)=false:=decide_eq_false f3;have X:=Hd (show bQ fl t ps=.error 62 by rw[<-c8.o,b1.o,rT ⟨l7.o,l5.o⟩ (λa=>f3 a.1)];rfl);go_wp2_with fail
         go_at_call 35;refine(m2.o _).mono ?_;rintro _ e8 ⟨rfl,rfl⟩;go_wp2_with fail
         go_at_call 35;refine(x2.o _).mono ?_;rintro _ e8 ⟨rfl,rfl⟩;go_wp2_with fail
         refine gZ rfl rfl l2.o l3.o (λe7 y=>hC X.o ?_);exact y.ext l9.o (λf i=>by rcases i with i|i<;>omega)
    ·have F2:f=ps.length:=by omega
     subst F2;have b1:=Hd (show f0=f1 o by rw[b8,List.drop_length];rfl);have F0:=ju e9.o.symm;have h0:=pg F0.1;have x6:=h0.2.2.2 of h6;have d1:ar of<=65536:=ad (ay ar fl of h6) h0.2.1;have n0:=w6.o of h6;obtain⟨c1,y2,f9,j8⟩:=aV wr (.slice e5 fl.length e6) (.slice none 0 0) (.slice none 0 0) (.slice none 0 0) (.int .i64 0) (.int .i64 0) 99;have K1:=y2.symm;have m4:=Hd (g1.trans f9);have J4:=Hd j8;have v2:=Hd (k6.o.ext f9);have v6:=Hd (k9.o.ext f9);have v9:=Hd (l0.o.ext f9);have L6:wr.heap.size<c1.heap.size:=j8.lt;have m6:=B2.o.cell 0;simp only[List.getElem?_cons_zero] at m6;obtain⟨j2,j3,j4,j5⟩:=v9.o.get4
     have j0:=Hd (qy w B w.heap.size wr.heap.size c1.heap.size c1.heap.size F.heap.size (.slice e5 fl.length e6) (.slice none 0 0) (.slice none 0 0) (.slice none 0 0) of [.string a1,b3,c2,b4] o ⟨#[]⟩ 38 BB (λQ=>if Q.o=true then 2 else 1) noMk c1
      ⟨C9.o,c3,m4.o⟩ D0.o ⟨j8,⟨[],World.ownsRow_nil _ _ _ _,Fl.nil⟩,⟨[],World.ownsRow_nil _ _ _ _,Fl.nil⟩,⟨[],World.ownsRow_nil _ _ _ _,Fl.nil⟩,g1.size⟩ ⟨zD,zD,zD,zD,zD,zD,zD⟩ (λZ h4=>by cases h4) (ac _) (w2.o.ext f9) w1.o w4.o (λQ g b5 D P=>xY B Q g b5 (P.ext D c3))
      (λR s b5 y=>⟨y,by have m7:=ay au of.params R s;have U:au R=1+al R.x:=rfl;unfold ar at d1;omega,(n0.2.1 R s).2⟩)
      (λQ O b5 y=>⟨y,by have m7:=ay aJ of.ports Q O;have U:aJ Q=1+al Q.w:=rfl;unfold ar at d1;omega,(n0.2.2.1 Q O).2⟩)
      (by have:=aw au of.params du;unfold ar at d1;omega) (by have:=aw aJ of.ports gQ;unfold ar at d1;omega) (λQ O=>by have:=(x6.2.2.1 Q O).1.2.1;omega) zD)
     clear b8 c4 n8 f6 a7 y2 f9 j8 g1;go_wp2_with fail
     go_at_call 37;refine j0.o.mono ?_;rintro e k5 (⟨k3,I6,P,rfl,H1,H2,rfl,L0,L1,h2,r,z4,n7⟩|⟨b5,P,rfl,r⟩);rotate_left
     ·have X:=Hd (show bQ fl t ps=.error b5 by rw[<-c8.o,b1.o,l8.o];simp only[bind,Except.bind];rw[P]);have h:=Hd (r.blk v2.o ⟨zD,zD,zD⟩ zO zO zO);have n6:=Hd (r.blk v6.o ⟨zD,zD,zD⟩ zO zO zO);have D:=Hd (r.ext m4.o (ac _) zO zO zO);clear r P;go_wp2_with fail
      refine gZ rfl rfl h.o n6.o (λe7 y=>hC X.o ?_);exact y.ext D.o (λf i=>by rcases i with i|i<;>omega)
     have h3:FrQ w.heap.size wr.heap.size c1 k5:=r;have B3:=Hd (h3.blk v9.o ⟨zD,zD,zD⟩ zO);have v3:=Hd (h3.blk v2.o ⟨zD,zD,zD⟩ zO);have v7:=Hd (h3.blk v6.o ⟨zD,zD,zD⟩ zO);have x3:=Hd ((r c1.heap.size c1.heap.size).ext m4.o (ac _) zO zO zO);have L7:c1.heap.size<=k5.heap.size:=h3.size;have C4:=Hd (show k3.1.path.size+100*(fl.length*70000+aa aj of.items)<=1000000000 from by
      have m7:k3.1.path.size=0:=by rw[z4];rfl
      have U:=h0.1;unfold ar at d1;omega)
     have x0:=Hd (Ag w B w.heap.size wr.heap.size e5 e6 fl w5.o zO (λg4 c4=>⟨w6.o g4 c4,h0.2.2.2 g4 c4,ad (ay ar fl g4 c4) h0.2.1⟩) fl.length of.items (qd e9.o.symm h6) (λv0 a7=>⟨n0.2.2.2 v0 a7,x6.2.2.2 v0 a7,by have:=ay aj of.items v0 a7;unfold ar at d1;omega⟩) H1 H2 k3.2 k3.1 k5 b4 h2
      (by have:=aw au of.params du;unfold ar at d1;omega) C4.o C6.o)
     have w3:=Hd P;clear P r h3 h2 z4 n7 j0 j2 j3 j4 j5 m6;obtain⟨j2,j3,j4,j5⟩:=B3.o.get4;go_wp2_with fail
     go_at_call 39;refine x0.o.mono ?_;rintro e a3 (⟨m,I6,P,rfl,G4,h2,r,n7,o1⟩|⟨b5,P,rfl,r⟩);rotate_left
     ·have X:=Hd (show bQ fl t ps=.error b5 by rw[<-c8.o,b1.o,l8.o];simp only[bind,Except.bind];rw[w3.o];simp only;rw[P]);have h:=Hd (r.blk v3.o ⟨zD,zD,zD⟩ zO zO zO);have n6:=Hd (r.blk v7.o ⟨zD,zD,zD⟩ zO zO zO);have D:=Hd (r.ext x3.o (ac _) zO zO zO);clear r P;go_wp2_with fail
      refine gZ rfl rfl h.o n6.o (λe7 y=>hC X.o ?_);exact y.ext D.o (λf i=>by rcases i with i|i<;>omega)
     subst G4;have c9:=Hd (show bQ fl t ps=.ok m.2.d by rw[<-c8.o,b1.o,l8.o];simp only[bind,Except.bind];rw[w3.o];simp only;rw[P];rfl);obtain⟨N0,M9,M7,M8,z1,G2⟩:=h2.ex;have v4:=Hd (r.blk v3.o ⟨zD,zD,zD⟩ zO zO zO);have k7:=Hd (r.blk v7.o ⟨zD,zD,zD⟩ zO zO zO);have D6:=Hd (r.ext x3.o (ac _) zO zO zO);have g6:=Hd z1;have L8:k5.heap.size<=a3.heap.size:=r.size;clear P h2 r n7 o1 z1 G2 x0 j2 j3 j4 j5;have F4:wr.heap.size≠c.heap.size:=by omega
     have H7:=g6.o.sig.form;obtain⟨e3,e4,rfl⟩:=H7;obtain⟨e1,e2,rfl⟩:=g6.o.prc.form;obtain⟨d9,e0,rfl⟩:=g6.o.chk.form;go_wp2_with fail
     refine eO 6 (eqS [5] [.pointer (some ⟨wr.heap.size,0,none⟩),.pointer (some ⟨wr.heap.size,0,none⟩),.pointer (some ⟨wr.heap.size,1,none⟩),.agg #[.slice e3 m.2.d.sigs.length e4,.slice e1 m.2.d.procs.length e2,.slice d9 m.2.d.chks.length e0],.int .i64 0,undef]) (chJ [(5,λa4 g=>Blk g c.heap.size 50 [.slice none 0 0,.slice none 0 0,.slice none 0 0]/\Chg (λf=>f=c.heap.size) a3 g)] (λa4 g=>Blk g c.heap.size 50 [.slice e3 m.2.d.sigs.length e4,.slice e1 m.2.d.procs.length e2,.slice d9 m.2.d.chks.length e0]/\Chg (λf=>f=c.heap.size) a3 g)) (λ_ _=>False) zK (λ_ _ _ _ a=>a) zK zK ?_ (gI _ ⟨v4.o,(bg _ a3).drew⟩) ?_ (λG m5 w h O=>O.elim) ?_
     ·simp[GuardsMet]
     ·refine⟨?_,?_,?_,?_,?_,?_,trivial⟩;rotate_left 5
      ·refine StepI.chain 0 rfl zK zK ?_;intro G A f8 l h k;have t5:=ab h 3 87 zK rfl;simp[eqS] at t5;have t8:=ah k 6 zK;simp at t8;replace l:Blk A c.heap.size 50 [.slice none 0 0,.slice none 0 0,.slice none 0 0]/\Chg (λf=>f=c.heap.size) a3 A:=l;obtain⟨s,N⟩:=l;obtain⟨c5,c6,c7⟩:=s.get3;obtain⟨t1,t2,t3⟩:=s.free3;have Y:=Hd (aq (s.store3 (.slice e3 m.2.d.sigs.length e4) (.slice e1 m.2.d.procs.length e2) (.slice d9 m.2.d.chks.length e0)) (((N.setCell (p:=⟨c.heap.size,0,none⟩) rfl (.slice e3 m.2.d.sigs.length e4)).setCell (p:=⟨c.heap.size,1,none⟩) rfl (.slice e1 m.2.d.procs.length e2)).setCell (p:=⟨c.heap.size,2,none⟩) rfl (.slice d9 m.2.d.chks.length e0)));clear h k s N f8;go_simp;first|exact⟨undef,rfl,trivial,Y.o⟩|exact⟨trivial,Y.o⟩|exact Y.o|exact⟨undef,trivial,Y.o⟩|exact⟨⟨undef,trivial⟩,Y.o⟩
      all_goals
       refine StepI.plain (S:=[5]) (T:=[]) (I:=Chg (λf=>f=c.heap.size) a3) (gi (T:=[]) (λa4 v1 w a5 l=>l) _ ⟨λa4 v1 w a5 l=>l,trivial⟩) (λD3 a4 w a=>hK (I:=Chg (λf=>f=c.heap.size) a3) a (λ_ _ a=>a.2) ⟨λ_ _ a=>a.2,trivial⟩) zD zD ?_;intro G A d0 h k;try (have a8:=ab h 0 84 zD rfl;simp[eqS] at a8)
       try (have d8:=ab h 1 85 zD rfl;simp[eqS] at d8)
       try (have i5:=ab h 2 86 zD rfl;simp[eqS] at i5)
       have I4:=ah k 15 zK;simp at I4;have t9:=ah k 7 zK;simp at t9;obtain⟨N3,N4,N5,N6,N7,N8⟩:=(d0.blk g6.o.blk F4).get6;have d6:=(d0.blk k7.o (show¬j.heap.size=c.heap.size from λe=>V e.symm)).cell 0;try simp only[List.getElem?_cons_succ,List.getElem?_cons_zero] at d6
       clear h k d0;exact zB
     ·intro G A i;obtain⟨b7,rfl,a0,b,l⟩:=i.fin (n:=89) rfl;replace l:(λa4 g=>Blk g c.heap.size 50 [.slice e3 m.2.d.sigs.length e4,.slice e1 m.2.d.procs.length e2,.slice d9 m.2.d.chks.length e0]/\Chg (λf=>f=c.heap.size) a3 g) b7 A:=gz _ rfl l;have g3:b7 88=.int .i64 0:=a0 4 88 rfl rfl;have K:=b 6 zK;have L:=b 7 zK;simp at K L;clear a0 b;simp only[List.drop_succ_cons,List.drop_zero];simp[List.range,List.range.loop,g3,K,L];clear g3 K L;obtain⟨s,N⟩:=l;have b9:=N.blk k7.o (show¬j.heap.size=c.heap.size from λe=>V e.symm);have i0:=b9.cell 0;simp only[List.getElem?_cons_zero] at i0;have o6:=b9.frozen 0;obtain⟨C,J⟩:∃C,C=A.setCell ⟨j.heap.size,0,none⟩ (.int .i64 0):=⟨_,rfl⟩;have E8:=J.symm;have j9:=Hd (show Blk C c.heap.size 50 [.slice e3 m.2.d.sigs.length e4,.slice e1 m.2.d.procs.length e2,.slice d9 m.2.d.chks.length e0] by rw[J];exact s.far V _);have f7:=Hd (show Blk C j.heap.size 51 [.int .i64 0] by rw[J];exact b9.store1 (.int .i64 0));have n5:Chg (λf=>f=c.heap.size\/f=j.heap.size) a3 C:=by
       rw[J];exact(N.mono (λ_ _ a=>.inl a)).setCell (p:=⟨j.heap.size,0,none⟩) (.inr rfl) _
      have d4:Ext w C:=n5.ext D6.o (λf i=>by rcases i with i|i<;>omega);have g5:=Hd (show ElR fl t ps w (.returned (.tuple #[.agg #[.slice e3 m.2.d.sigs.length e4,.slice e1 m.2.d.procs.length e2,.slice d9 m.2.d.chks.length e0],.int .i64 0])) C from by
       have h:bh fl t ps=(m.2.d,0):=by unfold bh;rw[c9.o]
       refine⟨_,_,_,by rw[h],?_,d4⟩;rw[h];exact DsnV.keep g6.o (λZ J6 a5 h4=>n5.block Z h4.lt (λe=>by
        rcases e with e|e
        ·have:=h4.one (show Tag a3 Z _ from e▸v4.o.tag);rcases a5 with rfl|rfl|rfl|rfl|rfl|rfl<;>exact absurd this zD
        ·have:=h4.one (show Tag a3 Z _ from e▸k7.o.tag);rcases a5 with rfl|rfl|rfl|rfl|rfl|rfl<;>exact absurd this zD)))
      clear s N b9 J d4 n5;go_wp2_with fail
      exact Bt rfl rfl j9.o f7.o g5.o
 ·have m7:(b6 !=0)=true:=bne_iff_ne.2 y;have c9:=Hd (show bh fl t ps=(⟨[],[],[]⟩,b6) by unfold bh bQ;rw[if_pos (by rw[<-e9.o];exact y),<-e9.o]);have V:c.heap.size≠j.heap.size:=by omega
  go_wp2_with fail
  refine eO 3 (eqS [2] [.agg #[.slice none 0 0,.slice none 0 0,.slice none 0 0],.int .i64 b6,undef]) (chJ [(2,λa4 g=>Blk g c.heap.size 50 [.slice none 0 0,.slice none 0 0,.slice none 0 0]/\Chg (λf=>f=c.heap.size) E g)] (λa4 g=>Blk g c.heap.size 50 [.slice none 0 0,.slice none 0 0,.slice none 0 0]/\Chg (λf=>f=c.heap.size) E g)) (λ_ _=>False) zK (λ_ _ _ _ a=>a) zK zK ?_ (gI _ ⟨v5.o,(bg _ E).drew⟩) ?_ (λG m5 w h O=>O.elim) ?_
  ·simp[GuardsMet]
  ·refine⟨?_,?_,?_,trivial⟩;rotate_left 2
   ·refine StepI.chain 0 rfl zK zK ?_;intro G A f8 l h k;have a8:=ab h 0 21 zK rfl;simp[eqS] at a8;have i6:=ah k 6 zK;simp at i6;replace l:Blk A c.heap.size 50 [.slice none 0 0,.slice none 0 0,.slice none 0 0]/\Chg (λf=>f=c.heap.size) E A:=l;obtain⟨s,N⟩:=l;obtain⟨c5,c6,c7⟩:=s.get3;obtain⟨t1,t2,t3⟩:=s.free3;have Y:=Hd (aq (s.store3 (.slice none 0 0) (.slice none 0 0) (.slice none 0 0)) (((N.setCell (p:=⟨c.heap.size,0,none⟩) rfl (.slice none 0 0)).setCell (p:=⟨c.heap.size,1,none⟩) rfl (.slice none 0 0)).setCell (p:=⟨c.heap.size,2,none⟩) rfl (.slice none 0 0)));clear h k s N f8;go_simp;first|exact⟨undef,rfl,trivial,Y.o⟩|exact⟨trivial,Y.o⟩|exact Y.o|exact⟨undef,trivial,Y.o⟩|exact⟨⟨undef,trivial⟩,Y.o⟩
   all_goals
    refine StepI.plain (S:=[2]) (T:=[]) (I:=λg=>Blk g c.heap.size 50 [.slice none 0 0,.slice none 0 0,.slice none 0 0]/\Chg (λf=>f=c.heap.size) E g) (gi (T:=[]) (λa4 v1 w a5 l=>l) _ ⟨λa4 v1 w a5 l=>l,trivial⟩) (λD3 a4 w a=>hK (I:=λg=>Blk g c.heap.size 50 [.slice none 0 0,.slice none 0 0,.slice none 0 0]/\Chg (λf=>f=c.heap.size) E g) a (λ_ _ a=>a) ⟨λ_ _ a=>a,trivial⟩) zD zD ?_;intro G A d0 h k;have t8:=ah k 6 zK;simp at t8;have t9:=ah k 7 zK;simp at t9;obtain⟨c5,c6,c7⟩:=d0.1.get3;have d6:=(d0.2.blk i8.o (show¬j.heap.size=c.heap.size from λe=>V e.symm)).cell 0;try simp only[List.getElem?_cons_succ,List.getElem?_cons_zero] at d6
    clear h k d0;exact zB
  ·intro G A i;obtain⟨b7,rfl,a0,b,l⟩:=i.fin (n:=89) rfl;replace l:(λa4 g=>Blk g c.heap.size 50 [.slice none 0 0,.slice none 0 0,.slice none 0 0]/\Chg (λf=>f=c.heap.size) E g) b7 A:=gz _ rfl l;have g2:b7 22=.int .i64 b6:=a0 1 22 rfl rfl;have K:=b 6 zK;have L:=b 7 zK;simp at K L;clear a0 b;simp only[List.drop_succ_cons,List.drop_zero];simp[List.range,List.range.loop,g2,K,L];clear g2 K L;obtain⟨s,N⟩:=l;have b9:=N.blk i8.o (show¬j.heap.size=c.heap.size from λe=>V e.symm);have i0:=b9.cell 0;simp only[List.getElem?_cons_zero] at i0;have o6:=b9.frozen 0;obtain⟨C,J⟩:∃C,C=A.setCell ⟨j.heap.size,0,none⟩ (.int .i64 b6):=⟨_,rfl⟩;have E8:=J.symm;have j9:Blk C c.heap.size 50 [.slice none 0 0,.slice none 0 0,.slice none 0 0]:=by rw[J];exact s.far V _
   have f7:Blk C j.heap.size 51 [.int .i64 b6]:=by rw[J];exact b9.store1 (.int .i64 b6)
   obtain⟨d6,o4,o5⟩:=j9.get3;have h9:=f7.cell 0;simp only[List.getElem?_cons_zero] at h9;have d4:Ext w C:=by
    rw[J];exact(N.ext g7.o (λf i=>by have:f=c.heap.size:=i;omega)).setCell (p:=⟨j.heap.size,0,none⟩) (by show w.heap.size<=j.heap.size;omega) _
   have g5:=Hd (show ElR fl t ps w (.returned (.tuple #[.agg #[.slice none 0 0,.slice none 0 0,.slice none 0 0],.int .i64 b6])) C from⟨_,_,_,by rw[c9.o],by rw[c9.o];exact DsnV.none_ _ _,d4⟩);clear s N b9 j9 f7 J d4;go_wp2_with fail
   simp[bodyPostD,Leaves,settle,results,results15,go_sem,d6,o4,o5,h9];exact g5.o
end
