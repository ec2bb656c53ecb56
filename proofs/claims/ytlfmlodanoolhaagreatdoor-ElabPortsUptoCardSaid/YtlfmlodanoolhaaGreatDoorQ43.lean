import Derived.Test.YtlfmlodanoolhaaGreatDoorQ42
set_option linter.all false
set_option maxRecDepth 200000
set_option maxHeartbeats 0
namespace Go.Proofs.YtlfmlodanoolhaaGreatDoor
open Go Go.RowKit Go.Proofs.Tryz
attribute [local go_sem] aW
theorem qM(B:Nat)(l:List Mdl)(w:World)(v:Value)(h:Sl (RM w B) w B 4 l v)(g:B<=w.heap.size)(p:aa ar l<=1000000000):
 Calls Tryz.prog 13 #[.agg #[v]] w λe b=>e=.returned (.bool (yes (iI (aa ar l) (ai bH l))))/\Ext w b:=by
 have d:=Hd h;have y:=h.oneCell;have x:=ka l;obtain⟨f,u,t,c,z,s⟩:=jf w v 24;have n:B<=f.heap.size:=ad g c.size
 have j:=Hd (show ECalls Tryz.prog 30 #[.agg #[v]] f (.int .i64 (aa ar l)) from
  λb a=>Bz B l b v (d.o.extRM (c.trans a) g) (ad n a.size) p)
 have k:=Hd (show ECalls Tryz.prog 31 #[.agg #[v]] f (.int .i64 (ai bH l)) from
  λb a=>Bv B l b v (d.o.extRM (c.trans a) g) (ad n a.size) p)
 obtain⟨q,i⟩:∃q,q=yes (iI (aa ar l) (ai bH l)):=⟨_,rfl⟩;rw[<-i];have m:=Hd i;clear h i d;generalize aa ar l=s1 at*;generalize ai bH l=s2 at*
 go_in
 go_wp2_with (first
  |(go_at_call 30;refine(j.o.at_ _).mono ?_;rintro _ _ ⟨rfl,e,rfl⟩)
  |(go_at_call 31;refine(k.o.at_ _).mono ?_;rintro _ _ ⟨rfl,e,rfl⟩))
 all_goals
  go_ret;refine⟨?_,c.trans (ah _)⟩;rw[m.o];refine congrArg (λr=>Ending.returned (Value.bool r)) ?_;rw[Bool.eq_iff_iff,yes_iff];unfold iI;clear m j k t s;simp at*;try omega
abbrev cNm(s:ByteArray):List Value:=[.int .i64 2,.string s,.int .i64 0,.int .i64 0,.int .u64 0,.slice none 0 0]
abbrev cZ(z:Int):List Value:=[.int .i64 1,.string ⟨#[]⟩,.int .i64 0,.int .i64 0,.int .u64 z,.slice none 0 0]
theorem gR(s:ByteArray)(w:World):
 Calls Tryz.prog 20 #[.string s] w λe a=>e=.returned (.agg #[.int .i64 2,.string s,.int .i64 0,.int .i64 0,.int .u64 0,.slice none 0 0])/\Ext w a:=by
 go_in
 go_wp2
 refine bodyPost_ret (v:=.agg #[.int .i64 2,.string s,.int .i64 0,.int .i64 0,.int .u64 0,.slice none 0 0]) ?_ rfl ⟨rfl,aD _ _⟩;simp[results,results20,go_sem]
theorem lK(z:Int)(h0:0<=z)(c:z<=2147483647)(w:World):
 Calls Tryz.prog 14 #[.int .i64 z] w λe b=>e=.returned (.agg #[.int .i64 1,.string ⟨#[]⟩,.int .i64 0,.int .i64 0,.int .u64 z,.slice none 0 0])/\Ext w b:=by
 have a:IntKind.u64.wrap z=z:=by simp(disch:=omega) only[IntWalk.u64_in]
 go_in
 go_wp2
 refine bodyPost_ret (v:=.agg #[.int .i64 1,.string ⟨#[]⟩,.int .i64 0,.int .i64 0,.int .u64 z,.slice none 0 0]) ?_ rfl ⟨rfl,aD _ _⟩;simp[results,results14,go_sem,a]
theorem Sl.twin{α:Type}{R:α->List Value->Prop}{w:World}{B e g:Nat}{x k:α}{a ds:List Value}(f:g<B)(i:a.length=e)(m:ds.length=e)(h:Cells w g 0 (a++ds))(j:∀v,v∈a++ds->v.oneCell'=true)(n:R x a)(o:R k ds):
 Sl R w B e [x,k] (.slice (some ⟨g,0,none⟩) 2 2):=by
 refine⟨_,2,rfl,ac _,λp l=>?_⟩;match p,l with
 |0,_=>exact⟨g,0,a,rfl,f,i,λd v b=>by
   have:=h d v (by rw[List.getElem?_append_left (List.getElem?_eq_some_iff.1 b).1];exact b);simpa using this,λv c=>j v (List.mem_append_left _ c),n⟩
 |1,_=>exact⟨g,0,ds,rfl,f,m,λd v b=>by
   have:=h (a.length+d) v (by rw[List.getElem?_append_right zO,Nat.add_sub_cancel_left];exact b);rw[i] at this;simpa using this,λv c=>j v (List.mem_append_right _ c),o⟩
theorem Blk.ty{w:World}{g:Nat}{t a:TypeId}{b ds:List Value}(h:Blk w g t b)(k:Blk w g a ds):t=a:=h.tag.one k.tag
abbrev cBn:List Value:=[.string tNn,.int .i64 1,.string ⟨#[]⟩,.int .i64 0,.int .i64 0,.int .u64 2,.slice none 0 0]
abbrev cPt(s:ByteArray)(b:Bool):List Value:=[.string s,.bool b,.int .i64 2,.string tNn,.int .i64 0,.int .i64 0,.int .u64 0,.slice none 0 0]
abbrev gC(u:Value):List Value:=[.int .i64 6,.string ⟨#[]⟩,.int .i64 14,.int .i64 0,.int .u64 0,u]
abbrev cIa(u:Value):List Value:=[.int .i64 4,.string ⟨#[]⟩,.string ⟨#[]⟩,u,.slice none 0 0,.slice none 0 0,.slice none 0 0,.slice none 0 0,.slice none 0 0]
def exB(w:World)(u:Value)(a b h g:Nat):Prop:=Blk w a 45 cBn/\Blk w b 42 (cPt tA false++cPt tY true)/\Blk w h 37 (cIa (.slice (some ⟨g,0,none⟩) 2 2))/\Blk w g 40 (cNm tY++gC u)
def exF(W:World)(u:Value)(i:Nat)(v:Value)(w:World):Prop:=
 if i=2 then∃a,v=.slice (some ⟨a,0,none⟩) 1 1/\Blk w a 45 cBn
 else if i=7 then∃a,v=.slice (some ⟨a,0,none⟩) 2 2/\Blk w a 42 (cPt tA false++cPt tY true)
 else if i=10 then∃a,v=.slice (some ⟨a,0,none⟩) 2 2/\Blk w a 40 (cNm tY++gC u)
 else if i=11 then∃a,v=.agg #[.int .i64 4,.string ⟨#[]⟩,.string ⟨#[]⟩,.slice (some ⟨a,0,none⟩) 2 2,.slice none 0 0,.slice none 0 0,.slice none 0 0,.slice none 0 0,.slice none 0 0]/\Blk w a 40 (cNm tY++gC u)
 else if i=12 then∃b a,v=.slice (some ⟨b,0,none⟩) 1 1/\Blk w b 37 (cIa (.slice (some ⟨a,0,none⟩) 2 2))/\Blk w a 40 (cNm tY++gC u)
 else if i=13 then∃c d b a,v=.agg #[.string tM,.slice (some ⟨c,0,none⟩) 1 1,.slice (some ⟨d,0,none⟩) 2 2,.slice (some ⟨b,0,none⟩) 1 1]/\exB w u c d b a
 else if i=14 then∃a,v=.pointer (some ⟨a,0,none⟩)/\W.heap.size<=a/\Blk w a 30 [.string ⟨#[]⟩,.slice none 0 0,.slice none 0 0,.slice none 0 0]
 else v=[.agg #[.int .i64 1,.string ⟨#[]⟩,.int .i64 0,.int .i64 0,.int .u64 2,.slice none 0 0],.agg #[.string tNn,.int .i64 1,.string ⟨#[]⟩,.int .i64 0,.int .i64 0,.int .u64 2,.slice none 0 0],undef,.agg #[.int .i64 2,.string tNn,.int .i64 0,.int .i64 0,.int .u64 0,.slice none 0 0],.agg #[.string tA,.bool false,.int .i64 2,.string tNn,.int .i64 0,.int .i64 0,.int .u64 0,.slice none 0 0],.agg #[.int .i64 2,.string tNn,.int .i64 0,.int .i64 0,.int .u64 0,.slice none 0 0],.agg #[.string tY,.bool true,.int .i64 2,.string tNn,.int .i64 0,.int .i64 0,.int .u64 0,.slice none 0 0],undef,.agg #[.int .i64 2,.string tY,.int .i64 0,.int .i64 0,.int .u64 0,.slice none 0 0],.agg #[.int .i64 6,.string ⟨#[]⟩,.int .i64 14,.int .i64 0,.int .u64 0,u]].getD i undef
theorem ug{W:World}{u:Value}{i:Nat}{v:Value}{w j:World}(h:exF W u i v w)(d:Ext w j):exF W u i v j:=by
 unfold exF at h⊢;by_cases a:i=2
 ·rw[if_pos a] at h⊢;obtain⟨b,e,c⟩:=h;exact⟨b,e,c.ext d⟩
 rw[if_neg a] at h⊢;by_cases a:i=7
 ·rw[if_pos a] at h⊢;obtain⟨b,e,c⟩:=h;exact⟨b,e,c.ext d⟩
 rw[if_neg a] at h⊢;by_cases a:i=10
 ·rw[if_pos a] at h⊢;obtain⟨b,e,c⟩:=h;exact⟨b,e,c.ext d⟩
 rw[if_neg a] at h⊢;by_cases a:i=11
 ·rw[if_pos a] at h⊢;obtain⟨b,e,c⟩:=h;exact⟨b,e,c.ext d⟩
 rw[if_neg a] at h⊢;by_cases a:i=12
 ·rw[if_pos a] at h⊢;obtain⟨g,b,e,c,f⟩:=h;exact⟨g,b,e,c.ext d,f.ext d⟩
 rw[if_neg a] at h⊢;by_cases a:i=13
 ·rw[if_pos a] at h⊢;obtain⟨k,l,g,b,e,c,f,m,n⟩:=h;exact⟨k,l,g,b,e,c.ext d,f.ext d,m.ext d,n.ext d⟩
 rw[if_neg a] at h⊢;by_cases a:i=14
 ·rw[if_pos a] at h⊢;obtain⟨b,e,c,f⟩:=h;exact⟨b,e,c,f.ext d⟩
 rw[if_neg a] at h⊢;exact h
theorem oi{w:World}{B g1 gs a b h g:Nat}(k:Blk w gs 40 (cNm tA++cNm tNn))(l:exB w (.slice (some ⟨gs,0,none⟩) 2 2) a b h g)(c:w.heap.size<=B):RM w B mMm [.string tM,.slice (some ⟨a,0,none⟩) 1 1,.slice (some ⟨b,0,none⟩) 2 2,.slice (some ⟨h,0,none⟩) 1 1]:=by
 obtain⟨e,f,i,j⟩:=l;have d:∀s,RX w B (xNm s) (cNm s):=λs=>RX_iff.2 ⟨_,rfl,bS⟩
 have n:RX w B xSum (gC (.slice (some ⟨gs,0,none⟩) 2 2)):=RX_iff.2 ⟨_,rfl,Sl.twin (aP k.lt c) rfl rfl k.cells zV (d tA) (d tNn)⟩;have m:RI w B iAs (cIa (.slice (some ⟨g,0,none⟩) 2 2)):=RI_iff.2 ⟨_,_,_,_,_,_,rfl,Sl.twin (aP j.lt c) rfl rfl j.cells zV (d tY) n,bS,bS,bS,bS,bS⟩;refine⟨_,_,_,rfl,?_,?_,?_⟩
 ·exact Sl.one (aP e.lt c) rfl e.cells zV ⟨cZ 2,rfl,RX_iff.2 ⟨_,rfl,bS⟩⟩
 ·exact Sl.twin (aP f.lt c) rfl rfl f.cells zV ⟨cNm tNn,rfl,d tNn⟩ ⟨cNm tNn,rfl,d tNn⟩
 ·exact Sl.one (aP i.lt c) rfl i.cells zV m
abbrev cIi(u:Value):List Value:=[.int .i64 7,.string tU,.string tM,.slice none 0 0,.slice none 0 0,.slice none 0 0,.slice none 0 0,.slice none 0 0,u]
abbrev cBd(s:ByteArray)(a:List Value):List Value:=.string s::a
theorem oj{w:World}{B b p h:Nat}(e:Blk w p 42 (.string tY::.bool true::cZ 2))(c:Blk w b 45 (cBd tA (cZ 1)++cBd tY (cNm tY)))(d:Blk w h 37 (cIi (.slice (some ⟨b,0,none⟩) 2 2)))(a:w.heap.size<=B):RM w B mTt [.string tTt,.slice none 0 0,.slice (some ⟨p,0,none⟩) 1 1,.slice (some ⟨h,0,none⟩) 1 1]:=by
 have f:RI w B iIn (cIi (.slice (some ⟨b,0,none⟩) 2 2)):=RI_iff.2 ⟨_,_,_,_,_,_,rfl,bS,bS,bS,bS,bS,Sl.twin (aP c.lt a) rfl rfl c.cells zV ⟨cZ 1,rfl,RX_iff.2 ⟨_,rfl,bS⟩⟩ ⟨cNm tY,rfl,RX_iff.2 ⟨_,rfl,bS⟩⟩⟩;refine⟨_,_,_,rfl,bS,?_,?_⟩
 ·exact Sl.one (aP e.lt a) rfl e.cells zV ⟨cZ 2,rfl,RX_iff.2 ⟨_,rfl,bS⟩⟩
 ·exact Sl.one (aP d.lt a) rfl d.cells zV f
theorem Cb(w:World):
 Calls Tryz.prog 29 #[] w λe J=>∃v,e=.returned (.agg #[v])/\Sl (RM J J.heap.size) J J.heap.size 4 fEx v/\Ext w J:=by
 obtain⟨l8,g2,h6,g6⟩:=aI w (.slice none 0 0) 24;have j3:=g2.symm;have e9:=Hd g6;have i6:=Hd h6;clear g2 h6 g6
 go_in
 go_wp2_with fail
 go_at_call 20;refine(gR tA _).mono ?_;rintro _ n9 ⟨rfl,b7⟩;have i7:=Hd (i6.o.trans b7);have f0:=Hd (e9.o.ext b7);clear b7 j3 e9;go_wp2_with fail
 go_at_call 20;refine(gR tNn _).mono ?_;rintro _ q ⟨rfl,b8⟩;obtain⟨L,Z⟩:∃L,L=q.alloc (.cells #[.int .i64 2,.string tA,.int .i64 0,.int .i64 0,.int .u64 0,.slice none 0 0,.int .i64 2,.string tNn,.int .i64 0,.int .i64 0,.int .u64 0,.slice none 0 0] 40):=⟨_,rfl⟩;have j4:=Z.symm;have h1:Blk L q.heap.size 40 (cNm tA++cNm tNn):=by rw[Z];exact ax q _ (cNm tA++cNm tNn)
 have b9:Ext q L:=by rw[Z];exact aD _ _
 obtain⟨l9,i,j5,a4,k2,a7,a8,a9,b0,b1,b2⟩:=cA L (.int .i64 6) (.string ⟨#[]⟩) (.int .i64 14) (.int .i64 0) (.int .u64 0) (.slice (some ⟨q.heap.size,0,none⟩) 2 2) 40;have a7:=an a7 i.ext;have a8:=an a8 i.ext;have a9:=an a9 i.ext;have b0:=an b0 i.ext;have b1:=an b1 i.ext;have b2:=an b2 i.ext;have i8:=Hd (i7.o.trans (b8.trans (b9.trans (a4.trans i.ext))));have f3:=Hd (f0.o.ext (b8.trans (b9.trans (a4.trans i.ext))));have f5:=Hd (h1.ext (a4.trans i.ext));clear b8 Z h1 b9 a4 k2 f0;go_wp2_with fail
 refine bK 15 (W:=i.w) (Ext) (exF i.w (.slice (some ⟨q.heap.size,0,none⟩) 2 2)) (λ_ _=>False) (λ_=>true) zK (bq) zK zK ?_ (af _) (λm9 v w J M g=>ug M g) ?_ (λh m0 w a k0=>k0.elim) ?_
 ·exact⟨rfl,rfl,rfl,rfl,rfl,rfl,rfl,rfl,rfl,rfl,rfl,rfl,rfl,rfl,rfl,trivial⟩
 ·refine⟨?_,?_,?_,?_,?_,?_,?_,?_,?_,?_,?_,?_,?_,?_,?_,trivial⟩
  ·intro h k b a c;obtain⟨d,rfl⟩:=ae b;clear a c;go_simp;refine(lK 2 zD zD d.w).mono ?_;rintro _ e6 ⟨rfl,g⟩;go_simp;first|exact⟨_,rfl,g,rfl⟩|exact⟨g,rfl⟩|exact⟨_,rfl,rfl⟩|exact g
  rotate_left 1
  ·intro h k b a c;obtain⟨d,rfl⟩:=ae b;have k5:=ab a 1 9 zK rfl;simp[exF] at k5;clear a c;go_simp;first|exact⟨_,rfl,aD _ _,_,rfl,ax _ _ cBn⟩|exact⟨aD _ _,_,rfl,ax _ _ cBn⟩
  ·intro h k b a c;obtain⟨d,rfl⟩:=ae b;clear a c;go_simp;refine(gR tNn d.w).mono ?_;rintro _ e6 ⟨rfl,g⟩;go_simp;first|exact⟨_,rfl,g,rfl⟩|exact⟨g,rfl⟩|exact⟨_,rfl,rfl⟩|exact g
  rotate_left 1
  ·intro h k b a c;obtain⟨d,rfl⟩:=ae b;clear a c;go_simp;refine(gR tNn d.w).mono ?_;rintro _ e6 ⟨rfl,g⟩;go_simp;first|exact⟨_,rfl,g,rfl⟩|exact⟨g,rfl⟩|exact⟨_,rfl,rfl⟩|exact g
  rotate_left 1
  ·intro h k b a c;obtain⟨d,rfl⟩:=ae b;have l1:=ab a 4 12 zK rfl;simp[exF] at l1;have l3:=ab a 6 14 zK rfl;simp[exF] at l3;clear a c;go_simp;first|exact⟨_,rfl,aD _ _,_,rfl,ax _ _ (cPt tA false++cPt tY true)⟩|exact⟨aD _ _,_,rfl,ax _ _ (cPt tA false++cPt tY true)⟩
  ·intro h k b a c;obtain⟨d,rfl⟩:=ae b;clear a c;go_simp;refine(gR tY d.w).mono ?_;rintro _ e6 ⟨rfl,g⟩;go_simp;first|exact⟨_,rfl,g,rfl⟩|exact⟨g,rfl⟩|exact⟨_,rfl,rfl⟩|exact g
  rotate_left 1
  ·intro h k b a c;obtain⟨d,rfl⟩:=ae b;have l5:=ab a 8 16 zK rfl;simp[exF] at l5;have l6:=ab a 9 17 zK rfl;simp[exF] at l6;clear a c;go_simp;first|exact⟨_,rfl,aD _ _,_,rfl,ax _ _ (cNm tY++gC (.slice (some ⟨q.heap.size,0,none⟩) 2 2))⟩|exact⟨aD _ _,_,rfl,ax _ _ (cNm tY++gC (.slice (some ⟨q.heap.size,0,none⟩) 2 2))⟩
  ·intro h k b a c;obtain⟨d,rfl⟩:=ae b;obtain⟨p,k6,g7⟩:=ab a 10 18 zK rfl;simp at k6;have X:=Hd g7;clear g7;clear a c;go_simp;first|exact⟨_,rfl,af _,_,rfl,X.o⟩|exact⟨af _,_,rfl,X.o⟩|exact⟨_,rfl,_,rfl,X.o⟩|exact⟨_,rfl,X.o⟩
  ·intro h k b a c;obtain⟨d,rfl⟩:=ae b;obtain⟨p,k7,g8⟩:=ab a 11 19 zK rfl;simp at k7;have f1:=Hd g8;clear g8;clear a c;go_simp;first|exact⟨_,rfl,aD _ _,_,_,rfl,ax _ _ (cIa (.slice (some ⟨p,0,none⟩) 2 2)),f1.o.ext (aD _ _)⟩|exact⟨aD _ _,_,_,rfl,ax _ _ (cIa (.slice (some ⟨p,0,none⟩) 2 2)),f1.o.ext (aD _ _)⟩
  ·intro h k b a c;obtain⟨d,rfl⟩:=ae b;obtain⟨m1,k9,h0⟩:=ab a 2 10 zK rfl;simp at k9;have Y:=Hd h0;clear h0;obtain⟨m2,l4,Q⟩:=ab a 7 15 zK rfl;simp at l4;have A:=Hd Q;clear Q;obtain⟨M,p,k8,g9⟩:=ab a 12 20 zK rfl;simp at k8;have y:=Hd g9;clear g9;clear a c;go_simp;first|exact⟨_,rfl,af _,_,_,_,_,rfl,Y.o,A.o,y.o.1,y.o.2⟩|exact⟨af _,_,_,_,_,rfl,Y.o,A.o,y.o.1,y.o.2⟩|exact⟨_,rfl,_,_,_,_,rfl,Y.o,A.o,y.o.1,y.o.2⟩|exact⟨_,_,_,_,rfl,Y.o,A.o,y.o.1,y.o.2⟩
  ·intro h k b a c;obtain⟨d,rfl⟩:=ae b;clear a c;go_simp;first|exact⟨_,rfl,aD _ _,_,rfl,d.ext.size,ax _ _ [.string ⟨#[]⟩,.slice none 0 0,.slice none 0 0,.slice none 0 0]⟩|exact⟨aD _ _,_,rfl,d.ext.size,ax _ _ [.string ⟨#[]⟩,.slice none 0 0,.slice none 0 0,.slice none 0 0]⟩
  all_goals
   intro h k b a c;obtain⟨d,rfl⟩:=ae b;try (have k4:=ab a 0 8 zD rfl;simp[exF] at k4)
   try (have l0:=ab a 3 11 zD rfl;simp[exF] at l0)
   try (have l2:=ab a 5 13 zD rfl;simp[exF] at l2)
   have l7:=ag c 1 zK;simp at l7;clear a c;exact zA
 ·intro h k j8;obtain⟨g0,rfl,b,b5,f⟩:=j8.fin (n:=37) rfl;obtain⟨d,rfl⟩:=ae b;have c4:=f 0 zK;have c5:=f 1 zK;have d4:=f 3 zK;have e2:=f 4 zK;have e3:=f 5 zK;have e4:=f 6 zK;have e5:=f 7 zK;have c6:=f 22 zK;have c7:=f 23 zK;have c8:=f 24 zK;have c9:=f 25 zK;have d0:=f 26 zK;have d1:=f 27 zK;have d2:=f 28 zK;have d3:=f 29 zK;have d5:=f 30 zK;have d6:=f 31 zK;have d7:=f 32 zK;have d8:=f 33 zK;have d9:=f 34 zK;have e0:=f 35 zK;have e1:=f 36 zK;obtain⟨D,i0,a3,P⟩:=(show∃p,g0 2=.pointer (some ⟨p,0,none⟩)/\i.w.heap.size<=p/\Blk d.w p 30 [.string ⟨#[]⟩,.slice none 0 0,.slice none 0 0,.slice none 0 0] from b5 14 2 rfl rfl);obtain⟨E,F,G,j2,i1,S⟩:=(show∃f8 f9 M p,g0 21=.agg #[.string tM,.slice (some ⟨f8,0,none⟩) 1 1,.slice (some ⟨f9,0,none⟩) 2 2,.slice (some ⟨M,0,none⟩) 1 1]/\exB d.w (.slice (some ⟨q.heap.size,0,none⟩) 2 2) f8 f9 M p from b5 13 21 rfl rfl);clear b5 f;simp at c4 c5 d4 e2 e3 e4 e5 c6 c7 c8 c9 d0 d1 d2 d3 d5 d6 d7 d8 d9 e0 e1;simp only[List.drop_succ_cons,List.drop_zero];simp[List.range,List.range.loop,c4,c5,d4,e2,e3,e4,e5,c6,c7,c8,c9,d0,d1,d2,d3,d5,d6,d7,d8,d9,e0,e1,i0,i1];clear c4 c5 d4 e2 e3 e4 e5 c6 c7 c8 c9 d0 d1 d2 d3 d5 d6 d7 d8 d9 e0 e1 i0 i1;obtain⟨o5,o6,o7,o8⟩:=P.get4;obtain⟨o1,o2,o3,o4⟩:=P.free4;have h9:=d.ext;obtain⟨C,N⟩:∃C,C=((((d.w.setCell ⟨D,0,none⟩ (.string tM)).setCell ⟨D,1,none⟩ (.slice (some ⟨E,0,none⟩) 1 1)).setCell ⟨D,2,none⟩ (.slice (some ⟨F,0,none⟩) 2 2)).setCell ⟨D,3,none⟩ (.slice (some ⟨G,0,none⟩) 1 1)):=⟨_,rfl⟩;have j6:=N.symm;have far:∀{x:TypeId} {B:List Value} {u:Nat},Blk d.w u x B->x≠30->Blk C u x B:=λ{x B u} O b6=>by
   have I:u≠D:=λe=>b6 (Blk.ty (e▸O) P)
   rw[N];exact(((O.far I _).far I _).far I _).far I _
  have h5:Blk C D 30 [.string tM,.slice (some ⟨E,0,none⟩) 1 1,.slice (some ⟨F,0,none⟩) 2 2,.slice (some ⟨G,0,none⟩) 1 1]:=by rw[N];exact P.store4 _ _ _ _
  have a5:Ext i.w C:=by rw[N];exact(((h9.setCell a3 _).setCell a3 _).setCell a3 _).setCell a3 _
  have z:=Hd (show exB C (.slice (some ⟨q.heap.size,0,none⟩) 2 2) E F G j2 from⟨far S.1 zD,far S.2.1 zD,far S.2.2.1 zD,far S.2.2.2 zD⟩);have i3:=Hd h5;have i9:=Hd (i8.o.trans a5);have f4:=Hd (f3.o.ext a5);have f6:=Hd (f5.o.ext a5);clear P S h9 N far h5 a5 j4 j5 a7 a8 a9 b0 b1 b2 f3 f5;go_wp2_with fail
  go_at_call 14;refine(lK 2 zD zD _).mono ?_;rintro _ K ⟨rfl,h7⟩;obtain⟨i4,g3,h8,Q⟩:=dg K (.string ⟨#[121]⟩) (.bool true) (.int .i64 1) (.string ⟨#[]⟩) (.int .i64 0) (.int .i64 0) (.int .u64 2) (.slice none 0 0) 42;have j7:=g3.symm;have j0:=Hd (h7.trans h8);have A:=Hd (show Blk i4 K.heap.size 42 (.string tY::.bool true::cZ 2) from Q);clear h7 g3 h8 Q j6;go_wp2_with fail
  go_at_call 14;refine(lK 1 zD zD _).mono ?_;rintro _ o0 ⟨rfl,c0⟩;have j1:=Hd (j0.o.trans c0);have f2:=Hd (A.o.ext c0);clear c0 j7 A;go_wp2_with fail
  go_at_call 20;refine(gR tY _).mono ?_;rintro _ V ⟨rfl,c1⟩;obtain⟨r,a0⟩:∃r,r=V.alloc (.cells #[.string ⟨#[97]⟩,.int .i64 1,.string ⟨#[]⟩,.int .i64 0,.int .i64 0,.int .u64 1,.slice none 0 0,.string ⟨#[121]⟩,.int .i64 2,.string tY,.int .i64 0,.int .i64 0,.int .u64 0,.slice none 0 0] 45):=⟨_,rfl⟩;have m3:=a0.symm;have b3:Blk r V.heap.size 45 (cBd tA (cZ 1)++cBd tY (cNm tY)):=by rw[a0];exact ax V _ (cBd tA (cZ 1)++cBd tY (cNm tY))
  have c2:Ext V r:=by rw[a0];exact aD _ _
  obtain⟨i5,g4,c3,b4⟩:=bQ r (.int .i64 7) (.string ⟨#[117]⟩) (.string ⟨#[109]⟩) (.slice none 0 0) (.slice none 0 0) (.slice none 0 0) (.slice none 0 0) (.slice none 0 0) (.slice (some ⟨V.heap.size,0,none⟩) 2 2) 37;have m4:=g4.symm;obtain⟨s,g5,T,h2⟩:=bM i5 (.string ⟨#[116]⟩) (.slice none 0 0) (.slice (some ⟨K.heap.size,0,none⟩) 1 1) (.slice (some ⟨r.heap.size,0,none⟩) 1 1) 30;have m5:=g5.symm;have f7:=Hd (j1.o.trans (c1.trans (c2.trans (c3.trans T))));obtain⟨n0,n1,n2,n3⟩:=(i3.o.ext f7.o).get4;obtain⟨n4,n5,n6,n7⟩:=h2.get4;obtain⟨l,a1⟩:∃l,l=s.alloc (.cells #[.string tM,.slice (some ⟨E,0,none⟩) 1 1,.slice (some ⟨F,0,none⟩) 2 2,.slice (some ⟨G,0,none⟩) 1 1,.string ⟨#[116]⟩,.slice none 0 0,.slice (some ⟨K.heap.size,0,none⟩) 1 1,.slice (some ⟨r.heap.size,0,none⟩) 1 1] 30):=⟨_,rfl⟩;have m6:=a1.symm;have a2:Blk l s.heap.size 30 ([.string tM,.slice (some ⟨E,0,none⟩) 1 1,.slice (some ⟨F,0,none⟩) 2 2,.slice (some ⟨G,0,none⟩) 1 1]++[.string tTt,.slice none 0 0,.slice (some ⟨K.heap.size,0,none⟩) 1 1,.slice (some ⟨r.heap.size,0,none⟩) 1 1]):=by rw[a1];exact ax s _ ([.string tM,.slice (some ⟨E,0,none⟩) 1 1,.slice (some ⟨F,0,none⟩) 2 2,.slice (some ⟨G,0,none⟩) 1 1]++[.string tTt,.slice none 0 0,.slice (some ⟨K.heap.size,0,none⟩) 1 1,.slice (some ⟨r.heap.size,0,none⟩) 1 1])
  have U:Ext s l:=by rw[a1];exact aD _ _
  have a6:=c3.trans (T.trans U);have e7:=c1.trans (c2.trans a6);have j:=f7.o.trans U
  have k1:Sl (RM l l.heap.size) l l.heap.size 4 fEx (.slice (some ⟨s.heap.size,0,none⟩) 2 2):=
   Sl.twin a2.lt rfl rfl a2.cells zV
    (oi (g1:=0) (f6.o.ext j) (by exact⟨z.o.1.ext j,z.o.2.1.ext j,z.o.2.2.1.ext j,z.o.2.2.2.ext j⟩) (ac _))
    (oj (f2.o.ext e7) (b3.ext a6) (b4.ext (T.trans U)) (ac _))
  have R:=f4.o.ext j;have k3:=R.cell 0;simp only[List.getElem?_cons_zero] at k3;have n8:=R.frozen 0;have j9:=f4.o.lt;obtain⟨m,H⟩:∃m,m=l.setCell ⟨w.heap.size,0,none⟩ (.slice (some ⟨s.heap.size,0,none⟩) 2 2):=⟨_,rfl⟩;have m7:=H.symm;have h4:Blk m w.heap.size 24 [.slice (some ⟨s.heap.size,0,none⟩) 2 2]:=by rw[H];exact R.store1 _
  have i2:=h4.cell 0;simp only[List.getElem?_cons_zero] at i2;have e8:=Hd (show Sl (RM m m.heap.size) m m.heap.size 4 fEx (.slice (some ⟨s.heap.size,0,none⟩) 2 2)/\Ext w m from by
   refine⟨?_,by rw[H];exact(i9.o.trans j).setCell (ac _) _⟩;have t:∀{x:TypeId} {B:List Value} {u:Nat},Blk l u x B->x≠24->Blk m u x B:=λ{x B u} O b6=>by
    have I:u≠w.heap.size:=λe=>b6 (Blk.ty (e▸O) R)
    rw[H];exact O.far I _
   have m8:m.heap.size=l.heap.size:=by rw[H];simp[World.setCell]
   have h3:=t a2 zD
   exact Sl.twin h3.lt rfl rfl h3.cells zV
    (oi (g1:=0) (t (f6.o.ext j) zD) (by exact⟨t (z.o.1.ext j) zD,t (z.o.2.1.ext j) zD,t (z.o.2.2.1.ext j) zD,t (z.o.2.2.2.ext j) zD⟩) (ac _))
    (oj (t (f2.o.ext e7) zD) (t (b3.ext a6) zD) (t (b4.ext (T.trans U)) zD) (ac _)))
  clear c1 a0 b3 c2 g4 c3 b4 g5 T h2 a1 a2 U a6 e7 j k1 R j9 H h4;go_wp2_with fail
  refine bodyPost_ret (v:=.agg #[.slice (some ⟨s.heap.size,0,none⟩) 2 2]) ?_ rfl ⟨_,rfl,e8.o.1,e8.o.2⟩;simp[results,results29,go_sem,i2]
