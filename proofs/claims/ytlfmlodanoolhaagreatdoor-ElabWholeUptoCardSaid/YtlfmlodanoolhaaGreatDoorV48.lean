import Derived.Test.YtlfmlodanoolhaaGreatDoorV46
import Derived.Test.YtlfmlodanoolhaaGreatDoorV45
set_option linter.all false
set_option maxRecDepth 200000
set_option maxHeartbeats 0
namespace Go.Proofs.YtlfmlodanoolhaaGreatDoor
open Go Go.RowKit Go.Proofs.Tryz
attribute [local go_sem] bc
def wiF(W:World)(s:Sc)(d:ByteArray)(vals:List Value)(i:Nat)(v:Value)(w:World):Prop:=
 if i=5 then∃a,v=.map (some a)/\W.heap.size<=a/\EnvM w a s.sigs
 else if i=10 then∃b a,v=.agg #[b,.map (some a),.string (s.path++d)]/\SlT 85 RNm w 2 s.env b/\W.heap.size<=a/\EnvM w a s.sigs
 else if i=11 then∃c a b,v=.pointer (some ⟨c,0,none⟩)/\W.heap.size<=c/\W.heap.size<=a/\ScI w c a b ⟨s.env,s.sigs,s.path++d⟩
 else v=vals.getD i undef
theorem ut{W:World}{s:Sc}{j:ByteArray}{vals:List Value}{i:Nat}{v:Value}{w k:World}(h:wiF W s j vals i v w)(f:Ext w k):wiF W s j vals i v k:=by
 unfold wiF at h⊢;split
 ·rename_i hi;rw[if_pos hi] at h;obtain⟨b,c,d,a⟩:=h;exact⟨b,c,d,a.of_eq (f.heap a.lt)⟩
 rename_i hi
 rw[if_neg hi] at h;split
 ·rename_i hi;rw[if_pos hi] at h;obtain⟨g,b,c,d,a,e⟩:=h;exact⟨g,b,c,d.keep (.inr (.inr rfl)) f.kp (λ_ _ _ h=>h),a,e.of_eq (f.heap e.lt)⟩
 rename_i hi
 rw[if_neg hi] at h;split
 ·rename_i hi;rw[if_pos hi] at h;obtain⟨l,b,g,c,d,a,e⟩:=h;exact⟨l,b,g,c,d,a,e.ext f⟩
 ·rename_i hi;rw[if_neg hi] at h;exact h
def WiR(s:Sc)(d:ByteArray)(w:World)(e:Ending)(c:World):Prop:=∃a b f,e=.returned (.pointer (some ⟨a,0,none⟩))/\w.heap.size<=a/\w.heap.size<=b/\ScI c a b f ⟨s.env,s.sigs,s.path++d⟩/\Ext w c
theorem Bo(s:Sc)(T:Value)(mp:Nat)(e:ByteArray)(w:World)(N:SlT 85 RNm w 2 s.env T)(t:EnvM w mp s.sigs)(d6:s.env.length<=1000000)(d7:s.path.size<=1000000000)(d8:e.size<=1000000000):
 Calls Tryz.prog 114 #[.agg #[T,.map (some mp),.string s.path],.string e] w (WiR s e w):=by
 have c6:=Hd N;have c7:=Hd t;have d9:¬(9223372036854775807<s.path.size+e.size):=by omega
 obtain⟨h,A,rfl,a3,P⟩:=N;have X:=Hd (show∀f,Ext w f->SlT 85 RNm f 2 s.env (.slice h s.env.length s.env.length) from λf g=>SlT.keep (⟨h,s.env.length,rfl,ac _,P⟩:SlT 85 RNm w 2 s.env (.slice h s.env.length s.env.length)) (.inr (.inr rfl)) g.kp (λ_ _ _ m=>m));obtain⟨r,D,R,E⟩:=eS w (.slice h s.env.length A) (.map (some mp)) (.string s.path) 126;have a2:=D.symm;have e3:w.heap.size<r.heap.size:=E.lt;obtain⟨c9,d0,d1⟩:=E.later3;have k:=Hd R;obtain⟨a0,F⟩:=ae (W:=r) (w:=r) (af _);have d5:=D.symm.trans F;have c8:=Hd F;have Y:=Hd (λf=>qo h s.env.length A a3 zO f);have Z:=Hd (λ(f:World) (g:Ext w f)=>rp mp s.sigs f (t.of_eq (g.heap t.lt)));clear a2 D F R E P t
 go_in
 go_wp2_with fail
 refine bD 12 (W:=r) (Ext) (wiF w s e [.pointer (some ⟨w.heap.size,0,none⟩),.slice h s.env.length A,.slice h s.env.length s.env.length,.pointer (some ⟨w.heap.size,1,none⟩),.map (some mp),undef,.pointer (some ⟨w.heap.size,2,none⟩),.string s.path,.string e,.string (s.path++e),undef,undef]) (λ_ _=>False) (λ_=>true) zK (bo) zK zK ?_ (ag a0) (λe1 v w f m g=>ut m g) ?_ (λj d2 w a a5=>a5.elim) ?_
 ·exact⟨rfl,rfl,rfl,rfl,rfl,rfl,rfl,rfl,rfl,rfl,rfl,rfl,trivial⟩
 ·refine⟨?_,?_,?_,?_,?_,?_,?_,?_,?_,?_,?_,?_,trivial⟩;rotate_left 2
  ·intro j q d a c;obtain⟨b,rfl⟩:=ae d;have a8:=ab a 1 6 zK rfl;simp[wiF] at a8;clear a c;go_simp;refine(Y.o b.w).mono ?_;rintro _ c2 ⟨rfl,rfl⟩;go_simp;first|exact⟨_,rfl,af _,rfl⟩|exact⟨af _,rfl⟩|exact⟨_,rfl,rfl⟩|exact af _|exact rfl
  rotate_left 2
  ·intro j q d a c;obtain⟨b,rfl⟩:=ae d;have b2:=ab a 4 9 zK rfl;simp[wiF] at b2;clear a c;go_simp;refine(Z.o b.w (k.o.trans b.ext)).mono ?_;rintro _ c2 ⟨rfl,H,g⟩;have i:w.heap.size<=b.w.heap.size:=(k.o.trans b.ext).size;go_simp;first|exact⟨_,rfl,g,_,rfl,i,H⟩|exact⟨g,_,rfl,i,H⟩|exact⟨_,rfl,_,rfl,i,H⟩
  rotate_left 4
  ·intro j q d a c;obtain⟨b,rfl⟩:=ae d;have b0:=ab a 2 7 zK rfl;simp[wiF] at b0;obtain⟨d4,b3,O⟩:=ab a 5 10 zK rfl;simp at b3;have x:=Hd O;clear O;have b7:=ab a 9 14 zK rfl;simp[wiF] at b7;clear a c;go_simp;have y:=Hd (X.o b.w (k.o.trans b.ext));first|exact⟨_,rfl,af _,_,_,rfl,y.o,x.o⟩|exact⟨af _,_,_,rfl,y.o,x.o⟩|exact⟨_,rfl,_,_,rfl,y.o,x.o⟩
  ·intro j q d a c;obtain⟨b,rfl⟩:=ae d;obtain⟨p,l,a9,G⟩:=ab a 10 15 zK rfl;simp at a9;have e2:=G.1.oneCell;have V:=Hd G;clear G;clear a c;go_simp;obtain⟨J,B,C⟩:=V.o;obtain⟨c1,Q,u,K⟩:=eS b.w p (.map (some l)) (.string (s.path++e)) 126;have e0:=Q.symm;have i:w.heap.size<=b.w.heap.size:=(k.o.trans b.ext).size;have z:=Hd (show ScI c1 b.w.heap.size l p ⟨s.env,s.sigs,s.path++e⟩ from⟨K,J.keep (.inr (.inr rfl)) u.kp (λ_ _ _ m=>m),C.of_eq (u.heap C.lt)⟩);clear Q K J C;go_simp;first|exact⟨_,rfl,u,_,l,p,rfl,i,B,z.o⟩|exact⟨u,_,l,p,rfl,i,B,z.o⟩|exact⟨_,rfl,_,l,p,rfl,i,B,z.o⟩
  all_goals
   intro j q d a c;obtain⟨b,rfl⟩:=ae d;try (have a7:=ab a 0 5 zD rfl;simp[wiF] at a7)
   try (have b1:=ab a 3 8 zD rfl;simp[wiF] at b1)
   try (have b4:=ab a 6 11 zD rfl;simp[wiF] at b4)
   try (have b5:=ab a 7 12 zD rfl;simp[wiF] at b5)
   try (have b6:=ab a 8 13 zD rfl;simp[wiF] at b6)
   have b9:=ah c 2 zK;simp at b9;have b8:=ah c 1 zK;simp at b8;clear a c;exact zA
 ·intro j q a4;obtain⟨d3,rfl,d,M,a6⟩:=a4.fin (n:=17) rfl;obtain⟨b,rfl⟩:=ae d;obtain⟨I,a1,c0,S,L⟩:=M 11 16 rfl rfl;have U:=Hd L;clear L;clear M a6;simp only[List.drop_succ_cons,List.drop_zero];simp[List.range,List.range.loop,S];clear S;obtain⟨c3,c4,c5⟩:=U.o;go_wp2_with fail
  refine bodyPost_ret (v:=.pointer (some ⟨I,0,none⟩)) ?_ rfl ⟨I,a1,c0,rfl,c3,c4,c5,k.o.trans b.ext⟩;simp[results,results114,go_sem]
