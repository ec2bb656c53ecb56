import Derived.Lib.AppendZerosOnto
import Derived.Test.YtlfmlodanoolhaaGreatDoorV7
import Derived.Test.YtlfmlodanoolhaaGreatDoorV16
set_option linter.all false
set_option maxRecDepth 200000
set_option maxHeartbeats 0
namespace Go.Proofs.YtlfmlodanoolhaaGreatDoor
open Go Go.RowKit Go.Proofs.Tryz
attribute [local go_sem] bc
theorem pN:(Tryz.prog.info? 37).map (λi=>(i.zero,i.size,i.bytes))=some (some (.agg #[.int .i64 0,.string ⟨#[]⟩,.string ⟨#[]⟩,.slice none 0 0,.slice none 0 0,.slice none 0 0,.slice none 0 0,.slice none 0 0,.slice none 0 0]),9,184):=by kernel_rfl
theorem vL(n:Nat)(w:World)(D:n<=100000000):
 Calls Tryz.prog 178 #[.slice none 0 0,.int .i64 n] w λe v=>∃l m,e=.returned (.slice l 0 m)/\v.ownsRow w.heap.size 37 9 (.slice l 0 m) 0 []/\Ext w v:=by
 rcases Nat.eq_zero_or_pos n with h|h
 ·subst h
  go_in
  go_wp2
  go_ret;exact⟨none,0,rfl,⟨rfl,.inl ⟨rfl,rfl⟩⟩,af _⟩
 ·obtain⟨f,x,z,y,u⟩:=info_parts pN;have s:Builtin.nextslicecap (0+n) 0*f.bytes<=281474976710656:=growslice_fits zO (by rw[u];omega);have t:(Builtin.firstCells f.size 0 (.slice none 0 0)).run Tryz.prog w.drew=.ok ([]:List Value).toArray w.drew:=run_firstCells_none w.drew f.size 0 0 0;have j:∀ty,(Builtin.append_ #[28,3] ty #[.slice none 0 0,.int .i64 (n:Nat)]).run Tryz.prog w=_:=λty=>
   Lib.run_append_grow_zeros w 28 3 ty 37 f _ .i64 .i64 underlying28 underlying3 x z none 0 0 [] t n h (by rw[y];decide) zO zO (by rw[u];omega) s
  have c:=grownCap_le_maxLen w (0+n) 0 37 (by unfold maxLen;omega);have i:=grownCap_ge w (0+n) 0 37;have r:∀g:Array Value,g.size=9->(([]:List Value).toArray++Builtin.zeroCells g n++Builtin.zeroCells g (grownCap w (0+n) 0 37 - (0+n))).size=grownCap w (0+n) 0 37*9:=λg A=>by
   rw[Array.size_append,Array.size_append,size_zeroCells,size_zeroCells,A];show 0+n*9+(grownCap w (0+n) 0 37 - (0+n))*9=grownCap w (0+n) 0 37*9;omega
  have d:=r _ (show(Value.agg #[.int .i64 0,.string ⟨#[]⟩,.string ⟨#[]⟩,.slice none 0 0,.slice none 0 0,.slice none 0 0,.slice none 0 0,.slice none 0 0,.slice none 0 0]).cells.size=9 from rfl);obtain⟨a,p⟩:∃a,a=grownCap w (0+n) 0 37:=⟨_,rfl⟩;rw[<-p] at j c i d;obtain⟨b,q⟩:∃b,b=([]:List Value).toArray++Builtin.zeroCells (Value.agg #[.int .i64 0,.string ⟨#[]⟩,.string ⟨#[]⟩,.slice none 0 0,.slice none 0 0,.slice none 0 0,.slice none 0 0,.slice none 0 0,.slice none 0 0]).cells n++Builtin.zeroCells (Value.agg #[.int .i64 0,.string ⟨#[]⟩,.string ⟨#[]⟩,.slice none 0 0,.slice none 0 0,.slice none 0 0,.slice none 0 0,.slice none 0 0,.slice none 0 0]).cells (a - (0+n)):=⟨_,rfl⟩;rw[<-q] at j d
  have k:=Hd (show(w.drew.alloc (.cells b 37)).ownsRow w.heap.size 37 9 (.slice (some ⟨w.heap.size,0,none⟩) 0 a) 0 []/\Ext w (w.drew.alloc (.cells b 37)) from
   ⟨⟨rfl,.inr ⟨w.heap.size,a,b,rfl,ac _,World.alloc_heap_new w.drew _,aA _,c,d,zS⟩⟩,(af w).drew.alloc _⟩)
  have B:(a:Int)<=9223372036854775807:=by unfold maxLen at c;omega
  have C:0+n<=a:=i;clear t s r d q c p i
  go_in
  go_wp2_with (at_builtin;refine Lib.wpList_append_run _ rfl _ _ _ _ rfl _ _ rfl rfl _ _ (j _) ?_)
  all_goals
   go_ret;exact⟨some ⟨w.heap.size,0,none⟩,a,rfl,k.o.1,k.o.2⟩
theorem zH(g:Nat)(y z:Option Addr)(c d N O:Nat)(r t:List Value)(w:World)(A:Blk w g 28 [.slice y c N,.slice z d O])(H:Flat w 9 y c r)(h2:Flat w 9 z d t)(a6:c<=10000000)(a7:d<=10000000):
 Calls Tryz.prog 143 #[.slice (some ⟨g,0,none⟩) 2 2] w λe s=>∃m j,e=.returned (.slice m (c+d) j)/\s.ownsRow w.heap.size 37 9 (.slice m (c+d) j) (c+d) (r++t)/\Ext w s:=by
 obtain⟨P,K,M,L,J⟩:=info_parts pN;have E:=Hd A;obtain⟨F,G⟩:=A.get2;clear A
 go_in
 go_wp2_with fail
 go_loopw [3,11] (λa0 i wr=>∃a:Nat,a<=2/\i=.int .i64 a/\a0=.int .i64 ((if 1<=a then c else 0)+(if 2<=a then d else 0):Nat)/\wr=w) (λ_ i _=>2 - (intOf i).toNat)
 case atStart=>exact⟨0,zO,rfl,rfl,rfl⟩
 case round=>
  obtain⟨a,X,rfl,rfl,rfl⟩:=hrel;rcases(show a=0\/a=1\/a=2 by omega) with rfl|rfl|rfl
  ·simp only[Nat.not_le_of_lt (show 0<1 by decide),Nat.not_le_of_lt (show 0<2 by decide),if_false];go_wp2_with fail
   go_roundw;case rel=>exact⟨1,zO,by go_num,zS,trivial⟩
   case measure=>simp[intOf]
  ·simp only[Nat.le_refl,Nat.not_le_of_lt (show 1<2 by decide),if_false,if_true];go_wp2_with fail
   go_roundw;case rel=>exact⟨2,zO,by go_num,zS,trivial⟩
   case measure=>simp[intOf]
  ·simp only[Nat.le_refl,show 1<=2 by decide,if_true];go_wp2_with fail
   go_at_call 178;refine(vL (c+d) _ zO).mono ?_;rintro _ a5 ⟨m,j,rfl,h,b⟩;have S:=Hd h;have T:=Hd b;have Q:=Hd H;have R:=Hd h2;have a1:=Hd (E.o.ext b);obtain⟨k,Y⟩:∃k,k=wr:=⟨_,rfl⟩;subst Y;clear h b H h2 F G;go_wp2_with fail
   go_loopw [6,27] (λv i wr=>∃a:Nat,a<=2/\i=.int .i64 a/\wr.ownsRow k.heap.size 37 9 v ((if 1<=a then c else 0)+(if 2<=a then d else 0)) ((if 1<=a then r else [])++(if 2<=a then t else []))/\Ext k wr) (λ_ i _=>2 - (intOf i).toNat)
   case atStart=>exact⟨0,zO,rfl,S.o,T.o⟩
   case round=>
    obtain⟨a,X,rfl,h,b⟩:=hrel;obtain⟨F,G⟩:=(E.o.ext b).get2;have a4:=b.size;have f:=Hd h;have x:=Hd b;rcases(show a=0\/a=1\/a=2 by omega) with rfl|rfl|rfl
    ·simp only[Nat.not_le_of_lt (show 0<1 by decide),Nat.not_le_of_lt (show 0<2 by decide),if_false,Nat.add_zero,List.append_nil] at f;have u:=Hd (Q.o.ext b);clear h b
     go_wp2_with (at_builtin;refine gu rfl _ _ 28 rfl k.heap.size 37 P _ 9 184 underlying28 K M L J rfl zD zD u6 0 [] rfl f.o y c N r rfl u.o zO zO zO ?_;intro Z s p n B
                  have q:=x.o.grown n (λD C=>(f.o.lt D C).1);have l:=Hd (aq p q)
                  clear p q B n)
     go_roundw;case rel=>exact⟨1,zO,by go_num,by simpa using l.o.1,l.o.2⟩
     case measure=>simp[intOf]
    ·simp only[Nat.le_refl,Nat.not_le_of_lt (show 1<2 by decide),if_false,if_true,Nat.add_zero,List.append_nil] at f;have u:=Hd (R.o.ext b);clear h b
     go_wp2_with (at_builtin;refine gu rfl _ _ 28 rfl k.heap.size 37 P _ 9 184 underlying28 K M L J rfl zD zD u6 c r rfl f.o z d O t rfl u.o zO zO zO ?_;intro Z s p n B
                  have q:=x.o.grown n (λD C=>(f.o.lt D C).1);have l:=Hd (aq p q)
                  clear p q B n)
     go_roundw;case rel=>exact⟨2,zO,by go_num,by simpa using l.o.1,l.o.2⟩
     case measure=>simp[intOf]
    ·simp only[Nat.le_refl,show 1<=2 by decide,if_true] at f;have I:=f.o.2;obtain⟨U,V,rfl⟩:∃m j,u6=.slice m (c+d) j:=by
      rcases I with⟨rfl,W⟩|⟨a3,j,a2,rfl,-⟩
      ·exact⟨none,0,by rw[W]⟩
      ·exact⟨_,_,rfl⟩
     clear h b I;go_wp2_with fail
     go_ret;exact⟨U,V,rfl,f.o,x.o⟩
