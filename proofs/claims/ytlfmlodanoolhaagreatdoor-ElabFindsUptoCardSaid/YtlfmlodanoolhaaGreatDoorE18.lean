import Derived.Lib.AppendZerosOnto
import Derived.Test.YtlfmlodanoolhaaGreatDoorE8
import Derived.Test.YtlfmlodanoolhaaGreatDoorE16
set_option linter.all false
set_option maxRecDepth 200000
set_option maxHeartbeats 32000000
namespace Go.Proofs.YtlfmlodanoolhaaGreatDoor
open Go Go.RowKit Go.Proofs.Tryz
attribute [local go_sem] z0f
theorem j9u:(Tryz.prog.info? 37).map (fun i=>(i.zero,i.size,i.bytes))=some (some (.agg #[.int .i64 0,.string ⟨#[]⟩,.string ⟨#[]⟩,.slice none 0 0,.slice none 0 0,.slice none 0 0,.slice none 0 0,.slice none 0 0,.slice none 0 0]),9,184):=by kernel_rfl
theorem k4b(n:Nat)(w:World)(hn:n≤100000000):
 Calls Tryz.prog 178 #[.slice none 0 0,.int .i64 n] w fun e w'=>∃a cap,e=.returned (.slice a 0 cap)∧w'.ownsRow w.heap.size 37 9 (.slice a 0 cap) 0 []∧Ext w w':=by
 rcases Nat.eq_zero_or_pos n with h0|h0
 ·subst h0;go_enter func178,ntmps178
  go_wp2
  go_ret;exact⟨none,0,rfl,⟨rfl,.inl ⟨rfl,rfl⟩⟩,y1g _⟩
 ·obtain⟨ti,hti,htz,hts,htb⟩:=info_parts j9u;have hfit:Builtin.nextslicecap (0+n) 0*ti.bytes≤281474976710656:=growslice_fits (by omega) (by rw[htb];omega);have hold:(Builtin.firstCells ti.size 0 (.slice none 0 0)).run Tryz.prog w.drew=.ok ([]:List Value).toArray w.drew:=run_firstCells_none w.drew ti.size 0 0 0;have hrun:∀ty,(Builtin.append_ #[28,3] ty #[.slice none 0 0,.int .i64 (n:Nat)]).run Tryz.prog w=_:=fun ty=>
   Lib.run_append_grow_zeros w 28 3 ty 37 ti _ .i64 .i64 underlying28 underlying3 hti htz none 0 0 [] hold n h0 (by rw[hts];decide) (by omega) (by omega) (by rw[htb];omega) hfit
  have hcap:=grownCap_le_maxLen w (0+n) 0 37 (by unfold maxLen;omega);have hcge:=grownCap_ge w (0+n) 0 37;have hcz:∀z:Array Value,z.size=9→(([]:List Value).toArray++Builtin.zeroCells z n++Builtin.zeroCells z (grownCap w (0+n) 0 37 - (0+n))).size=grownCap w (0+n) 0 37*9:=fun z hz=>by
   rw[Array.size_append,Array.size_append,size_zeroCells,size_zeroCells,hz];show 0+n*9+(grownCap w (0+n) 0 37 - (0+n))*9=grownCap w (0+n) 0 37*9;omega
  have hcz':=hcz _ (show(Value.agg #[.int .i64 0,.string ⟨#[]⟩,.string ⟨#[]⟩,.slice none 0 0,.slice none 0 0,.slice none 0 0,.slice none 0 0,.slice none 0 0,.slice none 0 0]).cells.size=9 from rfl);obtain⟨G,hG⟩:∃G,G=grownCap w (0+n) 0 37:=⟨_,rfl⟩;rw[←hG] at hrun hcap hcge hcz';obtain⟨cur,hcur⟩:∃cur,cur=([]:List Value).toArray++Builtin.zeroCells (Value.agg #[.int .i64 0,.string ⟨#[]⟩,.string ⟨#[]⟩,.slice none 0 0,.slice none 0 0,.slice none 0 0,.slice none 0 0,.slice none 0 0,.slice none 0 0]).cells n++Builtin.zeroCells (Value.agg #[.int .i64 0,.string ⟨#[]⟩,.string ⟨#[]⟩,.slice none 0 0,.slice none 0 0,.slice none 0 0,.slice none 0 0,.slice none 0 0,.slice none 0 0]).cells (G - (0+n)):=⟨_,rfl⟩;rw[←hcur] at hrun hcz'
  have FIN:=Hd (show(w.drew.alloc (.cells cur 37)).ownsRow w.heap.size 37 9 (.slice (some ⟨w.heap.size,0,none⟩) 0 G) 0 []∧Ext w (w.drew.alloc (.cells cur 37)) from
   ⟨⟨rfl,.inr ⟨w.heap.size,G,cur,rfl,y1j _,World.alloc_heap_new w.drew _,y1p _,hcap,hcz',by simp⟩⟩,(y1g w).drew.alloc _⟩)
  have hG63:(G:Int)≤9223372036854775807:=by unfold maxLen at hcap;omega
  have hGn:0+n≤G:=hcge;clear hold hfit hcz hcz' hcur hcap hG hcge;go_enter func178,ntmps178;go_wp2_with (at_builtin;refine Lib.wpList_append_run _ rfl _ _ _ _ rfl _ _ rfl rfl _ _ (hrun _) ?_)
  all_goals
   go_ret;exact⟨some ⟨w.heap.size,0,none⟩,G,rfl,FIN.o.1,FIN.o.2⟩
theorem j6j(g:Nat)(a1 a2:Option Addr)(n1 n2 k1 k2:Nat)(xs1 xs2:List Value)(w:World)(hb:Blk w g 28 [.slice a1 n1 k1,.slice a2 n2 k2])(h1:Flat w 9 a1 n1 xs1)(h2:Flat w 9 a2 n2 xs2)(z1:n1≤10000000)(z2:n2≤10000000):
 Calls Tryz.prog 143 #[.slice (some ⟨g,0,none⟩) 2 2] w fun e w'=>∃a cap,e=.returned (.slice a (n1+n2) cap)∧w'.ownsRow w.heap.size 37 9 (.slice a (n1+n2) cap) (n1+n2) (xs1++xs2)∧Ext w w':=by
 obtain⟨ti,hti,htz,hts,htb⟩:=info_parts j9u;have HB:=Hd hb;obtain⟨d0,d1⟩:=hb.get2;clear hb;go_enter func143,ntmps143;go_wp2_with fail
 go_loopw [3,11] (fun z i wr=>∃q:Nat,q≤2∧i=.int .i64 q∧z=.int .i64 ((if 1≤q then n1 else 0)+(if 2≤q then n2 else 0):Nat)∧wr=w) (fun _ i _=>2 - (intOf i).toNat)
 case atStart=>exact⟨0,by omega,rfl,rfl,rfl⟩
 case round=>
  obtain⟨q,hq,rfl,rfl,rfl⟩:=hrel;rcases(show q=0∨q=1∨q=2 by omega) with rfl|rfl|rfl
  ·simp only[Nat.not_le_of_lt (show 0<1 by decide),Nat.not_le_of_lt (show 0<2 by decide),if_false];go_wp2_with fail
   go_roundw;case rel=>exact⟨1,by omega,by go_num,by simp,trivial⟩
   case measure=>simp[intOf]
  ·simp only[Nat.le_refl,Nat.not_le_of_lt (show 1<2 by decide),if_false,if_true];go_wp2_with fail
   go_roundw;case rel=>exact⟨2,by omega,by go_num,by simp,trivial⟩
   case measure=>simp[intOf]
  ·simp only[Nat.le_refl,show 1≤2 by decide,if_true];go_wp2_with fail
   go_at_call 178;refine(k4b (n1+n2) _ (by omega)).mono ?_;rintro _ w1 ⟨a,cap,rfl,hown,hx⟩;have HOWN:=Hd hown;have HX:=Hd hx;have HF1:=Hd h1;have HF2:=Hd h2;have HBX:=Hd (HB.o.ext hx);obtain⟨w0,hw0⟩:∃w0,w0=wr:=⟨_,rfl⟩;subst hw0;clear hown hx h1 h2 d0 d1;go_wp2_with fail
   go_loopw [6,27] (fun v i wr=>∃q:Nat,q≤2∧i=.int .i64 q∧wr.ownsRow w0.heap.size 37 9 v ((if 1≤q then n1 else 0)+(if 2≤q then n2 else 0)) ((if 1≤q then xs1 else [])++(if 2≤q then xs2 else []))∧Ext w0 wr) (fun _ i _=>2 - (intOf i).toNat)
   case atStart=>exact⟨0,by omega,rfl,HOWN.o,HX.o⟩
   case round=>
    obtain⟨q,hq,rfl,hown,hx⟩:=hrel;obtain⟨d0,d1⟩:=(HB.o.ext hx).get2;have hsz:=hx.size;have OWN:=Hd hown;have HX2:=Hd hx;rcases(show q=0∨q=1∨q=2 by omega) with rfl|rfl|rfl
    ·simp only[Nat.not_le_of_lt (show 0<1 by decide),Nat.not_le_of_lt (show 0<2 by decide),if_false,Nat.add_zero,List.append_nil] at OWN;have FL:=Hd (HF1.o.ext hx);clear hown hx
     go_wp2_with (at_builtin;refine z1b rfl _ _ 28 rfl w0.heap.size 37 ti _ 9 184 underlying28 hti htz hts htb rfl (by decide) (by decide) u6 0 [] rfl OWN.o a1 n1 k1 xs1 rfl FL.o (by omega) (by omega) (by omega) ?_;intro v' w' hown' hg' hf'
                  have hxw:=HX2.o.grown hg' (fun r hr=>(OWN.o.lt r hr).1);have HNEW:=Hd (y1x hown' hxw)
                  clear hown' hxw hf' hg')
     go_roundw;case rel=>exact⟨1,by omega,by go_num,by simpa using HNEW.o.1,HNEW.o.2⟩
     case measure=>simp[intOf]
    ·simp only[Nat.le_refl,Nat.not_le_of_lt (show 1<2 by decide),if_false,if_true,Nat.add_zero,List.append_nil] at OWN;have FL:=Hd (HF2.o.ext hx);clear hown hx
     go_wp2_with (at_builtin;refine z1b rfl _ _ 28 rfl w0.heap.size 37 ti _ 9 184 underlying28 hti htz hts htb rfl (by decide) (by decide) u6 n1 xs1 rfl OWN.o a2 n2 k2 xs2 rfl FL.o (by omega) (by omega) (by omega) ?_;intro v' w' hown' hg' hf'
                  have hxw:=HX2.o.grown hg' (fun r hr=>(OWN.o.lt r hr).1);have HNEW:=Hd (y1x hown' hxw)
                  clear hown' hxw hf' hg')
     go_roundw;case rel=>exact⟨2,by omega,by go_num,by simpa using HNEW.o.1,HNEW.o.2⟩
     case measure=>simp[intOf]
    ·simp only[Nat.le_refl,show 1≤2 by decide,if_true] at OWN;have hform:=OWN.o.2;obtain⟨a9,cap9,rfl⟩:∃a cap,u6=.slice a (n1+n2) cap:=by
      rcases hform with⟨rfl,h0⟩|⟨g9,cap,cur,rfl,-⟩
      ·exact⟨none,0,by rw[h0]⟩
      ·exact⟨_,_,rfl⟩
     clear hown hx hform;go_wp2_with fail
     go_ret;exact⟨a9,cap9,rfl,OWN.o,HX2.o⟩
end Go.Proofs.YtlfmlodanoolhaaGreatDoor
