import Derived.Test.YtlfmlodanoolhaaGreatDoorE13
import Derived.Test.YtlfmlodanoolhaaGreatDoorE26
set_option linter.all false
set_option maxRecDepth 200000
set_option maxHeartbeats 32000000
namespace Go.Proofs.YtlfmlodanoolhaaGreatDoor
open Go Go.RowKit
def tA:ByteArray:=⟨#[97]⟩
def tY:ByteArray:=⟨#[121]⟩
def tM:ByteArray:=⟨#[109]⟩
def xNm(s:ByteArray):X:=.mk 2 s 0 0 0 []
theorem j1l:z2y tA:=⟨by decide,by decide,by decide,by decide⟩
theorem q4a:z2y tY:=⟨by decide,by decide,by decide,by decide⟩
theorem j8y:z2y tM:=⟨by decide,by decide,by decide,by decide⟩
theorem may_nm{s:ByteArray}:MayX (xNm s)↔z2y s:=by
 rw[MayX_iff];constructor
 ·rintro⟨⟨_,_,_,h⟩,_⟩;rcases h with h|h
  ·exact h.2
  ·exact(h.1 (.inl rfl)).elim
 ·intro h;exact⟨⟨.inl ⟨.inr rfl,rfl⟩,.inr (.inr (.inr ⟨(show(2:Int)≠5∧(2:Int)≠6∧(2:Int)≠10 by decide),rfl⟩)),.inl ⟨(show(2:Int)≠1 by decide),rfl,rfl⟩,.inl ⟨.inl rfl,h⟩⟩,fun y hy=>by cases hy⟩
theorem z5l{α:Type}{P:α→Prop}{a b:α}(h1:P a)(h2:P b):∀y,y∈[a,b]→P y:=fun y hy=>by
 rcases List.mem_cons.1 hy with rfl|hy
 ·exact h1
 ·rcases List.mem_cons.1 hy with rfl|hy
  ·exact h2
  ·cases hy
theorem z8p{α:Type}{P:α→Prop}{a:α}(h1:P a):∀y,y∈[a]→P y:=fun y hy=>by
 rcases List.mem_cons.1 hy with rfl|hy
 ·exact h1
 ·cases hy
theorem j4s{s:ByteArray}(h:s.size<4294967281):VX (xNm s):=.mk _ (show(0:Int)≤0 by decide) (show(0:Int)<18446744073709551616 by decide) h (fun y hy=>by cases hy)
noncomputable def z7s(x:X):Int:=z4e (z0l x) (z2o x) (yes (MayX x))
theorem q8a{n d:Nat}{b:Bool}:z4e n d b=0↔n≤65536∧d≤64∧b=true:=by
 unfold z4e;by_cases h:65536<n∨64<d
 ·rw[if_pos h];constructor
  ·intro h';omega
  ·rintro⟨h1,h2,-⟩;omega
 ·rw[if_neg h];cases b
  ·simp
  ·simp;omega
theorem checkX_zero{x:X}:z7s x=0↔z0l x≤65536∧z2o x≤64∧MayX x:=by
 unfold z7s;rw[q8a,yes_iff]
end Go.Proofs.YtlfmlodanoolhaaGreatDoor
