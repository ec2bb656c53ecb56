import Derived.Test.YtlfmlodanoolhaaGreatDoorV13
import Derived.Test.YtlfmlodanoolhaaGreatDoorV23
set_option linter.all false
set_option maxRecDepth 200000
set_option maxHeartbeats 0
namespace Go.Proofs.YtlfmlodanoolhaaGreatDoor
open Go Go.RowKit
def tA:ByteArray:=⟨#[97]⟩
def tY:ByteArray:=⟨#[121]⟩
def tM:ByteArray:=⟨#[109]⟩
def xNm(s:ByteArray):X:=.mk 2 s 0 0 0 []
theorem mX:bn tA:=⟨zD,zD,zD,zD⟩
theorem iP:bn tY:=⟨zD,zD,zD,zD⟩
theorem pP:bn tM:=⟨zD,zD,zD,zD⟩
theorem may_nm{s:ByteArray}:MayX (xNm s)↔bn s:=by
 rw[MayX_iff];constructor
 ·rintro⟨⟨_,_,_,a⟩,_⟩;rcases a with a|a
  ·exact a.2
  ·exact(a.1 (.inl rfl)).elim
 ·intro a;exact⟨⟨.inl ⟨.inr rfl,rfl⟩,.inr (.inr (.inr ⟨(show(2:Int)≠5/\(2:Int)≠6/\(2:Int)≠10 by decide),rfl⟩)),.inl ⟨(show(2:Int)≠1 by decide),rfl,rfl⟩,.inl ⟨.inl rfl,a⟩⟩,λc b=>by cases b⟩
theorem eK{α:Type}{P:α->Prop}{a b:α}(e:P a)(h2:P b):∀d,d∈[a,b]->P d:=λd c=>by
 rcases List.mem_cons.1 c with rfl|c
 ·exact e
 ·rcases List.mem_cons.1 c with rfl|c
  ·exact h2
  ·cases c
theorem fI{α:Type}{P:α->Prop}{a:α}(d:P a):∀c,c∈[a]->P c:=λc b=>by
 rcases List.mem_cons.1 b with rfl|b
 ·exact d
 ·cases b
theorem ib{s:ByteArray}(h:s.size<4294967281):VX (xNm s):=.mk _ (show(0:Int)<=0 by decide) (show(0:Int)<18446744073709551616 by decide) h (λb a=>by cases a)
noncomputable def er(x:X):Int:=aB (al x) (aM x) (yes (MayX x))
theorem rW{n d:Nat}{b:Bool}:aB n d b=0↔n<=65536/\d<=64/\b=true:=by
 unfold aB;by_cases a:65536<n\/64<d
 ·rw[if_pos a];constructor
  ·intro c;omega
  ·rintro⟨e,f,-⟩;omega
 ·rw[if_neg a];cases b
  ·simp
  ·simp;omega
theorem checkX_zero{x:X}:er x=0↔al x<=65536/\aM x<=64/\MayX x:=by
 unfold er;rw[rW,yes_iff]
