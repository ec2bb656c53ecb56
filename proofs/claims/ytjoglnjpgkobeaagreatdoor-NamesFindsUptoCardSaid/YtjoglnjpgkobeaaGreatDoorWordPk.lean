/-
  WHAT A NAME IS, as plain laws: letters, digits, underscores; no word of the language; 1 to 64 bytes.
-/
import Derived.Lib.IndexMore
import Derived.Deep.Slices
import Derived.ChangeReads
import Derived.DataShut
import Derived.Test.YtjoglnjpgkobeaaGreatDoorRows
import Derived.Test.YtjoglnjpgkobeaaGreatDoorProg
import Derived.Test.YtjoglnjpgkobeaaGreatDoorTreePk
namespace Go.Proofs.YtjoglnjpgkobeaaGreatDoor
open Go
set_option linter.all false
set_option linter.unusedVariables false
set_option linter.unusedSimpArgs false

/-- The words of the language. -/
def wordsL : List (List UInt8) := [[109, 111, 100, 117, 108, 101], [105, 110], [111, 117, 116], [119, 105, 114, 101], [114, 101, 103], [99, 111, 110, 115, 116], [97, 115, 115, 105, 103, 110], [99, 111, 109, 98], [111, 110], [116, 105, 99, 107], [105, 110, 115, 116], [105, 102], [101, 108, 115, 101], [102, 111, 114], [99, 104, 101, 99, 107], [99, 97, 115, 101], [122, 101, 120, 116], [115, 101, 120, 116], [116, 114, 117, 110, 99]]
/-- They stand one behind the other, a blank around each. -/
def enc : List (List UInt8) → List UInt8
  | [] => [32]
  | a :: r => 32 :: (a ++ enc r)
theorem contains_cons (b : UInt8) (l sub : List UInt8) : Lib.contains (b :: l) sub = (sub.isPrefixOf (b :: l) || Lib.contains l sub) := by
  have hg := Lib.index_ge l sub
  unfold Lib.contains
  conv => lhs; unfold Lib.index
  by_cases h : sub.isPrefixOf (b :: l) = true
  · simp [h]
  · by_cases h1 : Lib.index l sub = -1
    · simp [h, h1]
    · have : (Lib.index l sub == -1) = false := by simpa using h1
      simp only [h, this]
      have h2 : (0 ≤ Lib.index l sub + 1) ↔ (0 ≤ Lib.index l sub) := by omega
      simp [h2]
theorem contains_nil (c : UInt8) (r : List UInt8) : Lib.contains [] (c :: r) = false := by simp [Lib.contains, Lib.index]
theorem contains_skip (a r t : List UInt8) (h : (32 : UInt8) ∉ a) : Lib.contains (a ++ r) (32 :: t) = Lib.contains r (32 :: t) := by
  induction a with
  | nil => rfl
  | cons c a ih =>
    have h1 : ¬ (32 : UInt8) = c := fun e => h (by simp [e])
    have h2 : (32 : UInt8) ∉ a := fun e => h (by simp [e])
    rw [List.cons_append, contains_cons, ih h2]
    simp [List.isPrefixOf, h1]
theorem pre_word : ∀ (s a : List UInt8) (t : List UInt8), (32 : UInt8) ∉ s → (32 : UInt8) ∉ a → (s ++ [32]).isPrefixOf (a ++ 32 :: t) = (s == a)
  | [], [], t, _, _ => by simp [List.isPrefixOf]
  | [], c :: a, t, _, ha => by
    have h1 : ¬ (32 : UInt8) = c := fun e => ha (by simp [e])
    simp [List.isPrefixOf, h1]
  | b :: s, [], t, hs, _ => by
    have h1 : ¬ b = (32 : UInt8) := fun e => hs (by simp [e])
    simp [List.isPrefixOf, h1]
  | b :: s, c :: a, t, hs, ha => by
    have ih := pre_word s a t (fun e => hs (by simp [e])) (fun e => ha (by simp [e]))
    simp only [List.cons_append, List.isPrefixOf, ih]
    by_cases h : b = c <;> simp [h]
theorem enc_head (ws : List (List UInt8)) : ∃ t, enc ws = 32 :: t := by
  cases ws with
  | nil => exact ⟨_, rfl⟩
  | cons a r => exact ⟨_, rfl⟩
theorem contains_enc (s : List UInt8) (hs : (32 : UInt8) ∉ s) : ∀ ws : List (List UInt8), (∀ a ∈ ws, (32 : UInt8) ∉ a) → Lib.contains (enc ws) (32 :: (s ++ [32])) = ws.contains s
  | [], _ => by
    rw [enc, contains_cons, contains_nil]
    cases s <;> simp [List.isPrefixOf]
  | a :: ws, h => by
    have ih := contains_enc s hs ws (fun x hx => h x (by simp [hx]))
    have ha := h a (by simp)
    obtain ⟨t, ht⟩ := enc_head ws
    rw [enc, contains_cons, contains_skip _ _ _ ha, ih]
    rw [ht, List.isPrefixOf, pre_word s a t hs ha]
    rw [List.contains_cons]
    simp
theorem contains_blank : ∀ s : List UInt8, Lib.contains s [32] = s.contains 32
  | [] => by simp [Lib.contains, Lib.index]
  | b :: s => by
    rw [contains_cons, contains_blank s, List.contains_cons]
    simp [List.isPrefixOf]
theorem words_plain : ∀ a ∈ wordsL, (32 : UInt8) ∉ a := by decide
/-- Is a text a word? -/
def isWord (s : ByteArray) : Bool := wordsL.contains s.data.toList
theorem word_iff (s : List UInt8) : (s != [] && (!Lib.contains s [32] && Lib.contains (enc wordsL) (32 :: (s ++ [32])))) = wordsL.contains s := by
  rw [contains_blank]
  by_cases h : s = []
  · subst h; decide
  · by_cases hb : (32 : UInt8) ∈ s
    · have hc : s.contains 32 = true := by simpa using hb
      have : wordsL.contains s = false := by
        cases hw : wordsL.contains s with
        | false => rfl
        | true => exact (words_plain s (by simpa using hw) hb).elim
      rw [this, hc]; simp
    · have hc : s.contains 32 = false := by simpa using hb
      rw [hc, contains_enc s hb wordsL words_plain]
      have : (s != []) = true := by simpa using h
      rw [this]; simp
/-- May a byte stand at a place of a name? -/
def letter (c : UInt8) : Bool := decide (97 ≤ c.toNat ∧ c.toNat ≤ 122 ∨ 65 ≤ c.toNat ∧ c.toNat ≤ 90 ∨ c.toNat = 95)
def okAt (i : Nat) (c : UInt8) : Bool := letter c || (decide (i ≠ 0) && decide (48 ≤ c.toNat ∧ c.toNat ≤ 57))
theorem okAt_iff {i : Nat} {c : UInt8} : okAt i c = true ↔ ((97 ≤ c.toNat ∧ c.toNat ≤ 122 ∨ 65 ≤ c.toNat ∧ c.toNat ≤ 90 ∨ c.toNat = 95) ∨ i ≠ 0 ∧ 48 ≤ c.toNat ∧ c.toNat ≤ 57) := by
  simp [okAt, letter]
theorem okAt_no {i : Nat} {c : UInt8} (h : ¬ ((97 ≤ c.toNat ∧ c.toNat ≤ 122 ∨ 65 ≤ c.toNat ∧ c.toNat ≤ 90 ∨ c.toNat = 95) ∨ i ≠ 0 ∧ 48 ≤ c.toNat ∧ c.toNat ≤ 57)) : okAt i c = false := by
  cases e : okAt i c with
  | false => rfl
  | true => exact (h (okAt_iff.1 e)).elim
/-- Is a text a name? -/
def nameP (s : ByteArray) : Prop := 1 ≤ s.size ∧ s.size ≤ 64 ∧ (∀ (i : Nat) (h : i < s.size), okAt i s.data[i] = true) ∧ isWord s = false
noncomputable def nameOk (s : ByteArray) : Bool := @decide (nameP s) (Classical.propDecidable _)
theorem nameOk_iff {s : ByteArray} : nameOk s = true ↔ nameP s := by simp [nameOk]
theorem nameOk_no {s : ByteArray} (h : ¬ nameP s) : nameOk s = false := by simp [nameOk, h]
end Go.Proofs.YtjoglnjpgkobeaaGreatDoor

/-
  HOW MANY NODES A TREE HAS, AND HOW DEEP IT IS, AS PLAIN FUNCTIONS.
-/
namespace Go.Proofs.YtjoglnjpgkobeaaGreatDoor
open Go Go.RowKit
set_option linter.all false
set_option linter.unusedVariables false
set_option linter.unusedSimpArgs false

def msize {α : Type} (sz : α → Nat) : List α → Nat
  | [] => 0
  | x :: r => sz x + msize sz r
def mdeep {α : Type} (dp : α → Nat) : List α → Nat
  | [] => 0
  | x :: r => max (dp x) (mdeep dp r)
theorem msize_append {α : Type} (sz : α → Nat) (a b : List α) : msize sz (a ++ b) = msize sz a + msize sz b := by
  induction a with
  | nil => simp [msize]
  | cons x r ih => simp only [List.cons_append, msize, ih]; omega
theorem mdeep_append {α : Type} (dp : α → Nat) (a b : List α) : mdeep dp (a ++ b) = max (mdeep dp a) (mdeep dp b) := by
  induction a with
  | nil => simp [mdeep]
  | cons x r ih => simp only [List.cons_append, mdeep, ih]; omega
theorem msize_take_succ {α : Type} (sz : α → Nat) (l : List α) (k : Nat) (h : k < l.length) : msize sz (l.take (k + 1)) = msize sz (l.take k) + sz l[k] := by
  rw [List.take_succ_eq_append_getElem h, msize_append]; simp [msize]
theorem mdeep_take_succ {α : Type} (dp : α → Nat) (l : List α) (k : Nat) (h : k < l.length) : mdeep dp (l.take (k + 1)) = max (mdeep dp (l.take k)) (dp l[k]) := by
  rw [List.take_succ_eq_append_getElem h, mdeep_append]; simp [mdeep]
theorem msize_take_le {α : Type} (sz : α → Nat) (l : List α) (k : Nat) : msize sz (l.take k) ≤ msize sz l := by
  have := msize_append sz (l.take k) (l.drop k); rw [List.take_append_drop] at this; omega
theorem msize_mem {α : Type} (sz : α → Nat) (l : List α) (x : α) (h : x ∈ l) : sz x ≤ msize sz l := by
  induction l with
  | nil => cases h
  | cons y r ih =>
    simp only [msize]
    cases h with
    | head => omega
    | tail _ ht => have := ih ht; omega
theorem mdeep_mem {α : Type} (dp : α → Nat) (l : List α) (x : α) (h : x ∈ l) : dp x ≤ mdeep dp l := by
  induction l with
  | nil => cases h
  | cons y r ih =>
    simp only [mdeep]
    cases h with
    | head => omega
    | tail _ ht => have := ih ht; omega
theorem mdeep_le_msize {α : Type} (dp sz : α → Nat) (l : List α) (h : ∀ x, x ∈ l → dp x ≤ sz x) : mdeep dp l ≤ msize sz l := by
  induction l with
  | nil => simp [mdeep]
  | cons y r ih =>
    have := h y (List.mem_cons_self ..)
    have := ih fun x hx => h x (List.mem_cons_of_mem _ hx)
    simp only [mdeep, msize]; omega
theorem length_le_msize {α : Type} (sz : α → Nat) (l : List α) (h : ∀ x, 1 ≤ sz x) : l.length ≤ msize sz l := by
  induction l with
  | nil => simp
  | cons y r ih => have := h y; simp only [msize, List.length_cons]; omega

mutual
def sizeX : X → Nat
  | .mk _ _ _ _ _ l => 1 + sizeXs l
def sizeXs : List X → Nat
  | [] => 0
  | x :: r => sizeX x + sizeXs r
 end
mutual
def deepX : X → Nat
  | .mk _ _ _ _ _ l => 1 + deepXs l
def deepXs : List X → Nat
  | [] => 0
  | x :: r => max (deepX x) (deepXs r)
 end
theorem sizeXs_eq (l : List X) : sizeXs l = msize sizeX l := by induction l with | nil => rfl | cons x r ih => simp [sizeXs, msize, ih]
theorem deepXs_eq (l : List X) : deepXs l = mdeep deepX l := by induction l with | nil => rfl | cons x r ih => simp [deepXs, mdeep, ih]
theorem sizeX_eq (x : X) : sizeX x = 1 + msize sizeX x.l := by cases x; rw [sizeX, sizeXs_eq]; rfl
theorem deepX_eq (x : X) : deepX x = 1 + mdeep deepX x.l := by cases x; rw [deepX, deepXs_eq]; rfl
mutual
def sizeS : S → Nat
  | .mk _ _ x l => 1 + msize sizeX x + sizeSs l
def sizeSs : List S → Nat
  | [] => 0
  | x :: r => sizeS x + sizeSs r
 end
mutual
def deepS : S → Nat
  | .mk _ _ x l => 1 + max (mdeep deepX x) (deepSs l)
def deepSs : List S → Nat
  | [] => 0
  | x :: r => max (deepS x) (deepSs r)
 end
theorem sizeSs_eq (l : List S) : sizeSs l = msize sizeS l := by induction l with | nil => rfl | cons x r ih => simp [sizeSs, msize, ih]
theorem deepSs_eq (l : List S) : deepSs l = mdeep deepS l := by induction l with | nil => rfl | cons x r ih => simp [deepSs, mdeep, ih]
theorem sizeS_eq (x : S) : sizeS x = 1 + msize sizeX x.x + msize sizeS x.l := by cases x; rw [sizeS, sizeSs_eq]; rfl
theorem deepS_eq (x : S) : deepS x = 1 + max (mdeep deepX x.x) (mdeep deepS x.l) := by cases x; rw [deepS, deepSs_eq]; rfl
def sizeB (b : Bnd) : Nat := 1 + sizeX b.x
def deepB (b : Bnd) : Nat := 1 + deepX b.x
def sizeP (b : Prt) : Nat := 1 + sizeX b.w
def deepP (b : Prt) : Nat := 1 + deepX b.w
mutual
def sizeI : Itm → Nat
  | .mk _ _ _ x s l els ps bs => 1 + msize sizeX x + msize sizeS s + sizeIs l + sizeIs els + msize sizeB ps + msize sizeB bs
def sizeIs : List Itm → Nat
  | [] => 0
  | x :: r => sizeI x + sizeIs r
 end
mutual
def deepI : Itm → Nat
  | .mk _ _ _ x s l els ps bs => 1 + max (max (max (max (max (mdeep deepX x) (mdeep deepS s)) (deepIs l)) (deepIs els)) (mdeep deepB ps)) (mdeep deepB bs)
def deepIs : List Itm → Nat
  | [] => 0
  | x :: r => max (deepI x) (deepIs r)
 end
theorem sizeIs_eq (l : List Itm) : sizeIs l = msize sizeI l := by induction l with | nil => rfl | cons x r ih => simp [sizeIs, msize, ih]
theorem deepIs_eq (l : List Itm) : deepIs l = mdeep deepI l := by induction l with | nil => rfl | cons x r ih => simp [deepIs, mdeep, ih]
theorem sizeI_eq (x : Itm) : sizeI x = 1 + msize sizeX x.x + msize sizeS x.s + msize sizeI x.l + msize sizeI x.els + msize sizeB x.params + msize sizeB x.binds := by cases x; rw [sizeI, sizeIs_eq, sizeIs_eq]; rfl
theorem deepI_eq (x : Itm) : deepI x = 1 + max (max (max (max (max (mdeep deepX x.x) (mdeep deepS x.s)) (mdeep deepI x.l)) (mdeep deepI x.els)) (mdeep deepB x.params)) (mdeep deepB x.binds) := by cases x; rw [deepI, deepIs_eq, deepIs_eq]; rfl
def sizeM (m : Mdl) : Nat := 1 + msize sizeB m.params + msize sizeP m.ports + msize sizeI m.items
def deepM (m : Mdl) : Nat := 1 + max (max (mdeep deepB m.params) (mdeep deepP m.ports)) (mdeep deepI m.items)

theorem sizeX_pos (x : X) : 1 ≤ sizeX x := by rw [sizeX_eq]; omega
theorem sizeS_pos (x : S) : 1 ≤ sizeS x := by rw [sizeS_eq]; omega
theorem sizeB_pos (x : Bnd) : 1 ≤ sizeB x := by unfold sizeB; omega
theorem sizeP_pos (x : Prt) : 1 ≤ sizeP x := by unfold sizeP; omega
theorem sizeI_pos (x : Itm) : 1 ≤ sizeI x := by rw [sizeI_eq]; omega
theorem sizeM_pos (x : Mdl) : 1 ≤ sizeM x := by unfold sizeM; omega
theorem deepX_le (x : X) : deepX x ≤ sizeX x := by
  induction x using X.ind with
  | h x ih => have := mdeep_le_msize deepX sizeX x.l ih; rw [deepX_eq, sizeX_eq]; omega
theorem deepXL_le (l : List X) : mdeep deepX l ≤ msize sizeX l := mdeep_le_msize _ _ _ fun x _ => deepX_le x
theorem deepS_le (x : S) : deepS x ≤ sizeS x := by
  induction x using S.ind with
  | h x ih => have := mdeep_le_msize deepS sizeS x.l ih; have := deepXL_le x.x; rw [deepS_eq, sizeS_eq]; omega
theorem deepSL_le (l : List S) : mdeep deepS l ≤ msize sizeS l := mdeep_le_msize _ _ _ fun x _ => deepS_le x
theorem deepB_le (x : Bnd) : deepB x ≤ sizeB x := by have := deepX_le x.x; unfold deepB sizeB; omega
theorem deepBL_le (l : List Bnd) : mdeep deepB l ≤ msize sizeB l := mdeep_le_msize _ _ _ fun x _ => deepB_le x
theorem deepP_le (x : Prt) : deepP x ≤ sizeP x := by have := deepX_le x.w; unfold deepP sizeP; omega
theorem deepPL_le (l : List Prt) : mdeep deepP l ≤ msize sizeP l := mdeep_le_msize _ _ _ fun x _ => deepP_le x
theorem deepI_le (x : Itm) : deepI x ≤ sizeI x := by
  induction x using Itm.ind with
  | h x ih1 ih2 =>
    have := mdeep_le_msize deepI sizeI x.l ih1; have := mdeep_le_msize deepI sizeI x.els ih2; have := deepXL_le x.x; have := deepSL_le x.s; have := deepBL_le x.params; have := deepBL_le x.binds
    rw [deepI_eq, sizeI_eq]; omega
theorem deepIL_le (l : List Itm) : mdeep deepI l ≤ msize sizeI l := mdeep_le_msize _ _ _ fun x _ => deepI_le x
theorem deepM_le (x : Mdl) : deepM x ≤ sizeM x := by
  have := deepBL_le x.params; have := deepPL_le x.ports; have := deepIL_le x.items
  unfold deepM sizeM; omega
theorem deepML_le (l : List Mdl) : mdeep deepM l ≤ msize sizeM l := mdeep_le_msize _ _ _ fun x _ => deepM_le x

end Go.Proofs.YtjoglnjpgkobeaaGreatDoor

/-
  WHICH TREES MAY BE, as plain laws.
-/
namespace Go.Proofs.YtjoglnjpgkobeaaGreatDoor
open Go
set_option linter.all false
set_option linter.unusedVariables false
set_option linter.unusedSimpArgs false

/-- A truth as a Bool. -/
noncomputable def yes (p : Prop) : Bool := @decide p (Classical.propDecidable _)
theorem yes_iff {p : Prop} : yes p = true ↔ p := by simp [yes]
theorem yes_no {p : Prop} : yes p = false ↔ ¬ p := by simp [yes]
theorem yes_congr {p q : Prop} (h : p ↔ q) : yes p = yes q := by
  rw [Bool.eq_iff_iff, yes_iff, yes_iff, h]

def isNamed (op : Int) : Prop := op = 2 ∨ op = 3 ∨ op = 4
def partsOk (op : Int) (n : Int) : Prop := (op = 1 ∨ op = 2) ∧ n = 0 ∨ (op = 4 ∨ op = 5) ∧ n = 1 ∨ (op = 3 ∨ op = 6 ∨ op = 9 ∨ op = 10) ∧ n = 2 ∨ op = 7 ∧ n = 3 ∨ op = 8 ∧ 1 ≤ n
def numOk (op n : Int) : Prop := op = 5 ∧ 1 ≤ n ∧ n ≤ 6 ∨ op = 6 ∧ 11 ≤ n ∧ n ≤ 26 ∨ op = 10 ∧ 31 ≤ n ∧ n ≤ 33 ∨ (op ≠ 5 ∧ op ≠ 6 ∧ op ≠ 10) ∧ n = 0
def valOk (op w v : Int) : Prop := op ≠ 1 ∧ w = 0 ∧ v = 0 ∨ op = 1 ∧ 0 ≤ w ∧ w ≤ 64 ∧ (w = 0 ∨ w = 64 ∨ v < 2 ^ w.toNat)
def nmOk (op : Int) (s : ByteArray) : Prop := isNamed op ∧ nameP s ∨ ¬ isNamed op ∧ s.size = 0
/-- May an expression's own fields be? -/
def ownX (x : X) : Prop := partsOk x.op x.l.length ∧ numOk x.op x.n ∧ valOk x.op x.w x.v ∧ nmOk x.op x.name
/-- May an expression be? -/
inductive MayX : X → Prop
  | mk (x : X) (h : ownX x) (hl : ∀ y, y ∈ x.l → MayX y) : MayX x
theorem MayX_iff {x : X} : MayX x ↔ ownX x ∧ ∀ y, y ∈ x.l → MayX y :=
  ⟨fun h => by cases h with | mk _ h hl => exact ⟨h, hl⟩, fun h => .mk x h.1 h.2⟩
/-- The bounds that every value of Go's keeps, and no text too long. -/
inductive VX : X → Prop
  | mk (x : X) (h : 0 ≤ x.v) (h2 : x.v < 18446744073709551616) (hs : x.name.size < 4294967281) (hl : ∀ y, y ∈ x.l → VX y) : VX x
theorem VX_iff {x : X} : VX x ↔ 0 ≤ x.v ∧ x.v < 18446744073709551616 ∧ x.name.size < 4294967281 ∧ ∀ y, y ∈ x.l → VX y :=
  ⟨fun h => by cases h with | mk _ h h2 hs hl => exact ⟨h, h2, hs, hl⟩, fun ⟨h, h2, hs, hl⟩ => .mk x h h2 hs hl⟩
inductive VS : S → Prop
  | mk (x : S) (hs : x.name.size < 4294967281) (hx : ∀ y, y ∈ x.x → VX y) (hl : ∀ y, y ∈ x.l → VS y) : VS x
theorem VS_iff {x : S} : VS x ↔ x.name.size < 4294967281 ∧ (∀ y, y ∈ x.x → VX y) ∧ ∀ y, y ∈ x.l → VS y :=
  ⟨fun h => by cases h with | mk _ hs hx hl => exact ⟨hs, hx, hl⟩, fun ⟨hs, hx, hl⟩ => .mk x hs hx hl⟩
/-- Is an expression a target? -/
def isTarget (x : X) : Prop := isNamed x.op
/-- Is the first of some a target? -/
def isTargets : List X → Prop
  | [] => False
  | x :: _ => isTarget x
def opAt (l : List S) (k : Nat) : Int := match l[k]? with | some s => s.op | none => 0
mutual
/-- May a statement be, that is no arm? -/
inductive MayS : S → Prop
  | assign (s : S) (h : s.op = 1) (hx : ∀ y, y ∈ s.x → MayX y) (hn : s.name.size = 0) (h2 : s.x.length = 2) (ht : isTargets s.x) (hl : s.l.length = 0) : MayS s
  | if_ (s : S) (h : s.op = 2) (hx : ∀ y, y ∈ s.x → MayX y) (hn : s.name.size = 0) (h1 : s.x.length = 1) (h2 : s.l.length = 2) (h3 : opAt s.l 0 = 5) (h4 : opAt s.l 1 = 5 ∨ opAt s.l 1 = 2) (hl : ∀ y, y ∈ s.l → MayS y) : MayS s
  | case_ (s : S) (h : s.op = 3) (hx : ∀ y, y ∈ s.x → MayX y) (hn : s.name.size = 0) (h1 : s.x.length = 1) (h2 : 1 ≤ s.l.length) (hl : ∀ (i : Nat) (hi : i < s.l.length), MayArm (i + 1 = s.l.length) s.l[i]) : MayS s
  | block (s : S) (h : s.op = 5) (hn : s.name.size = 0) (h0 : s.x.length = 0) (hl : ∀ y, y ∈ s.l → MayS y) : MayS s
  | for_ (s : S) (h : s.op = 6) (hx : ∀ y, y ∈ s.x → MayX y) (hn : nameP s.name) (h2 : s.x.length = 2) (hl : ∀ y, y ∈ s.l → MayS y) : MayS s
/-- May an arm be, the last one or not? -/
inductive MayArm : Prop → S → Prop
  | mk (p : Prop) (s : S) (h : s.op = 4) (hn : s.name.size = 0) (he : s.x.length = 0 ↔ p) (hx : ∀ y, y ∈ s.x → MayX y) (hl : ∀ y, y ∈ s.l → MayS y) : MayArm p s
end
theorem MayArm_iff {p : Prop} {s : S} : MayArm p s ↔ s.op = 4 ∧ s.name.size = 0 ∧ (s.x.length = 0 ↔ p) ∧ (∀ y, y ∈ s.x → MayX y) ∧ (∀ y, y ∈ s.l → MayS y) :=
  ⟨fun h => by cases h with | mk _ _ h hn he hx hl => exact ⟨h, hn, he, hx, hl⟩, fun ⟨h, hn, he, hx, hl⟩ => .mk p s h hn he hx hl⟩
/-- All arms may be a case's. -/
def MayArms (l : List S) : Prop := 1 ≤ l.length ∧ ∀ (i : Nat) (hi : i < l.length), MayArm (i + 1 = l.length) l[i]
def MayAll (l : List S) : Prop := ∀ y, y ∈ l → MayS y
def MayXs (l : List X) : Prop := ∀ y, y ∈ l → MayX y
theorem MayS_iff {s : S} : MayS s ↔ MayXs s.x ∧ (s.op ≠ 6 ∧ s.name.size = 0 ∨ s.op = 6 ∧ nameP s.name) ∧
    (s.op = 1 ∧ s.x.length = 2 ∧ isTargets s.x ∧ s.l.length = 0 ∨ s.op = 2 ∧ s.x.length = 1 ∧ s.l.length = 2 ∧ opAt s.l 0 = 5 ∧ (opAt s.l 1 = 5 ∨ opAt s.l 1 = 2) ∧ MayAll s.l ∨
      s.op = 3 ∧ s.x.length = 1 ∧ MayArms s.l ∨ s.op = 5 ∧ s.x.length = 0 ∧ MayAll s.l ∨ s.op = 6 ∧ s.x.length = 2 ∧ MayAll s.l) := by
  constructor
  · intro h
    cases h with
    | assign _ h hx hn h2 ht hl => exact ⟨hx, .inl ⟨by omega, hn⟩, .inl ⟨h, h2, ht, hl⟩⟩
    | if_ _ h hx hn h1 h2 h3 h4 hl => exact ⟨hx, .inl ⟨by omega, hn⟩, .inr (.inl ⟨h, h1, h2, h3, h4, hl⟩)⟩
    | case_ _ h hx hn h1 h2 hl => exact ⟨hx, .inl ⟨by omega, hn⟩, .inr (.inr (.inl ⟨h, h1, h2, hl⟩))⟩
    | block _ h hn h0 hl => exact ⟨fun y hy => (by rw [List.eq_nil_of_length_eq_zero h0] at hy; cases hy), .inl ⟨by omega, hn⟩, .inr (.inr (.inr (.inl ⟨h, h0, hl⟩)))⟩
    | for_ _ h hx hn h2 hl => exact ⟨hx, .inr ⟨h, hn⟩, .inr (.inr (.inr (.inr ⟨h, h2, hl⟩)))⟩
  · rintro ⟨hx, hn, h⟩
    rcases h with ⟨h, h2, ht, hl⟩ | ⟨h, h1, h2, h3, h4, hl⟩ | ⟨h, h1, h2, hl⟩ | ⟨h, h0, hl⟩ | ⟨h, h2, hl⟩
    · exact .assign s h hx (by omega) h2 ht hl
    · exact .if_ s h hx (by omega) h1 h2 h3 h4 hl
    · exact .case_ s h hx (by omega) h1 h2 hl
    · exact .block s h (by omega) h0 hl
    · exact .for_ s h hx (by rcases hn with hn | hn; exact (hn.1 h).elim; exact hn.2) h2 hl
/-- May binds be? -/
def MayB (b : Bnd) : Prop := nameP b.name ∧ MayX b.x
def MayP (p : Prt) : Prop := nameP p.name ∧ MayX p.w
/-- Is there a name just where there is to be one? -/
def fitsP (p : Prop) (s : ByteArray) : Prop := p ∧ nameP s ∨ ¬ p ∧ s.size = 0
def countX (op : Int) : Nat := if op = 3 ∨ op = 4 ∨ op = 9 then 2 else if op = 5 ∨ op = 6 ∨ op = 7 then 0 else 1
/-- May an item's own fields be? -/
def ownI (x : Itm) : Prop := 1 ≤ x.op ∧ x.op ≤ 10 ∧ fitsP (x.op ≠ 4 ∧ x.op ≠ 5 ∧ x.op ≠ 6 ∧ x.op ≠ 8) x.name ∧ fitsP (x.op = 7 ∨ x.op = 9) x.of ∧ x.x.length = countX x.op ∧ (x.op = 4 → isTargets x.x) ∧
  (x.op = 5 ∨ x.op = 6 ∨ x.s.length = 0) ∧ (x.op = 8 ∨ x.op = 9 ∨ x.l.length = 0) ∧ (x.op = 8 ∨ x.els.length = 0) ∧ (x.op = 7 ∨ x.params.length = 0 ∧ x.binds.length = 0)
inductive MayI : Itm → Prop
  | mk (x : Itm) (h : ownI x) (hx : MayXs x.x) (hs : MayAll x.s) (hl : ∀ y, y ∈ x.l → MayI y) (he : ∀ y, y ∈ x.els → MayI y) (hp : ∀ y, y ∈ x.params → MayB y) (hb : ∀ y, y ∈ x.binds → MayB y) : MayI x
theorem MayI_iff {x : Itm} : MayI x ↔ ownI x ∧ MayXs x.x ∧ MayAll x.s ∧ (∀ y, y ∈ x.l → MayI y) ∧ (∀ y, y ∈ x.els → MayI y) ∧ (∀ y, y ∈ x.params → MayB y) ∧ (∀ y, y ∈ x.binds → MayB y) :=
  ⟨fun h => by cases h with | mk _ h hx hs hl he hp hb => exact ⟨h, hx, hs, hl, he, hp, hb⟩, fun ⟨h, hx, hs, hl, he, hp, hb⟩ => .mk x h hx hs hl he hp hb⟩
def MayM (m : Mdl) : Prop := nameP m.name ∧ (∀ y, y ∈ m.params → MayB y) ∧ (∀ y, y ∈ m.ports → MayP y) ∧ (∀ y, y ∈ m.items → MayI y)

end Go.Proofs.YtjoglnjpgkobeaaGreatDoor

/-
  BOXES: the world behind an allocation, by name, and what lies in it ever after. CONTRACTS MET LATER. BOUNDS of binds, ports, items, modules.
-/
namespace Go.Proofs.YtjoglnjpgkobeaaGreatDoor
open Go Go.RowKit
set_option linter.all false
set_option linter.unusedVariables false
set_option linter.unusedSimpArgs false
set_option linter.unusedVariables false

theorem boxL1 (w : World) (v0 : Value) (t : TypeId) : ∃ (W1 : World) (e0 : Later W1), w.alloc (.cells #[v0] t) = e0.w ∧ Ext w W1 ∧ W1.heap.size = w.heap.size + 1 ∧ (∀ e : Later W1, e.w.cell? ⟨w.heap.size, 0, none⟩ = some v0) :=
  ⟨w.alloc (.cells #[v0] t), ⟨_, Ext.refl _⟩, rfl, Ext.new _ _, by simp, fun e => ((Blk.new w t [v0]).ext e.ext).cell 0⟩
theorem boxL2 (w : World) (v0 v1 : Value) (t : TypeId) : ∃ (W1 : World) (e0 : Later W1), w.alloc (.cells #[v0, v1] t) = e0.w ∧ Ext w W1 ∧ W1.heap.size = w.heap.size + 1 ∧ (∀ e : Later W1, e.w.cell? ⟨w.heap.size, 0, none⟩ = some v0) ∧ (∀ e : Later W1, e.w.cell? ⟨w.heap.size, 1, none⟩ = some v1) :=
  ⟨w.alloc (.cells #[v0, v1] t), ⟨_, Ext.refl _⟩, rfl, Ext.new _ _, by simp, fun e => ((Blk.new w t [v0, v1]).ext e.ext).cell 0, fun e => ((Blk.new w t [v0, v1]).ext e.ext).cell 1⟩
theorem boxL3 (w : World) (v0 v1 v2 : Value) (t : TypeId) : ∃ (W1 : World) (e0 : Later W1), w.alloc (.cells #[v0, v1, v2] t) = e0.w ∧ Ext w W1 ∧ W1.heap.size = w.heap.size + 1 ∧ (∀ e : Later W1, e.w.cell? ⟨w.heap.size, 0, none⟩ = some v0) ∧ (∀ e : Later W1, e.w.cell? ⟨w.heap.size, 1, none⟩ = some v1) ∧ (∀ e : Later W1, e.w.cell? ⟨w.heap.size, 2, none⟩ = some v2) :=
  ⟨w.alloc (.cells #[v0, v1, v2] t), ⟨_, Ext.refl _⟩, rfl, Ext.new _ _, by simp, fun e => ((Blk.new w t [v0, v1, v2]).ext e.ext).cell 0, fun e => ((Blk.new w t [v0, v1, v2]).ext e.ext).cell 1, fun e => ((Blk.new w t [v0, v1, v2]).ext e.ext).cell 2⟩
theorem boxL4 (w : World) (v0 v1 v2 v3 : Value) (t : TypeId) : ∃ (W1 : World) (e0 : Later W1), w.alloc (.cells #[v0, v1, v2, v3] t) = e0.w ∧ Ext w W1 ∧ W1.heap.size = w.heap.size + 1 ∧ (∀ e : Later W1, e.w.cell? ⟨w.heap.size, 0, none⟩ = some v0) ∧ (∀ e : Later W1, e.w.cell? ⟨w.heap.size, 1, none⟩ = some v1) ∧ (∀ e : Later W1, e.w.cell? ⟨w.heap.size, 2, none⟩ = some v2) ∧ (∀ e : Later W1, e.w.cell? ⟨w.heap.size, 3, none⟩ = some v3) :=
  ⟨w.alloc (.cells #[v0, v1, v2, v3] t), ⟨_, Ext.refl _⟩, rfl, Ext.new _ _, by simp, fun e => ((Blk.new w t [v0, v1, v2, v3]).ext e.ext).cell 0, fun e => ((Blk.new w t [v0, v1, v2, v3]).ext e.ext).cell 1, fun e => ((Blk.new w t [v0, v1, v2, v3]).ext e.ext).cell 2, fun e => ((Blk.new w t [v0, v1, v2, v3]).ext e.ext).cell 3⟩
theorem boxL5 (w : World) (v0 v1 v2 v3 v4 : Value) (t : TypeId) : ∃ (W1 : World) (e0 : Later W1), w.alloc (.cells #[v0, v1, v2, v3, v4] t) = e0.w ∧ Ext w W1 ∧ W1.heap.size = w.heap.size + 1 ∧ (∀ e : Later W1, e.w.cell? ⟨w.heap.size, 0, none⟩ = some v0) ∧ (∀ e : Later W1, e.w.cell? ⟨w.heap.size, 1, none⟩ = some v1) ∧ (∀ e : Later W1, e.w.cell? ⟨w.heap.size, 2, none⟩ = some v2) ∧ (∀ e : Later W1, e.w.cell? ⟨w.heap.size, 3, none⟩ = some v3) ∧ (∀ e : Later W1, e.w.cell? ⟨w.heap.size, 4, none⟩ = some v4) :=
  ⟨w.alloc (.cells #[v0, v1, v2, v3, v4] t), ⟨_, Ext.refl _⟩, rfl, Ext.new _ _, by simp, fun e => ((Blk.new w t [v0, v1, v2, v3, v4]).ext e.ext).cell 0, fun e => ((Blk.new w t [v0, v1, v2, v3, v4]).ext e.ext).cell 1, fun e => ((Blk.new w t [v0, v1, v2, v3, v4]).ext e.ext).cell 2, fun e => ((Blk.new w t [v0, v1, v2, v3, v4]).ext e.ext).cell 3, fun e => ((Blk.new w t [v0, v1, v2, v3, v4]).ext e.ext).cell 4⟩
theorem boxL6 (w : World) (v0 v1 v2 v3 v4 v5 : Value) (t : TypeId) : ∃ (W1 : World) (e0 : Later W1), w.alloc (.cells #[v0, v1, v2, v3, v4, v5] t) = e0.w ∧ Ext w W1 ∧ W1.heap.size = w.heap.size + 1 ∧ (∀ e : Later W1, e.w.cell? ⟨w.heap.size, 0, none⟩ = some v0) ∧ (∀ e : Later W1, e.w.cell? ⟨w.heap.size, 1, none⟩ = some v1) ∧ (∀ e : Later W1, e.w.cell? ⟨w.heap.size, 2, none⟩ = some v2) ∧ (∀ e : Later W1, e.w.cell? ⟨w.heap.size, 3, none⟩ = some v3) ∧ (∀ e : Later W1, e.w.cell? ⟨w.heap.size, 4, none⟩ = some v4) ∧ (∀ e : Later W1, e.w.cell? ⟨w.heap.size, 5, none⟩ = some v5) :=
  ⟨w.alloc (.cells #[v0, v1, v2, v3, v4, v5] t), ⟨_, Ext.refl _⟩, rfl, Ext.new _ _, by simp, fun e => ((Blk.new w t [v0, v1, v2, v3, v4, v5]).ext e.ext).cell 0, fun e => ((Blk.new w t [v0, v1, v2, v3, v4, v5]).ext e.ext).cell 1, fun e => ((Blk.new w t [v0, v1, v2, v3, v4, v5]).ext e.ext).cell 2, fun e => ((Blk.new w t [v0, v1, v2, v3, v4, v5]).ext e.ext).cell 3, fun e => ((Blk.new w t [v0, v1, v2, v3, v4, v5]).ext e.ext).cell 4, fun e => ((Blk.new w t [v0, v1, v2, v3, v4, v5]).ext e.ext).cell 5⟩
theorem boxL7 (w : World) (v0 v1 v2 v3 v4 v5 v6 : Value) (t : TypeId) : ∃ (W1 : World) (e0 : Later W1), w.alloc (.cells #[v0, v1, v2, v3, v4, v5, v6] t) = e0.w ∧ Ext w W1 ∧ W1.heap.size = w.heap.size + 1 ∧ (∀ e : Later W1, e.w.cell? ⟨w.heap.size, 0, none⟩ = some v0) ∧ (∀ e : Later W1, e.w.cell? ⟨w.heap.size, 1, none⟩ = some v1) ∧ (∀ e : Later W1, e.w.cell? ⟨w.heap.size, 2, none⟩ = some v2) ∧ (∀ e : Later W1, e.w.cell? ⟨w.heap.size, 3, none⟩ = some v3) ∧ (∀ e : Later W1, e.w.cell? ⟨w.heap.size, 4, none⟩ = some v4) ∧ (∀ e : Later W1, e.w.cell? ⟨w.heap.size, 5, none⟩ = some v5) ∧ (∀ e : Later W1, e.w.cell? ⟨w.heap.size, 6, none⟩ = some v6) :=
  ⟨w.alloc (.cells #[v0, v1, v2, v3, v4, v5, v6] t), ⟨_, Ext.refl _⟩, rfl, Ext.new _ _, by simp, fun e => ((Blk.new w t [v0, v1, v2, v3, v4, v5, v6]).ext e.ext).cell 0, fun e => ((Blk.new w t [v0, v1, v2, v3, v4, v5, v6]).ext e.ext).cell 1, fun e => ((Blk.new w t [v0, v1, v2, v3, v4, v5, v6]).ext e.ext).cell 2, fun e => ((Blk.new w t [v0, v1, v2, v3, v4, v5, v6]).ext e.ext).cell 3, fun e => ((Blk.new w t [v0, v1, v2, v3, v4, v5, v6]).ext e.ext).cell 4, fun e => ((Blk.new w t [v0, v1, v2, v3, v4, v5, v6]).ext e.ext).cell 5, fun e => ((Blk.new w t [v0, v1, v2, v3, v4, v5, v6]).ext e.ext).cell 6⟩
theorem boxL8 (w : World) (v0 v1 v2 v3 v4 v5 v6 v7 : Value) (t : TypeId) : ∃ (W1 : World) (e0 : Later W1), w.alloc (.cells #[v0, v1, v2, v3, v4, v5, v6, v7] t) = e0.w ∧ Ext w W1 ∧ W1.heap.size = w.heap.size + 1 ∧ (∀ e : Later W1, e.w.cell? ⟨w.heap.size, 0, none⟩ = some v0) ∧ (∀ e : Later W1, e.w.cell? ⟨w.heap.size, 1, none⟩ = some v1) ∧ (∀ e : Later W1, e.w.cell? ⟨w.heap.size, 2, none⟩ = some v2) ∧ (∀ e : Later W1, e.w.cell? ⟨w.heap.size, 3, none⟩ = some v3) ∧ (∀ e : Later W1, e.w.cell? ⟨w.heap.size, 4, none⟩ = some v4) ∧ (∀ e : Later W1, e.w.cell? ⟨w.heap.size, 5, none⟩ = some v5) ∧ (∀ e : Later W1, e.w.cell? ⟨w.heap.size, 6, none⟩ = some v6) ∧ (∀ e : Later W1, e.w.cell? ⟨w.heap.size, 7, none⟩ = some v7) :=
  ⟨w.alloc (.cells #[v0, v1, v2, v3, v4, v5, v6, v7] t), ⟨_, Ext.refl _⟩, rfl, Ext.new _ _, by simp, fun e => ((Blk.new w t [v0, v1, v2, v3, v4, v5, v6, v7]).ext e.ext).cell 0, fun e => ((Blk.new w t [v0, v1, v2, v3, v4, v5, v6, v7]).ext e.ext).cell 1, fun e => ((Blk.new w t [v0, v1, v2, v3, v4, v5, v6, v7]).ext e.ext).cell 2, fun e => ((Blk.new w t [v0, v1, v2, v3, v4, v5, v6, v7]).ext e.ext).cell 3, fun e => ((Blk.new w t [v0, v1, v2, v3, v4, v5, v6, v7]).ext e.ext).cell 4, fun e => ((Blk.new w t [v0, v1, v2, v3, v4, v5, v6, v7]).ext e.ext).cell 5, fun e => ((Blk.new w t [v0, v1, v2, v3, v4, v5, v6, v7]).ext e.ext).cell 6, fun e => ((Blk.new w t [v0, v1, v2, v3, v4, v5, v6, v7]).ext e.ext).cell 7⟩
theorem boxL9 (w : World) (v0 v1 v2 v3 v4 v5 v6 v7 v8 : Value) (t : TypeId) : ∃ (W1 : World) (e0 : Later W1), w.alloc (.cells #[v0, v1, v2, v3, v4, v5, v6, v7, v8] t) = e0.w ∧ Ext w W1 ∧ W1.heap.size = w.heap.size + 1 ∧ (∀ e : Later W1, e.w.cell? ⟨w.heap.size, 0, none⟩ = some v0) ∧ (∀ e : Later W1, e.w.cell? ⟨w.heap.size, 1, none⟩ = some v1) ∧ (∀ e : Later W1, e.w.cell? ⟨w.heap.size, 2, none⟩ = some v2) ∧ (∀ e : Later W1, e.w.cell? ⟨w.heap.size, 3, none⟩ = some v3) ∧ (∀ e : Later W1, e.w.cell? ⟨w.heap.size, 4, none⟩ = some v4) ∧ (∀ e : Later W1, e.w.cell? ⟨w.heap.size, 5, none⟩ = some v5) ∧ (∀ e : Later W1, e.w.cell? ⟨w.heap.size, 6, none⟩ = some v6) ∧ (∀ e : Later W1, e.w.cell? ⟨w.heap.size, 7, none⟩ = some v7) ∧ (∀ e : Later W1, e.w.cell? ⟨w.heap.size, 8, none⟩ = some v8) :=
  ⟨w.alloc (.cells #[v0, v1, v2, v3, v4, v5, v6, v7, v8] t), ⟨_, Ext.refl _⟩, rfl, Ext.new _ _, by simp, fun e => ((Blk.new w t [v0, v1, v2, v3, v4, v5, v6, v7, v8]).ext e.ext).cell 0, fun e => ((Blk.new w t [v0, v1, v2, v3, v4, v5, v6, v7, v8]).ext e.ext).cell 1, fun e => ((Blk.new w t [v0, v1, v2, v3, v4, v5, v6, v7, v8]).ext e.ext).cell 2, fun e => ((Blk.new w t [v0, v1, v2, v3, v4, v5, v6, v7, v8]).ext e.ext).cell 3, fun e => ((Blk.new w t [v0, v1, v2, v3, v4, v5, v6, v7, v8]).ext e.ext).cell 4, fun e => ((Blk.new w t [v0, v1, v2, v3, v4, v5, v6, v7, v8]).ext e.ext).cell 5, fun e => ((Blk.new w t [v0, v1, v2, v3, v4, v5, v6, v7, v8]).ext e.ext).cell 6, fun e => ((Blk.new w t [v0, v1, v2, v3, v4, v5, v6, v7, v8]).ext e.ext).cell 7, fun e => ((Blk.new w t [v0, v1, v2, v3, v4, v5, v6, v7, v8]).ext e.ext).cell 8⟩

/-- A later world seen from an earlier one. -/
def Later.under {W W1 : World} (e : Later W1) (h : Ext W W1) : Later W := ⟨e.w, h.trans e.ext⟩
/-- A contract that holds in every later world, and only adds to memory. -/
def ECalls (P : Program) (f : FuncId) (args : Array Value) (W : World) (v : Value) : Prop := ∀ w, Ext W w → Calls P f args w fun x w' => x = .returned v ∧ Ext w w'
theorem ECalls.still {P : Program} {f : FuncId} {args : Array Value} {W : World} {v : Value} (h : ∀ w, Ext W w → Calls P f args w fun x w' => x = .returned v ∧ w' = w) : ECalls P f args W v :=
  fun w hw => (h w hw).mono fun x w'' ⟨h1, h2⟩ => ⟨h1, by rw [h2]; exact Ext.refl _⟩
theorem ECalls.later {P : Program} {f : FuncId} {args : Array Value} {W W1 : World} {v : Value} (h : ECalls P f args W v) (hx : Ext W W1) : ECalls P f args W1 v :=
  fun w hw => h w (hx.trans hw)
theorem ECalls.eq {P : Program} {f : FuncId} {args : Array Value} {W : World} {v v' : Value} (h : ECalls P f args W v) (hv : v = v') : ECalls P f args W v' := hv ▸ h
theorem ECalls.at_ {P : Program} {f : FuncId} {args : Array Value} {W : World} {v : Value} (h : ECalls P f args W v) (e : Later W) : Calls P f args e.w fun x w'' => x = .returned v ∧ ∃ e' : Later W, w'' = e'.w :=
  Later.calls (h e.w e.ext)
theorem ECalls.here {P : Program} {f : FuncId} {args : Array Value} {W : World} {v : Value} (h : ECalls P f args W v) : Calls P f args W fun x w' => x = .returned v ∧ Ext W w' := h W (Ext.refl _)
/-- A fact of cells, seen from a later world. -/
theorem cellL {W W1 : World} {p : Addr} {v : Value} (h : ∀ e : Later W, e.w.cell? p = some v) (hx : Ext W W1) : ∀ e : Later W1, e.w.cell? p = some v := fun e => h (e.under hx)
theorem cellAt {W : World} {p : Addr} {v : Value} (h : W.cell? p = some v) : ∀ e : Later W, e.w.cell? p = some v := fun e => e.ext.at_ h

theorem yes_true : yes True = true := yes_iff.2 trivial
theorem yes_false : yes False = false := yes_no.2 id
theorem yes_and (p q : Prop) : yes (p ∧ q) = (yes p && yes q) := by rw [Bool.eq_iff_iff, yes_iff, Bool.and_eq_true, yes_iff, yes_iff]
theorem yes_or (p q : Prop) : yes (p ∨ q) = (yes p || yes q) := by rw [Bool.eq_iff_iff, yes_iff, Bool.or_eq_true, yes_iff, yes_iff]
theorem yes_not (p : Prop) : yes (¬ p) = !yes p := by rw [Bool.eq_iff_iff, yes_iff, Bool.not_eq_true', yes_no]
theorem yes_dec (p : Prop) [Decidable p] : yes p = decide p := by rw [Bool.eq_iff_iff, yes_iff, decide_eq_true_iff]
theorem yes_beq {α : Type} [BEq α] [LawfulBEq α] (a b : α) : yes (a = b) = (a == b) := by rw [Bool.eq_iff_iff, yes_iff, beq_iff_eq]
theorem yes_nameP (s : ByteArray) : yes (nameP s) = nameOk s := by rw [Bool.eq_iff_iff, yes_iff, nameOk_iff]

/-- The bounds of texts and numbers, of binds, ports, items, modules. -/
def VB (b : Bnd) : Prop := b.name.size < 4294967281 ∧ VX b.x
def VP (b : Prt) : Prop := b.name.size < 4294967281 ∧ VX b.w
inductive VI : Itm → Prop
  | mk (x : Itm) (hn : x.name.size < 4294967281) (ho : x.of.size < 4294967281) (hx : ∀ y, y ∈ x.x → VX y) (hs : ∀ y, y ∈ x.s → VS y) (hl : ∀ y, y ∈ x.l → VI y) (he : ∀ y, y ∈ x.els → VI y) (hp : ∀ y, y ∈ x.params → VB y) (hb : ∀ y, y ∈ x.binds → VB y) : VI x
theorem VI_iff {x : Itm} : VI x ↔ x.name.size < 4294967281 ∧ x.of.size < 4294967281 ∧ (∀ y, y ∈ x.x → VX y) ∧ (∀ y, y ∈ x.s → VS y) ∧ (∀ y, y ∈ x.l → VI y) ∧ (∀ y, y ∈ x.els → VI y) ∧ (∀ y, y ∈ x.params → VB y) ∧ (∀ y, y ∈ x.binds → VB y) :=
  ⟨fun h => by cases h with | mk _ hn ho hx hs hl he hp hb => exact ⟨hn, ho, hx, hs, hl, he, hp, hb⟩, fun ⟨hn, ho, hx, hs, hl, he, hp, hb⟩ => .mk x hn ho hx hs hl he hp hb⟩
def VM (m : Mdl) : Prop := m.name.size < 4294967281 ∧ (∀ y, y ∈ m.params → VB y) ∧ (∀ y, y ∈ m.ports → VP y) ∧ (∀ y, y ∈ m.items → VI y)

end Go.Proofs.YtjoglnjpgkobeaaGreatDoor

/-
  FROM THE ROW's READING TO TREES IN MEMORY: what a reading of the arguments says of the cells.
-/
namespace Go.Proofs.YtjoglnjpgkobeaaGreatDoor
open Go Go.RowKit
set_option linter.all false
set_option linter.unusedVariables false
set_option linter.unusedSimpArgs false
set_option linter.unusedVariables false
set_option linter.unusedSimpArgs false

section
variable {H : Type} {enc : TypeId × Value → H} {w : World} {spare : Nat → Bool} {held : Bool}

theorem bulk_one (d : DataW H) : 1 ≤ Rows.uptoBulk d := by
  cases d with
  | lit l => cases l <;> simp [Rows.uptoBulk]
  | nil => simp [Rows.uptoBulk]
  | ptr d => simp [Rows.uptoBulk]
  | slice elems spare => simp [Rows.uptoBulk]
  | agg parts => simp [Rows.uptoBulk]
  | iface t d => simp [Rows.uptoBulk]
  | map entries => simp [Rows.uptoBulk]
  | held h => simp [Rows.uptoBulk]
theorem bulk_part {d : DataW H} {l : List (DataW H)} (h : d ∈ l) : Rows.uptoBulk d ≤ Rows.uptoBulkAll l := by
  induction l with
  | nil => cases h
  | cons x r ih =>
    simp only [Rows.uptoBulkAll]
    rcases List.mem_cons.1 h with e | e
    · subst e; omega
    · have := ih e; omega
theorem bulk_append (l r : List (DataW H)) : Rows.uptoBulkAll (l ++ r) = Rows.uptoBulkAll l + Rows.uptoBulkAll r := by
  induction l with
  | nil => simp [Rows.uptoBulkAll]
  | cons x l ih => simp only [List.cons_append, Rows.uptoBulkAll, ih]; omega

/-- A list of what there is at each place. -/
theorem exists_list {α : Type} (Q : Nat → α → Prop) (sz : α → Nat) (D : Nat → DataW H) : ∀ len, (∀ i, i < len → ∃ y, Q i y ∧ sz y ≤ Rows.uptoBulk (D i)) →
    ∃ l : List α, l.length = len ∧ (∀ k (h : k < l.length), Q k l[k]) ∧ msize sz l ≤ Rows.uptoBulkAll ((List.range len).map D) := by
  intro len
  induction len with
  | zero => intro _; exact ⟨[], rfl, fun k h => absurd h (by simp), by simp [msize]⟩
  | succ len ih =>
    intro h
    obtain ⟨l, h1, h2, h3⟩ := ih (fun i hi => h i (by omega))
    obtain ⟨y, hy, hz⟩ := h len (by omega)
    refine ⟨l ++ [y], by simp [h1], fun k hk => ?_, ?_⟩
    · by_cases e : k < l.length
      · rw [List.getElem_append_left e]; exact h2 k e
      · have : k = len := by simp at hk; omega
        subst this
        rw [List.getElem_append_right (by omega)]
        simpa [h1] using hy
    · rw [msize_append, List.range_succ, List.map_append, bulk_append]
      simp only [msize, List.map_cons, List.map_nil, Rows.uptoBulkAll]
      omega
theorem cell_spot {x : Addr} {v : Value} (h : w.cell? x = some v) : x.spot = none := by
  cases hsp : x.spot with
  | none => rfl
  | some s =>
    simp only [World.cell?] at h
    split at h
    · simp [hsp] at h
    · cases h
theorem add_eq {a : Addr} (h : a.spot = none) (k : Nat) : a.add k = ⟨a.block, a.off + k, none⟩ := by
  unfold Addr.add
  split
  · rename_i h0
    subst h0
    cases a
    simp_all
  · rfl

theorem read_list {α : Type} {R : α → List Value → Prop} {V : α → Prop} {sz : α → Nat} {t e : TypeId} {n : Nat} (ht : Tryz.prog.underlying t = some (.slice e)) (hc : Tryz.prog.cellsOf e = n) (hn : 0 < n) {fuel : Nat} {cs : List Value} {d : DataW H} {ps : List MemPlace}
    (h1 : ∀ y cs, R y cs → ∀ v, v ∈ cs → v.oneCell' = true) (h : DataW.trod enc Tryz.prog w 0 spare held fuel t cs = some (d, ps))
    (hel : ∀ fuel' cs' d' ps', Rows.uptoBulk d' < Rows.uptoBulk d → DataW.trod enc Tryz.prog w 0 spare held fuel' e cs' = some (d', ps') → ∃ y, R y cs' ∧ V y ∧ sz y ≤ Rows.uptoBulk d') :
    ∃ (l : List α) (v : Value), cs = [v] ∧ Sl R w w.heap.size n l v ∧ (∀ y, y ∈ l → V y) ∧ msize sz l + 1 ≤ Rows.uptoBulk d := by
  rcases Go.Deep.open_slice ht h with ⟨rfl, hx⟩ | ⟨a, len, cap, m, fu, D, Pl, rfl, -, hlc, -, hm, hx, hall⟩
  · exact ⟨[], _, rfl, Sl.nil, (fun y hy => by cases hy), by simp only [msize]; exact bulk_one d⟩
  · have hd : d = .slice ((List.range len).map D) ((List.range (m - len)).map fun j => D (len + j)) := (Prod.mk.inj hx).1
    have hml : len ≤ m := by rw [hm]; split <;> omega
    have hbd : Rows.uptoBulkAll ((List.range len).map D) + 1 ≤ Rows.uptoBulk d := by rw [hd]; simp only [Rows.uptoBulk]; omega
    have hel' : ∀ i, i < len → ∃ y, (ElemAt w w.heap.size (some a) n i (R y) ∧ V y) ∧ sz y ≤ Rows.uptoBulk (D i) := fun i hi => by
      obtain ⟨cs', hcs, htr⟩ := hall i (by omega)
      rw [hc] at hcs
      have hDi : Rows.uptoBulk (D i) ≤ Rows.uptoBulkAll ((List.range len).map D) := bulk_part (List.mem_map.2 ⟨i, List.mem_range.2 hi, rfl⟩)
      obtain ⟨y, hR, hV, hz⟩ := hel fu cs' (D i) (Pl i) (by omega) htr
      refine ⟨y, ⟨?_, hV⟩, hz⟩
      obtain ⟨hb0, hlen, hcell⟩ := World.cells?_some hcs
      obtain ⟨cs0, hcs0, -⟩ := hall 0 (by omega)
      rw [hc, Nat.zero_mul] at hcs0
      obtain ⟨-, hlen0, hcell0⟩ := World.cells?_some hcs0
      have hsp : a.spot = none := by
        have h0 := hcell0 0 (by omega)
        rw [List.getElem?_eq_getElem (by omega)] at h0
        have := cell_spot h0
        simpa [Addr.add] using this
      have hblk : a.block < w.heap.size := by
        have := World.cells?_block hcs0 hn
        simpa [Addr.add] using this
      have ha : a = ⟨a.block, a.off, none⟩ := by cases a; simp_all
      refine ⟨a.block, a.off, cs', by rw [← ha], hblk, hlen, fun j v hj => ?_, h1 y cs' hR, hR⟩
      have hjn : j < n := by have := (List.getElem?_eq_some_iff.1 hj).1; omega
      have := hcell j hjn
      rw [Go.Deep.add_add, add_eq hsp, hj] at this
      rw [Nat.add_assoc]
      exact this
    obtain ⟨l, hl, hq, hsz⟩ := exists_list (fun i y => ElemAt w w.heap.size (some a) n i (R y) ∧ V y) sz D len hel'
    subst hl
    exact ⟨l, _, rfl, ⟨some a, cap, rfl, hlc, fun k hk => (hq k hk).1⟩, fun y hy => by obtain ⟨k, hk, rfl⟩ := List.getElem_of_mem hy; exact (hq k hk).2, by omega⟩
end

theorem oneX {w : World} {B : Nat} (y : X) (cs : List Value) (h : RX w B y cs) : ∀ v, v ∈ cs → v.oneCell' = true := by
  obtain ⟨v, rfl, hs⟩ := RX_iff.1 h
  intro u hu
  simp only [List.mem_cons, List.not_mem_nil, or_false] at hu
  rcases hu with rfl | rfl | rfl | rfl | rfl | rfl
  all_goals first | rfl | exact hs.oneCell
theorem oneS {w : World} {B : Nat} (y : S) (cs : List Value) (h : RS w B y cs) : ∀ v, v ∈ cs → v.oneCell' = true := by
  obtain ⟨v2, v3, rfl, h2, h3⟩ := RS_iff.1 h
  intro u hu
  simp only [List.mem_cons, List.not_mem_nil, or_false] at hu
  rcases hu with rfl | rfl | rfl | rfl
  · rfl
  · rfl
  · exact h2.oneCell
  · exact h3.oneCell
theorem oneB {w : World} {B : Nat} (y : Bnd) (cs : List Value) (h : RB w B y cs) : ∀ v, v ∈ cs → v.oneCell' = true := by
  obtain ⟨c, rfl, h2⟩ := h
  intro u hu
  rcases List.mem_cons.1 hu with rfl | hu
  · rfl
  · exact oneX _ _ h2 u hu
theorem oneP {w : World} {B : Nat} (y : Prt) (cs : List Value) (h : RP w B y cs) : ∀ v, v ∈ cs → v.oneCell' = true := by
  obtain ⟨c, rfl, h2⟩ := h
  intro u hu
  rcases List.mem_cons.1 hu with rfl | hu
  · rfl
  · rcases List.mem_cons.1 hu with rfl | hu
    · rfl
    · exact oneX _ _ h2 u hu
theorem oneI {w : World} {B : Nat} (y : Itm) (cs : List Value) (h : RI w B y cs) : ∀ v, v ∈ cs → v.oneCell' = true := by
  obtain ⟨v3, v4, v5, v6, v7, v8, rfl, h3, h4, h5, h6, h7, h8⟩ := RI_iff.1 h
  intro u hu
  simp only [List.mem_cons, List.not_mem_nil, or_false] at hu
  rcases hu with rfl | rfl | rfl | rfl | rfl | rfl | rfl | rfl | rfl
  · rfl
  · rfl
  · rfl
  · exact h3.oneCell
  · exact h4.oneCell
  · exact h5.oneCell
  · exact h6.oneCell
  · exact h7.oneCell
  · exact h8.oneCell
theorem oneM {w : World} {B : Nat} (y : Mdl) (cs : List Value) (h : RM w B y cs) : ∀ v, v ∈ cs → v.oneCell' = true := by
  obtain ⟨v1, v2, v3, rfl, h1, h2, h3⟩ := h
  intro u hu
  simp only [List.mem_cons, List.not_mem_nil, or_false] at hu
  rcases hu with rfl | rfl | rfl | rfl
  · rfl
  · exact h1.oneCell
  · exact h2.oneCell
  · exact h3.oneCell

theorem list1 {α : Type} {l : List α} (h : l.length = 1) : ∃ a, l = [a] := by
  match l, h with
  | [a], _ => exact ⟨_, rfl⟩
theorem list2 {α : Type} {l : List α} (h : l.length = 2) : ∃ a b, l = [a, b] := by
  match l, h with
  | [a, b], _ => exact ⟨_, _, rfl⟩
theorem list3 {α : Type} {l : List α} (h : l.length = 3) : ∃ a b c, l = [a, b, c] := by
  match l, h with
  | [a, b, c], _ => exact ⟨_, _, _, rfl⟩
theorem list4 {α : Type} {l : List α} (h : l.length = 4) : ∃ a b c d, l = [a, b, c, d] := by
  match l, h with
  | [a, b, c, d], _ => exact ⟨_, _, _, _, rfl⟩
theorem list6 {α : Type} {l : List α} (h : l.length = 6) : ∃ a b c d e f, l = [a, b, c, d, e, f] := by
  match l, h with
  | [a, b, c, d, e, f], _ => exact ⟨_, _, _, _, _, _, rfl⟩
theorem list7 {α : Type} {l : List α} (h : l.length = 7) : ∃ a b c d e f g, l = [a, b, c, d, e, f, g] := by
  match l, h with
  | [a, b, c, d, e, f, g], _ => exact ⟨_, _, _, _, _, _, _, rfl⟩
theorem list8 {α : Type} {l : List α} (h : l.length = 8) : ∃ a b c d e f g i, l = [a, b, c, d, e, f, g, i] := by
  match l, h with
  | [a, b, c, d, e, f, g, i], _ => exact ⟨_, _, _, _, _, _, _, _, rfl⟩
theorem list9 {α : Type} {l : List α} (h : l.length = 9) : ∃ a b c d e f g i j, l = [a, b, c, d, e, f, g, i, j] := by
  match l, h with
  | [a, b, c, d, e, f, g, i, j], _ => exact ⟨_, _, _, _, _, _, _, _, _, rfl⟩

theorem cTint : Tryz.prog.cellsOf 3 = 1 := by kernel_rfl
theorem cTstr : Tryz.prog.cellsOf 9 = 1 := by kernel_rfl
theorem cTbool : Tryz.prog.cellsOf 4 = 1 := by kernel_rfl
theorem cTu64 : Tryz.prog.cellsOf 46 = 1 := by kernel_rfl
theorem cTsX : Tryz.prog.cellsOf 47 = 1 := by kernel_rfl
theorem cTsS : Tryz.prog.cellsOf 51 = 1 := by kernel_rfl
theorem cTsB : Tryz.prog.cellsOf 29 = 1 := by kernel_rfl
theorem cTsP : Tryz.prog.cellsOf 30 = 1 := by kernel_rfl
theorem cTsI : Tryz.prog.cellsOf 31 = 1 := by kernel_rfl
theorem cTsM : Tryz.prog.cellsOf 22 = 1 := by kernel_rfl
theorem cTX : Tryz.prog.cellsOf 49 = 6 := by kernel_rfl
theorem cTS : Tryz.prog.cellsOf 140 = 4 := by kernel_rfl
theorem cTB : Tryz.prog.cellsOf 85 = 7 := by kernel_rfl
theorem cTP : Tryz.prog.cellsOf 83 = 8 := by kernel_rfl
theorem cTI : Tryz.prog.cellsOf 53 = 9 := by kernel_rfl
theorem cTM : Tryz.prog.cellsOf 33 = 4 := by kernel_rfl
theorem cTF : Tryz.prog.cellsOf 24 = 1 := by kernel_rfl

section
variable {H : Type} {enc : TypeId × Value → H} {w : World} {spare : Nat → Bool} {held : Bool}

theorem read_str {fuel : Nat} {c : Value} {y : DataW H × List MemPlace} (h : DataW.trod enc Tryz.prog w 0 spare held fuel 9 [c] = some y) : ∃ s : ByteArray, c = .string s ∧ s.size + 1 ≤ Rows.uptoBulk y.1 := by
  obtain ⟨s, h1, h2, h3⟩ := DataW.trod_string Tryz.underlying9 h
  simp only [List.cons.injEq, and_true] at h1
  exact ⟨s, h1, by rw [h2]; simp [Rows.uptoBulk]⟩
theorem read_int {fuel : Nat} {c : Value} {y : DataW H × List MemPlace} (h : DataW.trod enc Tryz.prog w 0 spare held fuel 3 [c] = some y) : ∃ n, c = .int .i64 n ∧ 1 ≤ Rows.uptoBulk y.1 := by
  obtain ⟨n, h1, h2, h3⟩ := DataW.trod_int Tryz.underlying3 h
  simp only [List.cons.injEq, and_true] at h1
  exact ⟨n, h1, bulk_one _⟩
theorem read_bool {fuel : Nat} {c : Value} {y : DataW H × List MemPlace} (h : DataW.trod enc Tryz.prog w 0 spare held fuel 4 [c] = some y) : ∃ b, c = .bool b ∧ 1 ≤ Rows.uptoBulk y.1 := by
  obtain ⟨n, h1, h2⟩ := DataW.trod_bool Tryz.underlying4 h
  simp only [List.cons.injEq, and_true] at h1
  exact ⟨n, h1, bulk_one _⟩
theorem read_u64 {fuel : Nat} {c : Value} {y : DataW H × List MemPlace} (h : DataW.trod enc Tryz.prog w 0 spare held fuel 46 [c] = some y) : ∃ n, c = .int .u64 n ∧ (0 ≤ n ∧ n < 18446744073709551616) ∧ 1 ≤ Rows.uptoBulk y.1 := by
  obtain ⟨n, h1, h2, h3⟩ := DataW.trod_int Tryz.underlying46 h
  simp only [List.cons.injEq, and_true] at h1
  have hw := (Lit.wf_int_iff _ _).1 h3
  exact ⟨n, h1, (by simp [IntKind.min, IntKind.max, IntKind.bits, IntKind.signed] at hw; omega), bulk_one _⟩

theorem readX : ∀ N fuel (cs : List Value) (d : DataW H) (ps : List MemPlace), Rows.uptoBulk d ≤ N → N ≤ 1048576 → DataW.trod enc Tryz.prog w 0 spare held fuel 49 cs = some (d, ps) →
    ∃ x, RX w w.heap.size x cs ∧ VX x ∧ sizeX x ≤ Rows.uptoBulk d := by
  intro N
  induction N using Nat.strongRecOn with
  | _ N ih =>
    intro fuel cs d ps hd hN h
    obtain ⟨xs, n, -, hx, hl, hlen, hf⟩ := DataW.trod_struct Tryz.underlying49 h
    obtain ⟨c0, c1, c2, c3, c4, c5, rfl⟩ := list6 (hl.trans cTX)
    obtain ⟨y0, y1, y2, y3, y4, y5, rfl⟩ := list6 hlen
    have g0 := hf 0 _ rfl
    have g1 := hf 1 _ rfl
    have g2 := hf 2 _ rfl
    have g3 := hf 3 _ rfl
    have g4 := hf 4 _ rfl
    have g5 := hf 5 _ rfl
    clear hf
    simp [cTint, cTstr, cTu64, cTsX] at g0 g1 g2 g3 g4 g5
    obtain ⟨op, rfl, b0⟩ := read_int g0
    obtain ⟨nm, rfl, b1⟩ := read_str g1
    obtain ⟨n2, rfl, b2⟩ := read_int g2
    obtain ⟨n3, rfl, b3⟩ := read_int g3
    obtain ⟨v4, rfl, hv4, b4⟩ := read_u64 g4
    have hd' : d = .agg [y0.1, y1.1, y2.1, y3.1, y4.1, y5.1] := (Prod.mk.inj hx).1
    have hbd : Rows.uptoBulk d = Rows.uptoBulk y0.1 + (Rows.uptoBulk y1.1 + (Rows.uptoBulk y2.1 + (Rows.uptoBulk y3.1 + (Rows.uptoBulk y4.1 + (Rows.uptoBulk y5.1 + 0))))) + 1 := by rw [hd']; rfl
    obtain ⟨l, v, hv, hs, hV, hz⟩ := read_list Tryz.underlying47 cTX (by omega) oneX (d := y5.1) (ps := y5.2) g5 (fun fuel' cs' d' ps' hlt htr => ih (Rows.uptoBulk d') (by omega) fuel' cs' d' ps' (Nat.le_refl _) (by omega) htr)
    simp only [List.cons.injEq, and_true] at hv
    subst hv
    refine ⟨.mk op nm n2 n3 v4 l, RX_iff.2 ⟨_, rfl, hs⟩, VX_iff.2 ⟨hv4.1, hv4.2, ?_, hV⟩, ?_⟩
    · show nm.size < _
      omega
    · rw [sizeX_eq]
      show 1 + msize sizeX l ≤ _
      omega

theorem readS : ∀ N fuel (cs : List Value) (d : DataW H) (ps : List MemPlace), Rows.uptoBulk d ≤ N → N ≤ 1048576 → DataW.trod enc Tryz.prog w 0 spare held fuel 140 cs = some (d, ps) →
    ∃ x, RS w w.heap.size x cs ∧ VS x ∧ sizeS x ≤ Rows.uptoBulk d := by
  intro N
  induction N using Nat.strongRecOn with
  | _ N ih =>
    intro fuel cs d ps hd hN h
    obtain ⟨xs, n, -, hx, hl, hlen, hf⟩ := DataW.trod_struct Tryz.underlying140 h
    obtain ⟨c0, c1, c2, c3, rfl⟩ := list4 (hl.trans cTS)
    obtain ⟨y0, y1, y2, y3, rfl⟩ := list4 hlen
    have g0 := hf 0 _ rfl
    have g1 := hf 1 _ rfl
    have g2 := hf 2 _ rfl
    have g3 := hf 3 _ rfl
    clear hf
    simp [cTint, cTstr, cTsX, cTsS] at g0 g1 g2 g3
    obtain ⟨op, rfl, b0⟩ := read_int g0
    obtain ⟨nm, rfl, b1⟩ := read_str g1
    have hd' : d = .agg [y0.1, y1.1, y2.1, y3.1] := (Prod.mk.inj hx).1
    have hbd : Rows.uptoBulk d = Rows.uptoBulk y0.1 + (Rows.uptoBulk y1.1 + (Rows.uptoBulk y2.1 + (Rows.uptoBulk y3.1 + 0))) + 1 := by rw [hd']; rfl
    obtain ⟨lx, v, hv, hsx, hVx, hzx⟩ := read_list Tryz.underlying47 cTX (by omega) oneX (d := y2.1) (ps := y2.2) g2 (fun fuel' cs' d' ps' hlt htr => readX (Rows.uptoBulk d') fuel' cs' d' ps' (Nat.le_refl _) (by omega) htr)
    simp only [List.cons.injEq, and_true] at hv
    subst hv
    obtain ⟨l, v, hv, hs, hV, hz⟩ := read_list Tryz.underlying51 cTS (by omega) oneS (d := y3.1) (ps := y3.2) g3 (fun fuel' cs' d' ps' hlt htr => ih (Rows.uptoBulk d') (by omega) fuel' cs' d' ps' (Nat.le_refl _) (by omega) htr)
    simp only [List.cons.injEq, and_true] at hv
    subst hv
    refine ⟨.mk op nm lx l, RS_iff.2 ⟨_, _, rfl, hsx, hs⟩, VS_iff.2 ⟨?_, hVx, hV⟩, ?_⟩
    · show nm.size < _
      omega
    · rw [sizeS_eq]
      show 1 + msize sizeX lx + msize sizeS l ≤ _
      omega

theorem readB (fuel : Nat) (cs : List Value) (d : DataW H) (ps : List MemPlace) (hN : Rows.uptoBulk d ≤ 1048576) (h : DataW.trod enc Tryz.prog w 0 spare held fuel 85 cs = some (d, ps)) :
    ∃ x, RB w w.heap.size x cs ∧ VB x ∧ sizeB x ≤ Rows.uptoBulk d := by
  obtain ⟨xs, n, -, hx, hl, hlen, hf⟩ := DataW.trod_struct Tryz.underlying85 h
  obtain ⟨c0, c1, c2, c3, c4, c5, c6, rfl⟩ := list7 (hl.trans cTB)
  obtain ⟨y0, y1, rfl⟩ := list2 hlen
  have g0 := hf 0 _ rfl
  have g1 := hf 1 _ rfl
  clear hf
  simp [cTstr, cTX] at g0 g1
  obtain ⟨nm, rfl, b1⟩ := read_str g0
  have hd' : d = .agg [y0.1, y1.1] := (Prod.mk.inj hx).1
  have hbd : Rows.uptoBulk d = Rows.uptoBulk y0.1 + (Rows.uptoBulk y1.1 + 0) + 1 := by rw [hd']; rfl
  obtain ⟨x, hr, hv, hz⟩ := readX _ n _ y1.1 y1.2 (Nat.le_refl _) (by omega) g1
  refine ⟨⟨nm, x⟩, ⟨_, rfl, hr⟩, ⟨?_, hv⟩, ?_⟩
  · show nm.size < _
    omega
  · show 1 + sizeX x ≤ _
    omega
theorem readP (fuel : Nat) (cs : List Value) (d : DataW H) (ps : List MemPlace) (hN : Rows.uptoBulk d ≤ 1048576) (h : DataW.trod enc Tryz.prog w 0 spare held fuel 83 cs = some (d, ps)) :
    ∃ x, RP w w.heap.size x cs ∧ VP x ∧ sizeP x ≤ Rows.uptoBulk d := by
  obtain ⟨xs, n, -, hx, hl, hlen, hf⟩ := DataW.trod_struct Tryz.underlying83 h
  obtain ⟨c0, c1, c2, c3, c4, c5, c6, c7, rfl⟩ := list8 (hl.trans cTP)
  obtain ⟨y0, y1, y2, rfl⟩ := list3 hlen
  have g0 := hf 0 _ rfl
  have g1 := hf 1 _ rfl
  have g2 := hf 2 _ rfl
  clear hf
  simp [cTstr, cTbool, cTX] at g0 g1 g2
  obtain ⟨nm, rfl, b1⟩ := read_str g0
  obtain ⟨o, rfl, b2⟩ := read_bool g1
  have hd' : d = .agg [y0.1, y1.1, y2.1] := (Prod.mk.inj hx).1
  have hbd : Rows.uptoBulk d = Rows.uptoBulk y0.1 + (Rows.uptoBulk y1.1 + (Rows.uptoBulk y2.1 + 0)) + 1 := by rw [hd']; rfl
  obtain ⟨x, hr, hv, hz⟩ := readX _ n _ y2.1 y2.2 (Nat.le_refl _) (by omega) g2
  refine ⟨⟨nm, o, x⟩, ⟨_, rfl, hr⟩, ⟨?_, hv⟩, ?_⟩
  · show nm.size < _
    omega
  · show 1 + sizeX x ≤ _
    omega

theorem readI : ∀ N fuel (cs : List Value) (d : DataW H) (ps : List MemPlace), Rows.uptoBulk d ≤ N → N ≤ 1048576 → DataW.trod enc Tryz.prog w 0 spare held fuel 53 cs = some (d, ps) →
    ∃ x, RI w w.heap.size x cs ∧ VI x ∧ sizeI x ≤ Rows.uptoBulk d := by
  intro N
  induction N using Nat.strongRecOn with
  | _ N ih =>
    intro fuel cs d ps hd hN h
    obtain ⟨xs, n, -, hx, hl, hlen, hf⟩ := DataW.trod_struct Tryz.underlying53 h
    obtain ⟨c0, c1, c2, c3, c4, c5, c6, c7, c8, rfl⟩ := list9 (hl.trans cTI)
    obtain ⟨y0, y1, y2, y3, y4, y5, y6, y7, y8, rfl⟩ := list9 hlen
    have g0 := hf 0 _ rfl
    have g1 := hf 1 _ rfl
    have g2 := hf 2 _ rfl
    have g3 := hf 3 _ rfl
    have g4 := hf 4 _ rfl
    have g5 := hf 5 _ rfl
    have g6 := hf 6 _ rfl
    have g7 := hf 7 _ rfl
    have g8 := hf 8 _ rfl
    clear hf
    simp [cTint, cTstr, cTsX, cTsS, cTsI, cTsB] at g0 g1 g2 g3 g4 g5 g6 g7 g8
    obtain ⟨op, rfl, b0⟩ := read_int g0
    obtain ⟨nm, rfl, b1⟩ := read_str g1
    obtain ⟨of, rfl, b2⟩ := read_str g2
    have hd' : d = .agg [y0.1, y1.1, y2.1, y3.1, y4.1, y5.1, y6.1, y7.1, y8.1] := (Prod.mk.inj hx).1
    have hbd : Rows.uptoBulk d = Rows.uptoBulk y0.1 + (Rows.uptoBulk y1.1 + (Rows.uptoBulk y2.1 + (Rows.uptoBulk y3.1 + (Rows.uptoBulk y4.1 + (Rows.uptoBulk y5.1 + (Rows.uptoBulk y6.1 + (Rows.uptoBulk y7.1 + (Rows.uptoBulk y8.1 + 0)))))))) + 1 := by rw [hd']; rfl
    obtain ⟨l3, v, hv, s3, V3, z3⟩ := read_list Tryz.underlying47 cTX (by omega) oneX (d := y3.1) (ps := y3.2) g3 (fun fuel' cs' d' ps' hlt htr => readX (Rows.uptoBulk d') fuel' cs' d' ps' (Nat.le_refl _) (by omega) htr)
    simp only [List.cons.injEq, and_true] at hv
    subst hv
    obtain ⟨l4, v, hv, s4, V4, z4⟩ := read_list Tryz.underlying51 cTS (by omega) oneS (d := y4.1) (ps := y4.2) g4 (fun fuel' cs' d' ps' hlt htr => readS (Rows.uptoBulk d') fuel' cs' d' ps' (Nat.le_refl _) (by omega) htr)
    simp only [List.cons.injEq, and_true] at hv
    subst hv
    obtain ⟨l5, v, hv, s5, V5, z5⟩ := read_list Tryz.underlying31 cTI (by omega) oneI (d := y5.1) (ps := y5.2) g5 (fun fuel' cs' d' ps' hlt htr => ih (Rows.uptoBulk d') (by omega) fuel' cs' d' ps' (Nat.le_refl _) (by omega) htr)
    simp only [List.cons.injEq, and_true] at hv
    subst hv
    obtain ⟨l6, v, hv, s6, V6, z6⟩ := read_list Tryz.underlying31 cTI (by omega) oneI (d := y6.1) (ps := y6.2) g6 (fun fuel' cs' d' ps' hlt htr => ih (Rows.uptoBulk d') (by omega) fuel' cs' d' ps' (Nat.le_refl _) (by omega) htr)
    simp only [List.cons.injEq, and_true] at hv
    subst hv
    obtain ⟨l7, v, hv, s7, V7, z7⟩ := read_list Tryz.underlying29 cTB (by omega) oneB (d := y7.1) (ps := y7.2) g7 (fun fuel' cs' d' ps' hlt htr => readB fuel' cs' d' ps' (by omega) htr)
    simp only [List.cons.injEq, and_true] at hv
    subst hv
    obtain ⟨l8, v, hv, s8, V8, z8⟩ := read_list Tryz.underlying29 cTB (by omega) oneB (d := y8.1) (ps := y8.2) g8 (fun fuel' cs' d' ps' hlt htr => readB fuel' cs' d' ps' (by omega) htr)
    simp only [List.cons.injEq, and_true] at hv
    subst hv
    refine ⟨.mk op nm of l3 l4 l5 l6 l7 l8, RI_iff.2 ⟨_, _, _, _, _, _, rfl, s3, s4, s5, s6, s7, s8⟩, VI_iff.2 ⟨?_, ?_, V3, V4, V5, V6, V7, V8⟩, ?_⟩
    · show nm.size < _
      omega
    · show of.size < _
      omega
    · rw [sizeI_eq]
      show 1 + msize sizeX l3 + msize sizeS l4 + msize sizeI l5 + msize sizeI l6 + msize sizeB l7 + msize sizeB l8 ≤ _
      omega

theorem readM (fuel : Nat) (cs : List Value) (d : DataW H) (ps : List MemPlace) (hN : Rows.uptoBulk d ≤ 1048576) (h : DataW.trod enc Tryz.prog w 0 spare held fuel 33 cs = some (d, ps)) :
    ∃ x, RM w w.heap.size x cs ∧ VM x ∧ sizeM x ≤ Rows.uptoBulk d := by
  obtain ⟨xs, n, -, hx, hl, hlen, hf⟩ := DataW.trod_struct Tryz.underlying33 h
  obtain ⟨c0, c1, c2, c3, rfl⟩ := list4 (hl.trans cTM)
  obtain ⟨y0, y1, y2, y3, rfl⟩ := list4 hlen
  have g0 := hf 0 _ rfl
  have g1 := hf 1 _ rfl
  have g2 := hf 2 _ rfl
  have g3 := hf 3 _ rfl
  clear hf
  simp [cTstr, cTsB, cTsP, cTsI] at g0 g1 g2 g3
  obtain ⟨nm, rfl, b1⟩ := read_str g0
  have hd' : d = .agg [y0.1, y1.1, y2.1, y3.1] := (Prod.mk.inj hx).1
  have hbd : Rows.uptoBulk d = Rows.uptoBulk y0.1 + (Rows.uptoBulk y1.1 + (Rows.uptoBulk y2.1 + (Rows.uptoBulk y3.1 + 0))) + 1 := by rw [hd']; rfl
  obtain ⟨l1, v, hv, s1, V1, z1⟩ := read_list Tryz.underlying29 cTB (by omega) oneB (d := y1.1) (ps := y1.2) g1 (fun fuel' cs' d' ps' hlt htr => readB fuel' cs' d' ps' (by omega) htr)
  simp only [List.cons.injEq, and_true] at hv
  subst hv
  obtain ⟨l2, v, hv, s2, V2, z2⟩ := read_list Tryz.underlying30 cTP (by omega) oneP (d := y2.1) (ps := y2.2) g2 (fun fuel' cs' d' ps' hlt htr => readP fuel' cs' d' ps' (by omega) htr)
  simp only [List.cons.injEq, and_true] at hv
  subst hv
  obtain ⟨l3, v, hv, s3, V3, z3⟩ := read_list Tryz.underlying31 cTI (by omega) oneI (d := y3.1) (ps := y3.2) g3 (fun fuel' cs' d' ps' hlt htr => readI (Rows.uptoBulk d') fuel' cs' d' ps' (Nat.le_refl _) (by omega) htr)
  simp only [List.cons.injEq, and_true] at hv
  subst hv
  refine ⟨⟨nm, l1, l2, l3⟩, ⟨_, _, _, rfl, s1, s2, s3⟩, ⟨?_, V1, V2, V3⟩, ?_⟩
  · show nm.size < _
    omega
  · show sizeM (Mdl.mk nm l1 l2 l3) ≤ _
    simp only [sizeM]
    omega

/-- A file: one slice of modules. -/
theorem readF (fuel : Nat) (cs : List Value) (d : DataW H) (ps : List MemPlace) (hN : Rows.uptoBulk d ≤ 1048576) (h : DataW.trod enc Tryz.prog w 0 spare held fuel 24 cs = some (d, ps)) :
    ∃ (f : List Mdl) (v : Value), cs = [v] ∧ Sl (RM w w.heap.size) w w.heap.size 4 f v ∧ (∀ y, y ∈ f → VM y) ∧ msize sizeM f ≤ Rows.uptoBulk d := by
  obtain ⟨xs, n, -, hx, hl, hlen, hf⟩ := DataW.trod_struct Tryz.underlying24 h
  obtain ⟨c0, rfl⟩ := list1 (hl.trans cTF)
  obtain ⟨y0, rfl⟩ := list1 hlen
  have g0 := hf 0 _ rfl
  clear hf
  simp [cTsM] at g0
  have hd' : d = .agg [y0.1] := (Prod.mk.inj hx).1
  have hbd : Rows.uptoBulk d = Rows.uptoBulk y0.1 + 0 + 1 := by rw [hd']; rfl
  obtain ⟨l1, v, hv, s1, V1, z1⟩ := read_list Tryz.underlying22 cTM (by omega) oneM (d := y0.1) (ps := y0.2) g0 (fun fuel' cs' d' ps' hlt htr => readM fuel' cs' d' ps' (by omega) htr)
  simp only [List.cons.injEq, and_true] at hv
  subst hv
  exact ⟨l1, _, rfl, s1, V1, by omega⟩
end

end Go.Proofs.YtjoglnjpgkobeaaGreatDoor

/-
  A REGION THAT DRAWS ITS ORDER, WHOSE LAST OPERATION WAITS FOR ALL OTHERS: those others by one walk, then the last one.
-/
namespace Go.Proofs.YtjoglnjpgkobeaaGreatDoor
open Go Go.RowKit
set_option linter.all false
set_option linter.unusedVariables false
set_option linter.unusedSimpArgs false

/-- Does 'o' wait for all of 'l', and is 'l' in order, and does it look at itself alone? -/
def tailOk (l : List Oper) (o : Oper) : Bool :=
  o.guard.isNone && (List.range l.length).all (fun i => o.after.any fun e => Region.binds .any e && e.on == i) && o.after.all (fun e => !Region.binds .any e || decide (e.on < l.length)) &&
    (List.range l.length).all (fun i => match l[i]? with
      | some x => x.after.all (fun e => !Region.binds .any e || decide (e.on < i)) && (match x.guard with | none => true | some (j, _) => decide (j < l.length))
      | none => true)

section
variable {P : Program} {l : List Oper} {o : Oper}

structure TailFacts (l : List Oper) (o : Oper) : Prop where
  guard : o.guard = none
  waits : ∀ i, i < l.length → ∃ e ∈ o.after, Region.binds .any e = true ∧ e.on = i
  last : ∀ e ∈ o.after, Region.binds .any e = true → e.on < l.length
  order : ∀ (i : Nat) (x : Oper), l[i]? = some x → ∀ e ∈ x.after, Region.binds .any e = true → e.on < i
  guards : ∀ (i : Nat) (x : Oper), l[i]? = some x → ∀ j b, x.guard = some (j, b) → j < l.length

theorem tailOk_facts (h : tailOk l o = true) : TailFacts l o := by
  simp only [tailOk, Bool.and_eq_true, List.all_eq_true, List.mem_range, Array.all_eq_true_iff_forall_mem, Bool.or_eq_true, Bool.not_eq_true', decide_eq_true_eq] at h
  obtain ⟨⟨⟨h1, h2⟩, h3⟩, h4⟩ := h
  have lt : ∀ {i : Nat} {x : Oper}, l[i]? = some x → i < l.length := fun hi => (List.getElem?_eq_some_iff.1 hi).1
  refine ⟨by simpa using h1, fun i hi => ?_, fun e he hb => ?_, fun i x hx e he hb => ?_, fun i x hx j b hg => ?_⟩
  · obtain ⟨e, he, hb⟩ := Array.any_eq_true'.1 (h2 i hi)
    simp only [Bool.and_eq_true, beq_iff_eq] at hb
    exact ⟨e, he, hb.1, hb.2⟩
  · rcases h3 e he with h | h
    · rw [h] at hb; cases hb
    · exact h
  · have := h4 i (lt hx)
    simp only [hx, Bool.and_eq_true, Array.all_eq_true_iff_forall_mem, Bool.or_eq_true, Bool.not_eq_true', decide_eq_true_eq] at this
    rcases this.1 e he with h | h
    · rw [h] at hb; cases hb
    · exact h
  · have := h4 i (lt hx)
    simp only [hx, Bool.and_eq_true, hg, decide_eq_true_eq] at this
    exact this.2

theorem push_getD {listed : Array Bool} {j : Nat} (d : Bool) (h : j < listed.size) : (listed.push false).getD j d = listed.getD j d := by
  simp [Array.getElem?_push_lt h, h]

theorem full_at {i : Nat} (h : i < l.length) : (l ++ [o]).toArray[i]? = l.toArray[i]? := by
  simp [List.getElem?_append_left h]

theorem ready_before (T : TailFacts l o) {listed : Array Bool} (hs : listed.size = l.length) {i : Nat} (hi : i < l.length) :
    i ∈ Region.ready .any (l ++ [o]).toArray (listed.push false) ↔ i ∈ Region.ready .any l.toArray listed := by
  rw [mem_ready, mem_ready, push_getD true (by omega), full_at hi]
  constructor
  · rintro ⟨h0, x, hx, hall⟩
    refine ⟨h0, x, hx, fun e he hb => ?_⟩
    have := T.order i x (by simpa using hx) e he hb
    rw [← push_getD false (by omega)]; exact hall e he hb
  · rintro ⟨h0, x, hx, hall⟩
    refine ⟨h0, x, hx, fun e he hb => ?_⟩
    have := T.order i x (by simpa using hx) e he hb
    rw [push_getD false (by omega)]; exact hall e he hb

theorem all_listed (T : TailFacts l o) {listed : Array Bool} (hs : listed.size = l.length) (h : Region.ready .any l.toArray listed = []) : ∀ n i, i < n → i < l.length → listed.getD i true = true := by
  intro n
  induction n with
  | zero => intro i hi; omega
  | succ n ih =>
    intro i hin hi
    cases hl : listed.getD i true with
    | true => rfl
    | false =>
      have : i ∈ Region.ready .any l.toArray listed := mem_ready.2 ⟨hl, l[i], by simp [List.getElem?_eq_getElem hi], fun e he hb => by
        have hlt := T.order i l[i] (List.getElem?_eq_getElem hi) e he hb
        have := ih e.on (by omega) (by omega)
        have hz : e.on < listed.size := by omega
        simpa [hz] using this⟩
      rw [h] at this; cases this

theorem last_ready (T : TailFacts l o) {listed : Array Bool} (hs : listed.size = l.length) :
    l.length ∈ Region.ready .any (l ++ [o]).toArray (listed.push false) ↔ Region.ready .any l.toArray listed = [] := by
  constructor
  · intro h
    obtain ⟨_, x, hx, hall⟩ := mem_ready.1 h
    have hxo : x = o := by simpa using hx.symm
    subst hxo
    rw [List.eq_nil_iff_forall_not_mem]
    intro i hi
    obtain ⟨h0, y, hy, _⟩ := mem_ready.1 hi
    have hlt : i < l.length := by
      have := (Array.getElem?_eq_some_iff.1 hy).1
      simpa using this
    obtain ⟨e, he, hb, heq⟩ := T.waits i hlt
    have := hall e he hb
    rw [heq, push_getD false (by omega)] at this
    have hz : i < listed.size := by omega
    simp [hz] at h0 this
    rw [h0] at this; cases this
  · intro h
    refine mem_ready.2 ⟨?_, o, by simp, fun e he hb => ?_⟩
    · rw [← hs]; simp
    · have hlt := T.last e he hb
      have := all_listed T hs h (e.on + 1) e.on (by omega) hlt
      rw [push_getD false (by omega)]
      have hz : e.on < listed.size := by omega
      simpa [hz] using this

theorem ready_lt {ops : Array Oper} {listed : Array Bool} {i : Nat} (h : i ∈ Region.ready .any ops listed) : i < ops.size := by
  obtain ⟨_, y, hy, _⟩ := mem_ready.1 h
  exact (Array.getElem?_eq_some_iff.1 hy).1

/-- What stands behind all but the last. -/
def TailPost (P : Program) (o : Oper) (Q : Exit → Act → World → Prop) : Exit → Act → World → Prop
  | .normal, a, w => o.wp P a w (fun a w => Q .normal a w) Q
  | e, a, w => Q e a w

theorem Oper.wp_tail {x : Oper} {a : Act} {w : World} {K : Act → World → Prop} {Q : Exit → Act → World → Prop} (h : x.wp P a w K (TailPost P o Q)) : x.wp P a w K Q := by
  unfold Oper.wp at *
  generalize (execOp a.eval x).run P w = r at *
  cases r with
  | ok n w' =>
    cases n <;> simp only [Oper.upon] at h ⊢ <;>
      first
        | exact h
        | exact Calls.mono h (fun e w'' he => by cases e <;> exact he)
        | exact h.elim
  | halt y w' => cases y <;> simp only [Oper.upon] at h ⊢ <;> exact h

theorem wpAny_tail (T : TailFacts l o) {Q : Exit → Act → World → Prop} : ∀ (fuel : Nat) (listed : Array Bool) (a : Act) (w : World), listed.size = l.length →
    wpAny P .any l.toArray (TailPost P o Q) fuel listed a w → wpAny P .any (l ++ [o]).toArray Q (fuel + 1) (listed.push false) a w := by
  -- the last one, when all others have come up
  have done : ∀ (fuel : Nat) (listed : Array Bool) (a : Act) (w : World), listed.size = l.length → Region.ready .any l.toArray listed = [] → o.wp P a w (fun a w => Q .normal a w) Q →
      wpOp P (l ++ [o]).toArray Q l.length (wpAny P .any (l ++ [o]).toArray Q fuel ((listed.push false).setIfInBounds l.length true)) a w := by
    intro fuel listed a w hs hr h
    have hnil : Region.ready .any (l ++ [o]).toArray ((listed.push false).setIfInBounds l.length true) = [] := by
      rw [List.eq_nil_iff_forall_not_mem]
      intro i hi
      obtain ⟨h0, y, hy, hall⟩ := mem_ready.1 hi
      have hlt := ready_lt hi
      simp only [List.size_toArray, List.length_append, List.length_cons, List.length_nil] at hlt
      by_cases hin : i = l.length
      · subst hin
        simp [hs] at h0
      · rw [getD_set_ne true (Ne.symm hin), push_getD true (by omega)] at h0
        have := all_listed T hs hr (i + 1) i (by omega) (by omega)
        rw [h0] at this; cases this
    unfold wpOp
    simp only [List.getElem?_toArray, List.getElem?_append_right (Nat.le_refl _), Nat.sub_self, List.getElem?_cons_zero]
    rw [if_pos (by simp [Region.wanted, T.guard])]
    refine .inl (Oper.wp_mono (fun a' w' hq => ?_) h)
    cases fuel with
    | zero => exact ⟨hnil, hq⟩
    | succ fuel => exact ⟨fun _ => hq, fun i hi => by rw [hnil] at hi; cases hi⟩
  intro fuel
  induction fuel with
  | zero =>
    intro listed a w hs h
    refine ⟨fun h0 => ?_, fun i hi => ?_⟩
    · have := (last_ready T hs).2 h.1
      rw [h0] at this; cases this
    · have hlt := ready_lt hi
      simp only [List.size_toArray, List.length_append, List.length_cons, List.length_nil] at hlt
      by_cases hin : i = l.length
      · subst hin; exact done 0 listed a w hs h.1 h.2
      · have := (ready_before T hs (by omega)).1 hi
        rw [h.1] at this; cases this
  | succ fuel ih =>
    intro listed a w hs h
    refine ⟨fun h0 => ?_, fun i hi => ?_⟩
    · have hr : Region.ready .any l.toArray listed = [] := by
        rw [List.eq_nil_iff_forall_not_mem]
        intro i hi
        have hlt := ready_lt hi
        have := (ready_before T hs (by simpa using hlt)).2 hi
        rw [h0] at this; cases this
      have := (last_ready T hs).2 hr
      rw [h0] at this; cases this
    · have hlt := ready_lt hi
      simp only [List.size_toArray, List.length_append, List.length_cons, List.length_nil] at hlt
      by_cases hin : i = l.length
      · subst hin
        have hr := (last_ready T hs).1 hi
        exact done (fuel + 1) listed a w hs hr (h.1 hr)
      · have hil : i < l.length := by omega
        have hi' := (ready_before T hs hil).1 hi
        have h1 := h.2 i hi'
        have hset : (listed.push false).setIfInBounds i true = (listed.setIfInBounds i true).push false := by
          apply Array.ext_getElem?
          intro j
          simp only [Array.getElem?_setIfInBounds, Array.getElem?_push, Array.size_setIfInBounds, Array.size_push]
          by_cases h1 : i = j
          · subst h1
            rw [if_pos rfl, if_pos (by omega), if_neg (by omega), if_pos rfl, if_pos (by omega)]
          · rw [if_neg h1, if_neg h1]
        rw [hset]
        unfold wpOp at h1 ⊢
        rw [full_at hil]
        simp only [List.getElem?_toArray, List.getElem?_eq_getElem hil] at h1 ⊢
        have hy : Region.wanted l[i] (yielded (l ++ [o]).toArray a.tmps) = Region.wanted l[i] (yielded l.toArray a.tmps) := by
          unfold Region.wanted
          cases hg : l[i].guard with
          | none => rfl
          | some g =>
            obtain ⟨j, b⟩ := g
            have hj := T.guards i l[i] (List.getElem?_eq_getElem hil) j b hg
            simp only [yielded, full_at hj]
        rw [hy]
        split
        · rename_i hw
          rw [if_pos hw] at h1
          rcases h1 with h1 | ⟨h1, a0, w0, hq⟩
          · exact .inl (Oper.wp_mono (fun a' w' hk => ih _ a' w' (by simpa using hs) hk) (Oper.wp_tail h1))
          · exact .inr ⟨h1, a0, w0, hq⟩
        · rename_i hw
          rw [if_neg hw] at h1
          exact ih _ _ _ (by simpa using hs) h1

theorem wpQuiet_mono {ops : Array Oper} {C : World → Prop} {Q Q' : Act → Prop} (hq : ∀ a, Q a → Q' a) : ∀ (l : List Oper) (a : Act), wpQuiet P ops C Q l a → wpQuiet P ops C Q' l a
  | [], _, h => hq _ h
  | x :: r, a, h => by
    unfold wpQuiet at h ⊢
    split
    · rename_i hw; rw [if_pos hw] at h
      exact Oper.quiet_mono (fun a' => wpQuiet_mono hq r a') h
    · rename_i hw; rw [if_neg hw] at h
      exact wpQuiet_mono hq r _ h

/-- ONE WALK, AND THEN THE LAST OPERATION. -/
theorem wp_region_later_tail {id : Nat} {Q : Exit → Act → World → Prop} {a : Act} {w W : World} (l : List Oper) (o : Oper) (hm : P.follows .mixedOrders = true) (hB : Region.lexB .any l.toArray = true) (hT : tailOk l o = true) (hw : Ext W w)
    (h : wpQuiet P l.toArray (fun w' => ∃ e : Later W, w' = e.w) (fun a' => ∀ w', (∃ e : Later W, w' = e.w) → o.wp P a' w' (fun a w => Q .normal a w) Q) l a) : (Code.region id (l ++ [o]).toArray true).wp P Q a w := by
  refine wp_region_any hm ?_
  have hx : (Array.replicate (l ++ [o]).toArray.size false) = (Array.replicate l.length false).push false := by
    simp [Array.replicate_succ]
  rw [hx]
  have hsz : (l ++ [o]).toArray.size = l.length + 1 := by simp
  rw [hsz]
  refine wpAny_tail (tailOk_facts hT) l.length _ a _ (by simp) ?_
  simp only [Region.lexB, Bool.and_eq_true] at hB
  refine wpAny_of_quiet (C := fun w' => ∃ e : Later W, w' = e.w) (Q := fun a' => ∀ w', (∃ e : Later W, w' = e.w) → o.wp P a' w' (fun a w => Q .normal a w) Q) (fun _ w' hw' h => h w' hw') _ _ _ _ (Later.mk_ex hw.drew) ?_
  exact wpAnyQ_lex (C := fun w' => ∃ e : Later W, w' = e.w) (md := .any) hB.1 l 0 (Array.replicate l.length false) a (by simp) (by simpa using hB.2) h

theorem wp_region_later_last {id : Nat} {Q : Exit → Act → World → Prop} {a : Act} {w W : World} {l : List Oper} {o : Oper} (hm : P.follows .mixedOrders = true) (ho : l.reverse.head? = some o) (hB : Region.lexB .any l.dropLast.toArray = true) (hT : tailOk l.dropLast o = true) (hw : Ext W w)
    (h : wpQuiet P l.dropLast.toArray (fun w' => ∃ e : Later W, w' = e.w) (fun a' => ∀ e : Later W, o.wp P a' e.w (fun a w => Q .normal a w) Q) l.dropLast a) : (Code.region id l.toArray true).wp P Q a w := by
  have hl : l = l.dropLast ++ [o] := by
    rw [List.head?_reverse, List.getLast?_eq_some_iff] at ho
    obtain ⟨ys, rfl⟩ := ho
    simp
  have := wp_region_later_tail (id := id) (Q := Q) (a := a) (w := w) (W := W) l.dropLast o hm hB hT hw ?_
  · rwa [← hl] at this
  · refine wpQuiet_mono (fun a' h w' hw' => ?_) _ _ h
    obtain ⟨e, rfl⟩ := hw'
    exact h e
end

end Go.Proofs.YtjoglnjpgkobeaaGreatDoor
