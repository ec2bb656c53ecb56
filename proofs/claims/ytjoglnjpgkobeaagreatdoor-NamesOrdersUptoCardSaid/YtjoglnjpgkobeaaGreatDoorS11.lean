/-
  THE NAMES OF AN EXPRESSION, as plain laws.
-/
import Derived.Test.YtjoglnjpgkobeaaGreatDoorS3
import Derived.Test.YtjoglnjpgkobeaaGreatDoorS9
namespace Go.Proofs.YtjoglnjpgkobeaaGreatDoor
open Go Go.RowKit
set_option linter.all false
set_option linter.unusedVariables false
set_option linter.unusedSimpArgs false
set_option linter.unusedVariables false
/-- A name behind some, if it is not among them. -/
noncomputable def addOne (o : List ByteArray) (s : ByteArray) : List ByteArray := @ite _ (s ∈ o) (Classical.propDecidable _) o (o ++ [s])
noncomputable def addAll (o : List ByteArray) (l : List ByteArray) : List ByteArray := l.foldl addOne o
theorem addOne_in {o : List ByteArray} {s : ByteArray} (h : s ∈ o) : addOne o s = o := by unfold addOne; rw [if_pos h]
theorem addOne_out {o : List ByteArray} {s : ByteArray} (h : ¬ s ∈ o) : addOne o s = o ++ [s] := by unfold addOne; rw [if_neg h]
theorem addAll_append (o a b : List ByteArray) : addAll o (a ++ b) = addAll (addAll o a) b := by simp [addAll, List.foldl_append]
theorem addAll_nil (o : List ByteArray) : addAll o [] = o := rfl
theorem addAll_one (o : List ByteArray) (s : ByteArray) : addAll o [s] = addOne o s := rfl
theorem addOne_le (o : List ByteArray) (s : ByteArray) : (addOne o s).length ≤ o.length + 1 := by
  by_cases h : s ∈ o
  · rw [addOne_in h]; omega
  · rw [addOne_out h]; simp
theorem addAll_le (l : List ByteArray) : ∀ o : List ByteArray, (addAll o l).length ≤ o.length + l.length := by
  induction l with
  | nil => intro o; simp [addAll]
  | cons s r ih =>
    intro o
    have h1 := ih (addOne o s)
    have h2 := addOne_le o s
    simp only [addAll, List.foldl_cons, List.length_cons] at *
    omega
end Go.Proofs.YtjoglnjpgkobeaaGreatDoor

/-
  MODULES AND NAMES IN THEM, AS PLAIN LAWS: what is found, what a module is made of, which names are told, the order.
-/
namespace Go.Proofs.YtjoglnjpgkobeaaGreatDoor
open Go Go.RowKit
set_option linter.all false
set_option linter.unusedVariables false
set_option linter.unusedSimpArgs false
set_option linter.unusedVariables false
set_option linter.unusedSimpArgs false
/-- The first module of a name. -/
noncomputable def findM (f : List Mdl) (s : ByteArray) : Option Mdl := f.find? fun m => yes (m.name = s)
mutual
/-- The modules that items are made of, as they are come to. -/
def ofI : Itm → List ByteArray
  | .mk op _ of _ _ l els _ _ => (if op = 7 then [of] else []) ++ (ofIs l ++ ofIs els)
def ofIs : List Itm → List ByteArray
  | [] => []
  | x :: r => ofI x ++ ofIs r
 end
theorem ofIs_append (l r : List Itm) : ofIs (l ++ r) = ofIs l ++ ofIs r := by
  induction l with
  | nil => rfl
  | cons x l ih => simp [ofIs, ih]
theorem ofI_eq (x : Itm) : ofI x = (if x.op = 7 then [x.of] else []) ++ (ofIs x.l ++ ofIs x.els) := by cases x; rw [ofI]; rfl
noncomputable def usesM (m : Mdl) : List ByteArray := addAll [] (ofIs m.items)
mutual
/-- Items, and those that stand in them. -/
def preI : Itm → List Itm
  | .mk op nm of x s l els ps bs => .mk op nm of x s l els ps bs :: (preIs l ++ preIs els)
def preIs : List Itm → List Itm
  | [] => []
  | x :: r => preI x ++ preIs r
 end
theorem preI_eq (x : Itm) : preI x = x :: (preIs x.l ++ preIs x.els) := by cases x; rw [preI]; rfl
theorem preIs_append (l r : List Itm) : preIs (l ++ r) = preIs l ++ preIs r := by
  induction l with
  | nil => rfl
  | cons x l ih => simp [preIs, ih]
def ofOne (x : Itm) : List ByteArray := if x.op = 7 then [x.of] else []
theorem pre_of : ∀ x : Itm, (preI x).flatMap ofOne = ofI x := by
  intro x
  induction x using Itm.ind with
  | h x h1 h2 =>
    have hl : ∀ l : List Itm, (∀ y, y ∈ l → (preI y).flatMap ofOne = ofI y) → (preIs l).flatMap ofOne = ofIs l := by
      intro l
      induction l with
      | nil => intro _; rfl
      | cons y r ih =>
        intro h
        show (preI y ++ preIs r).flatMap ofOne = ofI y ++ ofIs r
        rw [List.flatMap_append, h y (List.mem_cons_self ..), ih fun z hz => h z (List.mem_cons_of_mem _ hz)]
    rw [preI_eq, ofI_eq, List.flatMap_cons, List.flatMap_append, hl _ h1, hl _ h2]
    rfl
theorem pre_ofs (l : List Itm) : (preIs l).flatMap ofOne = ofIs l := by
  induction l with
  | nil => rfl
  | cons x r ih => show (preI x ++ preIs r).flatMap ofOne = ofI x ++ ofIs r; rw [List.flatMap_append, pre_of, ih]
/-- Does an item tell its name? -/
def isDecl (op : Int) : Prop := op = 1 ∨ op = 2 ∨ op = 3 ∨ op = 7 ∨ op = 10 ∨ op = 9
instance (op : Int) : Decidable (isDecl op) := by unfold isDecl; infer_instance
mutual
/-- The names that items tell in their scope. -/
noncomputable def tnI : Itm → List ByteArray
  | .mk op nm _ _ _ l els _ _ => if isDecl op then [nm] else if op = 8 then addAll (tnIs l) (tnIs els) else []
noncomputable def tnIs : List Itm → List ByteArray
  | [] => []
  | x :: r => tnI x ++ tnIs r
 end
theorem tnI_eq (x : Itm) : tnI x = if isDecl x.op then [x.name] else if x.op = 8 then addAll (tnIs x.l) (tnIs x.els) else [] := by cases x; rw [tnI]; rfl
theorem tnIs_append (l r : List Itm) : tnIs (l ++ r) = tnIs l ++ tnIs r := by
  induction l with
  | nil => rfl
  | cons x l ih => simp [tnIs, ih]
mutual
/-- Is none told twice on either side of a choice? -/
def tokI : Itm → Prop
  | .mk op _ _ _ _ l els _ _ => op = 8 → (tokIs l ∧ (tnIs l).Nodup) ∧ (tokIs els ∧ (tnIs els).Nodup)
def tokIs : List Itm → Prop
  | [] => True
  | x :: r => tokI x ∧ tokIs r
 end
def tokL (l : List Itm) : Prop := tokIs l ∧ (tnIs l).Nodup
theorem tokI_eq (x : Itm) : tokI x ↔ (x.op = 8 → tokL x.l ∧ tokL x.els) := by cases x; rw [tokI]; rfl
theorem tokIs_append (l r : List Itm) : tokIs (l ++ r) ↔ tokIs l ∧ tokIs r := by
  induction l with
  | nil => simp [tokIs]
  | cons x l ih => simp [tokIs, ih, and_assoc]
mutual
/-- Are the loops' names in statements told nowhere around them? -/
def lpS : (ByteArray → Prop) → S → Prop
  | C, .mk op nm _ l => (op = 6 → ¬ C nm) ∧ lpSs (fun s => C s ∨ op = 6 ∧ s = nm) l
def lpSs : (ByteArray → Prop) → List S → Prop
  | _, [] => True
  | C, x :: r => lpS C x ∧ lpSs C r
 end
theorem lpS_eq (C : ByteArray → Prop) (x : S) : lpS C x ↔ (x.op = 6 → ¬ C x.name) ∧ lpSs (fun s => C s ∨ x.op = 6 ∧ s = x.name) x.l := by cases x; rw [lpS]; rfl
theorem lpSs_append (C : ByteArray → Prop) (l r : List S) : lpSs C (l ++ r) ↔ lpSs C l ∧ lpSs C r := by
  induction l with
  | nil => simp [lpSs]
  | cons x l ih => simp [lpSs, ih, and_assoc]
mutual
/-- Are the scopes that stand in items right, within what is told around them? -/
noncomputable def inI : (ByteArray → Prop) → Itm → Prop
  | C, .mk op _ of _ s l els _ _ => lpSs C s ∧ (op = 8 → inIs C l ∧ inIs C els) ∧ (op = 9 → tokL l ∧ ¬ of ∈ tnIs l ∧ (∀ t, t ∈ tnIs l ∨ t = of → ¬ C t) ∧ inIs (fun t => C t ∨ t ∈ tnIs l ∨ t = of) l)
noncomputable def inIs : (ByteArray → Prop) → List Itm → Prop
  | _, [] => True
  | C, x :: r => inI C x ∧ inIs C r
 end
theorem inI_eq (C : ByteArray → Prop) (x : Itm) : inI C x ↔ lpSs C x.s ∧ (x.op = 8 → inIs C x.l ∧ inIs C x.els) ∧ (x.op = 9 → tokL x.l ∧ ¬ x.of ∈ tnIs x.l ∧ (∀ t, t ∈ tnIs x.l ∨ t = x.of → ¬ C t) ∧ inIs (fun t => C t ∨ t ∈ tnIs x.l ∨ t = x.of) x.l) := by
  cases x; rw [inI]; rfl
theorem inIs_append (C : ByteArray → Prop) (l r : List Itm) : inIs C (l ++ r) ↔ inIs C l ∧ inIs C r := by
  induction l with
  | nil => simp [inIs]
  | cons x l ih => simp [inIs, ih, and_assoc]
/-- Fewer names around: what is right stays so. -/
theorem lp_less : ∀ (x : S) (C D : ByteArray → Prop), (∀ s, D s → C s) → lpS C x → lpS D x := by
  intro x
  induction x using S.ind with
  | h x ih =>
    intro C D hD h
    obtain ⟨h1, h2⟩ := (lpS_eq C x).1 h
    refine (lpS_eq D x).2 ⟨fun h6 hd => h1 h6 (hD _ hd), ?_⟩
    have hl : ∀ l : List S, (∀ y, y ∈ l → y ∈ x.l) → ∀ C D : ByteArray → Prop, (∀ s, D s → C s) → lpSs C l → lpSs D l := by
      intro l
      induction l with
      | nil => intro _ C D _ _; exact trivial
      | cons y r ih2 => intro hm C D hD h; exact ⟨ih y (hm y (List.mem_cons_self ..)) C D hD h.1, ih2 (fun z hz => hm z (List.mem_cons_of_mem _ hz)) C D hD h.2⟩
    exact hl x.l (fun y hy => hy) _ _ (fun s hs => hs.elim (fun h => .inl (hD s h)) .inr) h2
theorem lps_less {C D : ByteArray → Prop} (hD : ∀ s, D s → C s) (l : List S) : lpSs C l → lpSs D l := by
  induction l with
  | nil => intro _; exact trivial
  | cons x r ih => intro h; exact ⟨lp_less x C D hD h.1, ih h.2⟩
theorem in_less : ∀ (x : Itm) (C D : ByteArray → Prop), (∀ s, D s → C s) → inI C x → inI D x := by
  intro x
  induction x using Itm.ind with
  | h x ih1 ih2 =>
    intro C D hD h
    have hl : ∀ l : List Itm, (∀ y, y ∈ l → ∀ C D : ByteArray → Prop, (∀ s, D s → C s) → inI C y → inI D y) → ∀ C D : ByteArray → Prop, (∀ s, D s → C s) → inIs C l → inIs D l := by
      intro l
      induction l with
      | nil => intro _ C D _ _; exact trivial
      | cons y r ih3 => intro hm C D hD h; exact ⟨hm y (List.mem_cons_self ..) C D hD h.1, ih3 (fun z hz => hm z (List.mem_cons_of_mem _ hz)) C D hD h.2⟩
    obtain ⟨h1, h2, h3⟩ := (inI_eq C x).1 h
    refine (inI_eq D x).2 ⟨lps_less hD _ h1, fun h8 => ⟨hl _ ih1 C D hD (h2 h8).1, hl _ ih2 C D hD (h2 h8).2⟩, fun h9 => ?_⟩
    obtain ⟨a, b, c, d⟩ := h3 h9
    exact ⟨a, b, fun t ht hd => c t ht (hD t hd), hl _ ih1 _ _ (fun s hs => hs.elim (fun h => .inl (hD s h)) .inr) d⟩
theorem ins_less {C D : ByteArray → Prop} (hD : ∀ s, D s → C s) (l : List Itm) : inIs C l → inIs D l := by
  induction l with
  | nil => intro _; exact trivial
  | cons x r ih => intro h; exact ⟨in_less x C D hD h.1, ih h.2⟩
theorem lps_congr {C D : ByteArray → Prop} (h : ∀ s, C s ↔ D s) (l : List S) : lpSs C l ↔ lpSs D l := ⟨lps_less (fun s hs => (h s).2 hs) l, lps_less (fun s hs => (h s).1 hs) l⟩
theorem ins_congr {C D : ByteArray → Prop} (h : ∀ s, C s ↔ D s) (l : List Itm) : inIs C l ↔ inIs D l := ⟨ins_less (fun s hs => (h s).2 hs) l, ins_less (fun s hs => (h s).1 hs) l⟩
/-- The names of a module's own scope. -/
noncomputable def ownN (m : Mdl) : List ByteArray := tnIs m.items ++ (m.ports.map Prt.name ++ m.params.map Bnd.name)
/-- Are all scopes of a module right? -/
def rightM (m : Mdl) : Prop := tokIs m.items ∧ (ownN m).Nodup ∧ inIs (fun s => s ∈ ownN m) m.items
/-- May a module come next? -/
def readyM (out : List ByteArray) (m : Mdl) : Prop := ¬ m.name ∈ out ∧ ∀ s, s ∈ usesM m → s ∈ out
noncomputable def nextM (f : List Mdl) (out : List ByteArray) : Option Mdl := f.find? fun m => yes (readyM out m)
noncomputable def orderN (f : List Mdl) : Nat → List ByteArray → List ByteArray
  | 0, out => out
  | n + 1, out => match nextM f out with
    | none => out
    | some m => orderN f n (out ++ [m.name])
/-- The order, as far as it goes. -/
noncomputable def orderF (f : List Mdl) : List ByteArray := orderN f f.length []
def namesF (f : List Mdl) : List ByteArray := f.map Mdl.name
/-- What follows out of what is right of all names, ahead of the trees themselves. -/
noncomputable def namesOk (f : List Mdl) : Int :=
  @ite _ ((namesF f).Nodup ∧ ∀ m, m ∈ f → rightM m) (Classical.propDecidable _)
    (@ite _ (∀ m, m ∈ f → ∀ s, s ∈ usesM m → s ∈ namesF f) (Classical.propDecidable _) (if (orderF f).length < f.length then 72 else 0) 71) 70
theorem memA_one {o : List ByteArray} {s t : ByteArray} : t ∈ addOne o s ↔ t ∈ o ∨ t = s := by
  by_cases h : s ∈ o
  · rw [addOne_in h]; exact ⟨.inl, fun h' => h'.elim id (fun e => e ▸ h)⟩
  · rw [addOne_out h]; simp
theorem memA_all {t : ByteArray} (l : List ByteArray) : ∀ o : List ByteArray, t ∈ addAll o l ↔ t ∈ o ∨ t ∈ l := by
  induction l with
  | nil => intro o; simp [addAll]
  | cons s r ih => intro o; show t ∈ addAll (addOne o s) r ↔ _; rw [ih, memA_one, List.mem_cons, or_assoc]
theorem nodupA_all (l : List ByteArray) : ∀ o : List ByteArray, o.Nodup → (addAll o l).Nodup := by
  induction l with
  | nil => intro o h; exact h
  | cons s r ih =>
    intro o h
    refine ih (addOne o s) ?_
    by_cases hs : s ∈ o
    · rw [addOne_in hs]; exact h
    · rw [addOne_out hs]
      refine List.nodup_append.2 ⟨h, by simp, fun a ha b hb => ?_⟩
      simp at hb
      subst hb
      intro e
      exact hs (e ▸ ha)
/-- The order names modules of the file, each once. -/
theorem next_spec {f : List Mdl} {out : List ByteArray} {m : Mdl} (h : nextM f out = some m) : m ∈ f ∧ readyM out m := by
  unfold nextM at h
  have h2 := List.find?_some h
  exact ⟨List.mem_of_find?_eq_some h, yes_iff.1 h2⟩
theorem filter_less {l : List ByteArray} {s : ByteArray} (h : s ∈ l) : (l.filter fun t => !yes (t = s)).length < l.length := by
  induction l with
  | nil => cases h
  | cons a r ih =>
    by_cases ha : a = s
    · have : (r.filter fun t => !yes (t = s)).length ≤ r.length := List.length_filter_le _ _
      rw [List.filter_cons, if_neg (by simp [yes_iff.2 ha]), List.length_cons]
      omega
    · have := ih ((List.mem_cons.1 h).resolve_left (fun e => ha e.symm))
      rw [List.filter_cons, if_pos (by simp [yes_no.2 ha]), List.length_cons, List.length_cons]
      omega
theorem nodup_le {o : List ByteArray} : ∀ {l : List ByteArray}, o.Nodup → (∀ s, s ∈ o → s ∈ l) → o.length ≤ l.length := by
  induction o with
  | nil => intro l _ _; simp
  | cons s r ih =>
    intro l ho h
    obtain ⟨h1, h2⟩ := List.nodup_cons.1 ho
    have hs := h s (List.mem_cons_self ..)
    have := ih (l := l.filter fun t => !yes (t = s)) h2 fun t ht => List.mem_filter.2 ⟨h t (List.mem_cons_of_mem _ ht), by
      have hne : ¬ t = s := fun e => h1 (by rw [← e]; exact ht)
      simp [yes_no.2 hne]⟩
    have hl := filter_less hs
    rw [List.length_cons]
    omega
/-- What holds at every step of the order. -/
structure Ordered (f : List Mdl) (out : List ByteArray) : Prop where
  nodup : out.Nodup
  sub : ∀ s, s ∈ out → s ∈ namesF f
  pre : ∀ k (h : k < out.length), ∃ m, m ∈ f ∧ m.name = out[k] ∧ ∀ s, s ∈ usesM m → s ∈ out.take k
theorem ordered_nil (f : List Mdl) : Ordered f [] := ⟨by simp, (fun s h => by cases h), (fun k h => by cases h)⟩
theorem Ordered.step {f : List Mdl} {out : List ByteArray} {m : Mdl} (h : Ordered f out) (hn : nextM f out = some m) : Ordered f (out ++ [m.name]) := by
  obtain ⟨hm, hr, hu⟩ := next_spec hn
  refine ⟨List.nodup_append.2 ⟨h.nodup, by simp, fun a ha b hb e => ?_⟩, fun s hs => ?_, fun k hk => ?_⟩
  · simp at hb; subst hb; exact hr (e ▸ ha)
  · rcases List.mem_append.1 hs with h' | h'
    · exact h.sub s h'
    · simp at h'; subst h'; exact List.mem_map.2 ⟨m, hm, rfl⟩
  · by_cases hlt : k < out.length
    · obtain ⟨m', h1, h2, h3⟩ := h.pre k hlt
      refine ⟨m', h1, by rw [List.getElem_append_left hlt]; exact h2, fun s hs => ?_⟩
      rw [List.take_append_of_le_length (by omega)]
      exact h3 s hs
    · obtain rfl : k = out.length := by simp at hk; omega
      exact ⟨m, hm, by simp, fun s hs => by simpa using hu s hs⟩
theorem Ordered.le {f : List Mdl} {out : List ByteArray} (h : Ordered f out) : out.length ≤ f.length := by
  have := nodup_le h.nodup h.sub
  simpa [namesF] using this
/-- With enough fuel the order has come to its end. -/
theorem order_end {f : List Mdl} : ∀ (n : Nat) (out : List ByteArray), Ordered f out → f.length ≤ out.length + n → Ordered f (orderN f n out) ∧ nextM f (orderN f n out) = none := by
  intro n
  induction n with
  | zero =>
    intro out h hl
    refine ⟨h, ?_⟩
    show nextM f out = none
    cases hn : nextM f out with
    | none => rfl
    | some m => have := (h.step hn).le; simp at this; omega
  | succ n ih =>
    intro out h hl
    unfold orderN
    cases hn : nextM f out with
    | none => exact ⟨h, hn⟩
    | some m => exact ih _ (h.step hn) (by simp; omega)
theorem orderF_end (f : List Mdl) : Ordered f (orderF f) ∧ nextM f (orderF f) = none := order_end f.length [] (ordered_nil f) (by simp)
/-- More fuel changes nothing. -/
theorem order_fuel {f : List Mdl} {out : List ByteArray} : ∀ n, nextM f out = none → orderN f n out = out := by
  intro n h
  cases n with
  | zero => rfl
  | succ n => unfold orderN; rw [h]
theorem order_step {f : List Mdl} {out : List ByteArray} {m : Mdl} (h : Ordered f out) (hn : nextM f out = some m) : orderN f (f.length - out.length) out = orderN f (f.length - (out ++ [m.name]).length) (out ++ [m.name]) := by
  have := (h.step hn).le
  simp at this
  rw [show f.length - out.length = (f.length - (out ++ [m.name]).length) + 1 by simp; omega]
  rw [orderN, hn]
end Go.Proofs.YtjoglnjpgkobeaaGreatDoor

/-
  ast.Free's STACK: what its loop holds between two rounds; what the range leaves.
-/
namespace Go.Proofs.YtjoglnjpgkobeaaGreatDoor
open Go Go.RowKit Go.Shelf
set_option linter.all false
set_option linter.unusedVariables false
set_option linter.unusedSimpArgs false
set_option linter.unusedVariables false
set_option linter.unusedSimpArgs false
/-- The stack's cells: the top's last. -/
inductive SR (w0 : World) (B : Nat) : List X → List Value → Prop
  | nil : SR w0 B [] []
  | push (T : List X) (xs : List Value) (x : X) (cs : List Value) (h : SR w0 B T xs) (hr : RX w0 B x cs) : SR w0 B (x :: T) (xs ++ cs)
theorem RX_len {w : World} {B : Nat} {x : X} {cs : List Value} (h : RX w B x cs) : cs.length = 6 := by
  obtain ⟨v, rfl, _⟩ := RX_iff.1 h
  rfl
theorem SR.len {w0 : World} {B : Nat} {T : List X} {xs : List Value} (h : SR w0 B T xs) : xs.length = T.length * 6 := by
  induction h with
  | nil => rfl
  | push T xs x cs h hr ih => rw [List.length_append, ih, RX_len hr, List.length_cons]; omega
/-- The marks of the loops that have ended, each on a block of its own. -/
def Marks (n0 : Nat) (ds : List Deferred) (W : World) : Prop := (∀ d, d ∈ ds → ∃ D, d = { target := .collected D, args := #[] } ∧ n0 ≤ D ∧ W.heap[D]? = some (.deferred (some []))) ∧ ds.Pairwise (· ≠ ·)
theorem Marks.kept {n0 : Nat} {ds : List Deferred} {W W' : World} (h : Marks n0 ds W) (hk : ∀ (D : Nat) (o : Obj), W.heap[D]? = some o → o.isCells = false → W'.heap[D]? = some o) : Marks n0 ds W' :=
  ⟨fun d hd => by obtain ⟨D, h1, h2, h3⟩ := h.1 d hd; exact ⟨D, h1, h2, hk D _ h3 rfl⟩, h.2⟩
theorem Marks.push {n0 : Nat} {ds : List Deferred} {W0 W : World} {D : Nat} (h0 : Marks n0 ds W0) (h : Marks n0 ds W) (hD : W0.heap.size ≤ D) (hn : n0 ≤ D) (hK : W.heap[D]? = some (.deferred (some []))) : Marks n0 ({ target := .collected D, args := #[] } :: ds) W := by
  refine ⟨fun d hd => ?_, List.pairwise_cons.2 ⟨fun d hd e => ?_, h.2⟩⟩
  · rcases List.mem_cons.1 hd with rfl | hd
    · exact ⟨D, rfl, hn, hK⟩
    · exact h.1 d hd
  · obtain ⟨D', h1, _, h3⟩ := h0.1 d hd
    rw [h1] at e
    have : D = D' := by
      injection e with e1
      injection e1
    subst this
    have := (Array.getElem?_eq_some_iff.1 h3).1
    omega
/-- What the loop holds. -/
structure FI (w0 : World) (B n0 bl : Nat) (T : List X) (outs : List ByteArray) (vo : Value) (ds : List Deferred) (sa : Option Addr) (c : Nat) (xs : List Value) (W : World) : Prop where
  box : Boxed W bl 47 (.slice sa T.length c)
  row : W.ownsRow n0 49 6 (.slice sa T.length c) T.length xs
  stk : SR w0 B T xs
  out : W.ownsRow n0 9 1 vo outs.length (outs.map .string)
  below : Below n0 w0 W
  marks : Marks n0 ds W
/-- The stack's row and the texts' row are not one. -/
theorem rows_apart {W : World} {b1 b2 : Nat} {e1 e2 : TypeId} {s1 s2 k1 k2 : Nat} {v1 v2 : Value} {xs1 xs2 : List Value} (h1 : W.ownsRow b1 e1 s1 v1 k1 xs1) (h2 : W.ownsRow b2 e2 s2 v2 k2 xs2) (hne : e1 ≠ e2) : v1.ownBlock = none ∨ v1.ownBlock ≠ v2.ownBlock := by
  rcases row_cells h1 with h | ⟨g, cur, h3, h4⟩
  · exact .inl h
  · right
    intro e
    rcases row_cells h2 with h | ⟨g', cur', h5, h6⟩
    · rw [h3, h] at e; cases e
    · rw [h3, h5] at e
      cases e
      rw [h4] at h6
      cases h6
      exact hne rfl
theorem Ext.grow {W W' : World} (h : Ext W W') : W.grownBy W' none := ⟨h.os, h.tape, h.output, h.size, fun k hk _ => h.block k hk⟩
/-- What holds of the loop's state holds when memory has grown. -/
theorem FI.ext {w0 : World} {B n0 bl : Nat} {T : List X} {outs : List ByteArray} {vo : Value} {ds : List Deferred} {sa : Option Addr} {c : Nat} {xs : List Value} {W W' : World} (h : FI w0 B n0 bl T outs vo ds sa c xs W) (hn : n0 ≤ W.heap.size) (hx : Ext W W') : FI w0 B n0 bl T outs vo ds sa c xs W' :=
  ⟨h.box.kept hx.grow (by simp), h.row.kept hx.grow (by
    rcases row_cells h.row with h0 | ⟨g, cur, h1, h2⟩
    · exact .inl h0
    · exact .inr (by rw [h1]; simp)), h.stk, h.out.kept hx.grow (by
    rcases row_cells h.out with h0 | ⟨g, cur, h1, h2⟩
    · exact .inl h0
    · exact .inr (by rw [h1]; simp)), h.below.trans (Below.mono hx hn), h.marks.kept (fun D o hD _ => (hx.heap (Array.getElem?_eq_some_iff.1 hD).1).trans hD)⟩
theorem FI.append {w0 : World} {B n0 bl : Nat} {T : List X} {outs : List ByteArray} {vo vo' : Value} {ds : List Deferred} {sa : Option Addr} {c : Nat} {xs : List Value} {W w5 : World} {o : Obj} {s : ByteArray} (h : FI w0 B n0 bl T outs vo ds sa c xs W) (hn : n0 ≤ W.heap.size)
    (hown : w5.ownsRow n0 9 1 vo' (outs.length + 1) (outs.map .string ++ [.string s])) (hg : (W.alloc o).grownBy w5 vo.ownBlock) : FI w0 B n0 bl T (outs ++ [s]) vo' ds sa c xs w5 := by
  have hb := h.box.alloc o
  have hr1 := h.row.alloc o
  have ho1 := h.out.alloc o
  refine ⟨hb.kept hg (hb.not_row (by decide) ho1), hr1.kept hg (rows_apart hr1 ho1 (by decide)), h.stk, by simpa using hown, (h.below.alloc hn o).grown hg (by simp; omega) (fun k e => (ho1.lt k e).1), ?_⟩
  refine (h.marks.kept (fun D ob hD _ => (Below.heap_alloc W o D (Array.getElem?_eq_some_iff.1 hD).1).trans hD)).kept (fun D ob hD hc => (hg.block D (Array.getElem?_eq_some_iff.1 hD).1 (fun e => ?_)).trans hD)
  rcases row_cells ho1 with h0 | ⟨g', cur, h1, h2⟩
  · rw [h0] at e; cases e
  · rw [h1] at e
    cases e
    rw [h2] at hD
    cases hD
    cases hc
end Go.Proofs.YtjoglnjpgkobeaaGreatDoor
