/-
  THE NAMES THAT STAND IN ITEMS, IN WHATEVER SCOPE, PLAIN.
-/
import Derived.Test.YtjoglnjpgkobeaaGreatDoorNamPPk
namespace Go.Proofs.YtjoglnjpgkobeaaGreatDoor
open Go Go.RowKit
set_option linter.all false
set_option linter.unusedVariables false
set_option linter.unusedSimpArgs false
set_option linter.unusedVariables false
set_option linter.unusedSimpArgs false

mutual
/-- The names that stand in items, in whatever scope. -/
def labS : S → List ByteArray
  | .mk op nm _ l => (if op = 6 then [nm] else []) ++ labSs l
def labSs : List S → List ByteArray
  | [] => []
  | x :: r => labS x ++ labSs r
 end
mutual
def allI : Itm → List ByteArray
  | .mk op nm of _ s l els _ _ => nm :: ((if op = 9 then [of] else []) ++ (allIs l ++ (allIs els ++ labSs s)))
def allIs : List Itm → List ByteArray
  | [] => []
  | x :: r => allI x ++ allIs r
 end
theorem labS_eq (x : S) : labS x = (if x.op = 6 then [x.name] else []) ++ labSs x.l := by cases x; rw [labS]; rfl
theorem allI_eq (x : Itm) : allI x = x.name :: ((if x.op = 9 then [x.of] else []) ++ (allIs x.l ++ (allIs x.els ++ labSs x.s))) := by cases x; rw [allI]; rfl
theorem lp_more {t : ByteArray} : ∀ (x : S) (C : ByteArray → Prop), ¬ t ∈ labS x → lpS C x → lpS (fun s => C s ∨ s = t) x := by
  intro x
  induction x using S.ind with
  | h x ih =>
    intro C ht h
    obtain ⟨h1, h2⟩ := (lpS_eq C x).1 h
    rw [labS_eq, List.mem_append, not_or] at ht
    refine (lpS_eq _ x).2 ⟨fun h6 hd => hd.elim (h1 h6) (fun e => ht.1 (by rw [if_pos h6, e]; exact List.mem_singleton.2 rfl)), ?_⟩
    have hl : ∀ l : List S, (∀ y, y ∈ l → y ∈ x.l) → ∀ C : ByteArray → Prop, ¬ t ∈ labSs l → lpSs C l → lpSs (fun s => C s ∨ s = t) l := by
      intro l
      induction l with
      | nil => intro _ C _ _; exact trivial
      | cons y r ih2 =>
        intro hm C ht h
        have ht' : ¬ t ∈ labS y ++ labSs r := ht
        rw [List.mem_append, not_or] at ht'
        exact ⟨ih y (hm y (List.mem_cons_self ..)) C ht'.1 h.1, ih2 (fun z hz => hm z (List.mem_cons_of_mem _ hz)) C ht'.2 h.2⟩
    refine lps_less (fun s hs => ?_) x.l (hl x.l (fun y hy => hy) _ ht.2 h2)
    rcases hs with (h' | h') | h'
    · exact .inl (.inl h')
    · exact .inr h'
    · exact .inl (.inr h')
theorem lps_more {t : ByteArray} {C : ByteArray → Prop} (l : List S) : ¬ t ∈ labSs l → lpSs C l → lpSs (fun s => C s ∨ s = t) l := by
  induction l with
  | nil => intro _ _; exact trivial
  | cons y r ih =>
    intro ht h
    have ht' : ¬ t ∈ labS y ++ labSs r := ht
    rw [List.mem_append, not_or] at ht'
    exact ⟨lp_more y C ht'.1 h.1, ih ht'.2 h.2⟩
theorem tn_all : ∀ x : Itm, ∀ s, s ∈ tnI x → s ∈ allI x := by
  intro x
  induction x using Itm.ind with
  | h x h1 h2 =>
    intro s hs
    have hl : ∀ l : List Itm, (∀ y, y ∈ l → ∀ s, s ∈ tnI y → s ∈ allI y) → ∀ s, s ∈ tnIs l → s ∈ allIs l := by
      intro l
      induction l with
      | nil => intro _ s hs; cases hs
      | cons y r ih =>
        intro h s hs
        rcases List.mem_append.1 (show s ∈ tnI y ++ tnIs r from hs) with hs | hs
        · exact List.mem_append.2 (.inl (h y (List.mem_cons_self ..) s hs))
        · exact List.mem_append.2 (.inr (ih (fun z hz => h z (List.mem_cons_of_mem _ hz)) s hs))
    rw [tnI_eq] at hs
    rw [allI_eq]
    by_cases hd : isDecl x.op
    · rw [if_pos hd] at hs
      rw [List.mem_singleton.1 hs]
      exact List.mem_cons_self ..
    · rw [if_neg hd] at hs
      by_cases h8 : x.op = 8
      · rw [if_pos h8] at hs
        refine List.mem_cons_of_mem _ (List.mem_append.2 (.inr ?_))
        rcases (memA_all _ _).1 hs with hs | hs
        · exact List.mem_append.2 (.inl (hl _ h1 s hs))
        · exact List.mem_append.2 (.inr (List.mem_append.2 (.inl (hl _ h2 s hs))))
      · rw [if_neg h8] at hs; cases hs
theorem tns_all {l : List Itm} : ∀ s, s ∈ tnIs l → s ∈ allIs l := by
  induction l with
  | nil => intro s hs; cases hs
  | cons y r ih =>
    intro s hs
    rcases List.mem_append.1 (show s ∈ tnI y ++ tnIs r from hs) with hs | hs
    · exact List.mem_append.2 (.inl (tn_all y s hs))
    · exact List.mem_append.2 (.inr (ih s hs))
/-- A name that stands nowhere in items may be told around them. -/
theorem in_more {t : ByteArray} : ∀ (x : Itm) (C : ByteArray → Prop), ¬ t ∈ allI x → inI C x → inI (fun s => C s ∨ s = t) x := by
  intro x
  induction x using Itm.ind with
  | h x ih1 ih2 =>
    intro C ht h
    have hl : ∀ l : List Itm, (∀ y, y ∈ l → ∀ C : ByteArray → Prop, ¬ t ∈ allI y → inI C y → inI (fun s => C s ∨ s = t) y) → ∀ C : ByteArray → Prop, ¬ t ∈ allIs l → inIs C l → inIs (fun s => C s ∨ s = t) l := by
      intro l
      induction l with
      | nil => intro _ C _ _; exact trivial
      | cons y r ih3 =>
        intro hm C ht h
        have ht' : ¬ t ∈ allI y ++ allIs r := ht
        rw [List.mem_append, not_or] at ht'
        exact ⟨hm y (List.mem_cons_self ..) C ht'.1 h.1, ih3 (fun z hz => hm z (List.mem_cons_of_mem _ hz)) C ht'.2 h.2⟩
    rw [allI_eq, List.mem_cons, List.mem_append, List.mem_append, List.mem_append, not_or, not_or, not_or, not_or] at ht
    obtain ⟨t1, t2, t3, t4, t5⟩ := ht
    obtain ⟨h1, h2, h3⟩ := (inI_eq C x).1 h
    refine (inI_eq _ x).2 ⟨lps_more _ t5 h1, fun h8 => ⟨hl _ ih1 C t3 (h2 h8).1, hl _ ih2 C t4 (h2 h8).2⟩, fun h9 => ?_⟩
    obtain ⟨a, b, c, d⟩ := h3 h9
    rw [if_pos h9, List.mem_singleton] at t2
    refine ⟨a, b, fun u hu hd => hd.elim (c u hu) (fun e => ?_), ?_⟩
    · subst e
      rcases hu with hu | hu
      · exact t3 (tns_all u hu)
      · exact t2 hu
    · refine ins_less (fun s hs => ?_) x.l (hl _ ih1 _ t3 d)
      rcases hs with (h' | h') | h'
      · exact .inl (.inl h')
      · exact .inr h'
      · exact .inl (.inr h')
theorem ins_more {t : ByteArray} {C : ByteArray → Prop} (l : List Itm) : ¬ t ∈ allIs l → inIs C l → inIs (fun s => C s ∨ s = t) l := by
  induction l with
  | nil => intro _ _; exact trivial
  | cons y r ih =>
    intro ht h
    have ht' : ¬ t ∈ allI y ++ allIs r := ht
    rw [List.mem_append, not_or] at ht'
    exact ⟨in_more y C ht'.1 h.1, ih ht'.2 h.2⟩

theorem labSs_append (l r : List S) : labSs (l ++ r) = labSs l ++ labSs r := by
  induction l with
  | nil => rfl
  | cons x l ih => simp [labSs, ih]
theorem allIs_append (l r : List Itm) : allIs (l ++ r) = allIs l ++ allIs r := by
  induction l with
  | nil => rfl
  | cons x l ih => simp [allIs, ih]
theorem labSs_step {l : List S} {k : Nat} (hk : k < l.length) : labSs (l.take (k + 1)) = labSs (l.take k) ++ ((if l[k].op = 6 then [l[k].name] else []) ++ labSs l[k].l) := by
  rw [List.take_succ_eq_append_getElem hk, labSs_append]
  show _ ++ (labS l[k] ++ []) = _
  rw [labS_eq, List.append_nil]
theorem allIs_step {l : List Itm} {k : Nat} (hk : k < l.length) : allIs (l.take (k + 1)) = allIs (l.take k) ++ (l[k].name :: ((if l[k].op = 9 then [l[k].of] else []) ++ (allIs l[k].l ++ (allIs l[k].els ++ labSs l[k].s)))) := by
  rw [List.take_succ_eq_append_getElem hk, allIs_append]
  show _ ++ (allI l[k] ++ []) = _
  rw [allI_eq, List.append_nil]
theorem labS_len : ∀ x : S, (labS x).length ≤ sizeS x := by
  intro x
  induction x using S.ind with
  | h x ih =>
    have hl : ∀ l : List S, (∀ y, y ∈ l → y ∈ x.l) → (labSs l).length ≤ msize sizeS l := by
      intro l
      induction l with
      | nil => intro _; exact Nat.le_refl _
      | cons y r ih2 =>
        intro hm
        have h1 := ih y (hm y (List.mem_cons_self ..))
        have h2 := ih2 fun z hz => hm z (List.mem_cons_of_mem _ hz)
        show (labS y ++ labSs r).length ≤ sizeS y + msize sizeS r
        rw [List.length_append]; omega
    have h1 := hl x.l fun y hy => hy
    have h2 := sizeS_eq x
    rw [labS_eq, List.length_append]
    by_cases h6 : x.op = 6
    · rw [if_pos h6]; simp; omega
    · rw [if_neg h6]; simp; omega
theorem labSs_len (l : List S) : (labSs l).length ≤ msize sizeS l := by
  induction l with
  | nil => exact Nat.le_refl _
  | cons y r ih =>
    have := labS_len y
    show (labS y ++ labSs r).length ≤ sizeS y + msize sizeS r
    rw [List.length_append]; omega
theorem allI_len : ∀ x : Itm, (allI x).length ≤ 2 * sizeI x := by
  intro x
  induction x using Itm.ind with
  | h x h1 h2 =>
    have hl : ∀ l : List Itm, (∀ y, y ∈ l → (allI y).length ≤ 2 * sizeI y) → (allIs l).length ≤ 2 * msize sizeI l := by
      intro l
      induction l with
      | nil => intro _; exact Nat.le_refl _
      | cons y r ih2 =>
        intro hm
        have h1 := hm y (List.mem_cons_self ..)
        have h2 := ih2 fun z hz => hm z (List.mem_cons_of_mem _ hz)
        show (allI y ++ allIs r).length ≤ 2 * (sizeI y + msize sizeI r)
        rw [List.length_append]; omega
    have e1 := hl _ h1
    have e2 := hl _ h2
    have e3 := labSs_len x.s
    have e4 := sizeI_eq x
    have e5 : (if x.op = 9 then [x.of] else []).length ≤ 1 := by by_cases h9 : x.op = 9 <;> simp [h9]
    rw [allI_eq, List.length_cons, List.length_append, List.length_append, List.length_append]
    omega
theorem allIs_len (l : List Itm) : (allIs l).length ≤ 2 * msize sizeI l := by
  induction l with
  | nil => exact Nat.le_refl _
  | cons y r ih =>
    have := allI_len y
    show (allI y ++ allIs r).length ≤ 2 * (sizeI y + msize sizeI r)
    rw [List.length_append]; omega
/-- All names of a module. -/
noncomputable def allM (m : Mdl) : List ByteArray := addAll (addAll (addAll [] (allIs m.items)) (m.ports.map Prt.name)) (m.params.map Bnd.name)

end Go.Proofs.YtjoglnjpgkobeaaGreatDoor
