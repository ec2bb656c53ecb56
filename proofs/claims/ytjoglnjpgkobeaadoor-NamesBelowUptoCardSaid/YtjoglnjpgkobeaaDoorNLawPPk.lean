/-
  THE LAWS OF ORDER, PLAIN: what stands behind what; what a module is made of; a file without the rest.
-/
import Derived.Test.YtjoglnjpgkobeaaDoorNBelowPk
import Derived.Test.YtjoglnjpgkobeaaDoorLivePPk
import Derived.Test.YtjoglnjpgkobeaaDoorNLawPk
import Derived.Test.YtjoglnjpgkobeaaDoorNAllPPk
namespace Go.Proofs.YtjoglnjpgkobeaaDoor
open Go Go.RowKit
set_option linter.all false
set_option linter.unusedVariables false
set_option linter.unusedSimpArgs false
set_option linter.unusedVariables false
set_option linter.unusedSimpArgs false

theorem name_once {f : List Mdl} : (namesF f).Nodup → ∀ m, m ∈ f → ∀ m', m' ∈ f → m.name = m'.name → m = m' := by
  induction f with
  | nil => intro _ m hm; cases hm
  | cons a r ih =>
    intro h m hm m' hm' e
    obtain ⟨h1, h2⟩ := List.nodup_cons.1 (show (a.name :: namesF r).Nodup from h)
    rcases List.mem_cons.1 hm with rfl | hm
    · rcases List.mem_cons.1 hm' with rfl | hm'
      · rfl
      · exact absurd (show m.name ∈ namesF r from List.mem_map.2 ⟨m', hm', e.symm⟩) h1
    · rcases List.mem_cons.1 hm' with rfl | hm'
      · exact absurd (show m'.name ∈ namesF r from List.mem_map.2 ⟨m, by assumption, e⟩) h1
      · exact ih h2 m hm m' hm' e
theorem find_mem {f : List Mdl} (h : (namesF f).Nodup) {m : Mdl} (hm : m ∈ f) : findM f m.name = some m := by
  have hs : (findM f m.name).isSome = true := find_isSome.2 (List.mem_map.2 ⟨m, hm, rfl⟩)
  obtain ⟨m', h'⟩ := Option.isSome_iff_exists.1 hs
  obtain ⟨h1, h2⟩ := find_spec2 h'
  rw [h', name_once h m' h1 m hm h2]
/-- THE LAW OF ORDER. -/
theorem order_law {f : List Mdl} (h : checkN f = 0) (i : Nat) (hi : i < (orderF f).length) :
    ∃ m, findM f (orderF f)[i] = some m ∧ m ∈ f ∧ ¬ (orderF f)[i] ∈ (orderF f).take i ∧ ∀ s, s ∈ usesM m → s ∈ (orderF f).take i := by
  obtain ⟨-, hn, -, -, -⟩ := check_facts h
  obtain ⟨m, h1, h2, h3⟩ := (orderF_end f).1.pre i hi
  exact ⟨m, by rw [← h2]; exact find_mem hn h1, h1, ((nodup_take hi).1 (nodup_part (k := i + 1) (orderF_end f).1.nodup)).2, h3⟩
theorem all_in {o l : List ByteArray} (ho : o.Nodup) (hs : ∀ s, s ∈ o → s ∈ l) (hl : l.length ≤ o.length) : ∀ s, s ∈ l → s ∈ o := by
  intro s h
  by_cases hso : s ∈ o
  · exact hso
  · have := nodup_le (o := s :: o) (l := l) (List.nodup_cons.2 ⟨hso, ho⟩) (fun t ht => by
      rcases List.mem_cons.1 ht with rfl | ht
      · exact h
      · exact hs t ht)
    rw [List.length_cons] at this
    omega
theorem order_all {f : List Mdl} (h : checkN f = 0) (s : ByteArray) : s ∈ orderF f ↔ s ∈ namesF f := by
  obtain ⟨-, -, -, -, hl⟩ := check_facts h
  exact ⟨(orderF_end f).1.sub s, all_in (orderF_end f).1.nodup (orderF_end f).1.sub (by simp [namesF, hl]) s⟩
theorem reach_uses {f : List Mdl} (h : checkN f = 0) {top b : ByteArray} {m : Mdl} (hr : Reach f top b) (hm : findM f b = some m) {s : ByteArray} (hs : s ∈ usesM m) : Reach f top s := by
  obtain ⟨-, -, -, hu, -⟩ := check_facts h
  exact .step hr hm hs (find_isSome.2 (hu m (find_spec2 hm).1 s hs))
theorem mem_below {f : List Mdl} (h : checkN f = 0) {top : ByteArray} (ht : (findM f top).isSome = true) (s : ByteArray) : s ∈ belowN f top ↔ Reach f top s := by
  unfold belowN
  rw [List.mem_filter, yes_iff, order_all h]
  exact ⟨fun h => h.2, fun hr => ⟨find_isSome.1 (hr.isIn ht), hr⟩⟩
theorem filter_at {p : ByteArray → Bool} : ∀ (o : List ByteArray) (i : Nat) (hi : i < (o.filter p).length), ∃ j, ∃ hj : j < o.length, o[j] = (o.filter p)[i] ∧ (o.filter p).take i = (o.take j).filter p := by
  intro o
  induction o with
  | nil => intro i hi; simp at hi
  | cons a r ih =>
    intro i hi
    by_cases ha : p a = true
    · have he : (a :: r).filter p = a :: r.filter p := List.filter_cons_of_pos ha
      simp only [he] at hi ⊢
      cases i with
      | zero => exact ⟨0, by simp, by simp, by simp⟩
      | succ i =>
        obtain ⟨j, hj, h1, h2⟩ := ih i (by simpa using hi)
        refine ⟨j + 1, by simpa using hj, ?_, ?_⟩
        · rw [List.getElem_cons_succ, List.getElem_cons_succ]; exact h1
        · rw [List.take_succ_cons, List.take_succ_cons, List.filter_cons_of_pos ha, h2]
    · have he : (a :: r).filter p = r.filter p := List.filter_cons_of_neg ha
      simp only [he] at hi ⊢
      obtain ⟨j, hj, h1, h2⟩ := ih i hi
      refine ⟨j + 1, by simpa using hj, ?_, ?_⟩
      · rw [List.getElem_cons_succ]; exact h1
      · rw [List.take_succ_cons, List.filter_cons_of_neg ha, h2]
theorem below_at {f : List Mdl} (h : checkN f = 0) (top : ByteArray) (i : Nat) (hi : i < (belowN f top).length) :
    ∃ m, findM f (belowN f top)[i] = some m ∧ m ∈ f ∧ ∀ s, s ∈ usesM m → s ∈ (belowN f top).take i := by
  obtain ⟨j, hj, h1, h2⟩ := filter_at (orderF f) i hi
  obtain ⟨m, h3, h4, -, h5⟩ := order_law h j hj
  have hr : Reach f top (orderF f)[j] := by
    have : (belowN f top)[i] ∈ belowN f top := List.getElem_mem hi
    have h6 : (orderF f)[j] = (belowN f top)[i] := h1
    rw [h6]
    unfold belowN at this ⊢
    exact yes_iff.1 (List.mem_filter.1 this).2
  have h1' : (orderF f)[j] = (belowN f top)[i] := h1
  have h2' : (belowN f top).take i = ((orderF f).take j).filter fun s => yes (Reach f top s) := h2
  refine ⟨m, by rw [← h1']; exact h3, h4, fun s hs => ?_⟩
  rw [h2', List.mem_filter, yes_iff]
  exact ⟨h5 s hs, reach_uses h hr h3 hs⟩
theorem order_split {f : List Mdl} (h : checkN f = 0) {p q : List ByteArray} {x : ByteArray} (he : orderF f = p ++ x :: q) {m : Mdl} (hm : findM f x = some m) : ∀ s, s ∈ usesM m → s ∈ p := by
  have hi : p.length < (orderF f).length := by rw [he]; simp
  obtain ⟨m', h1, -, -, h2⟩ := order_law h p.length hi
  have hx : (orderF f)[p.length] = x := by simp [he]
  rw [hx, hm] at h1
  cases h1
  intro s hs
  have := h2 s hs
  rw [he] at this
  simpa using this
/-- The last one is the top. -/
theorem below_last {f : List Mdl} (h : checkN f = 0) {top : ByteArray} (ht : (findM f top).isSome = true) : ∃ pre, belowN f top = pre ++ [top] := by
  have htop : top ∈ orderF f := (order_all h top).2 (find_isSome.1 ht)
  obtain ⟨p, q, he⟩ := List.append_of_mem htop
  have hr : ∀ s, Reach f top s → s ∈ p ∨ s = top := by
    intro s hs
    induction hs with
    | refl => exact .inr rfl
    | step _ hm hc _ ih =>
      rcases ih with hb | rfl
      · obtain ⟨p1, p2, he2⟩ := List.append_of_mem hb
        have := order_split h (p := p1) (q := p2 ++ top :: q) (by rw [he, he2]; simp) hm _ hc
        exact .inl (by rw [he2]; exact List.mem_append.2 (.inl this))
      · exact .inl (order_split h he hm _ hc)
  have hnd : (p ++ top :: q).Nodup := he ▸ (orderF_end f).1.nodup
  obtain ⟨-, h2, h3⟩ := List.nodup_append.1 hnd
  obtain ⟨h4, -⟩ := List.nodup_cons.1 h2
  have hq : (q.filter fun s => yes (Reach f top s)) = [] := by
    rw [List.filter_eq_nil_iff]
    intro s hs hy
    rcases hr s (yes_iff.1 hy) with h' | rfl
    · exact h3 s h' s (List.mem_cons_of_mem _ hs) rfl
    · exact h4 hs
  refine ⟨p.filter fun s => yes (Reach f top s), ?_⟩
  unfold belowN
  rw [he, List.filter_append, List.filter_cons_of_pos (p := fun s => yes (Reach f top s)) (yes_iff.2 .refl), hq]
theorem below_nodup (f : List Mdl) (top : ByteArray) : (belowN f top).Nodup := (orderF_end f).1.nodup.sublist List.filter_sublist
theorem below_sub (f : List Mdl) (top : ByteArray) : List.Sublist (belowN f top) (orderF f) := List.filter_sublist
/-- Every one but the last is used. -/
theorem below_used {f : List Mdl} (h : checkN f = 0) {top : ByteArray} (ht : (findM f top).isSome = true) (i : Nat) (hi : i + 1 < (belowN f top).length) :
    ∃ b m, b ∈ belowN f top ∧ findM f b = some m ∧ (belowN f top)[i] ∈ usesM m := by
  have hm : (belowN f top)[i] ∈ belowN f top := List.getElem_mem _
  have hr := (mem_below h ht _).1 hm
  obtain ⟨pre, he⟩ := below_last h ht
  have hne : ¬ (belowN f top)[i] = top := by
    have hnd := below_nodup f top
    have hl : i < pre.length := by have := hi; rw [he] at this; simp at this; omega
    have hget : (belowN f top)[i] = pre[i] := by simp only [he]; rw [List.getElem_append_left hl]
    rw [hget]
    rw [he] at hnd
    intro e
    exact (List.nodup_append.1 hnd).2.2 pre[i] (List.getElem_mem hl) top (by simp) e
  generalize (belowN f top)[i] = s at hr hne
  cases hr with
  | refl => exact absurd rfl hne
  | step hb hm hc _ => exact ⟨_, _, (mem_below h ht _).2 hb, hm, hc⟩
/-- What is to be found of all stands behind the first that is not it. -/
theorem sub_skip {x a : ByteArray} {r l : List ByteArray} (h : List.Sublist (x :: r) (a :: l)) (hne : a ≠ x) : List.Sublist (x :: r) l := by
  cases h with
  | cons _ h => exact h
  | cons_cons _ _ => exact absurd rfl hne
theorem sub_take {x : ByteArray} {r l : List ByteArray} (h : List.Sublist (x :: r) (x :: l)) : List.Sublist r (x :: l) := (List.sublist_cons_self x r).trans h
theorem sub_nil {x : ByteArray} {r : List ByteArray} : ¬ List.Sublist (x :: r) [] := by intro h; cases h

/-! ## A file without the rest -/
noncomputable def onlyM (f : List Mdl) (l : List ByteArray) : List Mdl := f.filter fun m => yes (m.name ∈ l)
theorem find_filter {α : Type} (p p' q : α → Bool) (m : α) (hq : q m = true) (hp : p' m = true) : ∀ f : List α, (∀ x, x ∈ f → q x = true → p' x = true → p x = true) → f.find? p = some m → (f.filter q).find? p' = some m := by
  intro f
  induction f with
  | nil => intro _ h; cases h
  | cons a r ih =>
    intro h hf
    by_cases ha : p a = true
    · rw [List.find?_cons_of_pos ha] at hf
      cases hf
      rw [List.filter_cons_of_pos hq, List.find?_cons_of_pos hp]
    · rw [List.find?_cons_of_neg ha] at hf
      have hr := ih (fun x hx => h x (List.mem_cons_of_mem _ hx)) hf
      by_cases hqa : q a = true
      · rw [List.filter_cons_of_pos hqa, List.find?_cons_of_neg (fun h' => ha (h a (List.mem_cons_self ..) hqa h'))]
        exact hr
      · rw [List.filter_cons_of_neg hqa]
        exact hr
theorem only_sim {f g : List Mdl} {R : ByteArray → Prop} (hg : g = f.filter fun m => yes (R m.name)) (hu : ∀ m, m ∈ f → R m.name → ∀ s, s ∈ usesM m → R s) :
    ∀ (n k : Nat) (out : List ByteArray), Ordered f out → Ordered g (out.filter fun s => yes (R s)) → f.length ≤ out.length + n → g.length ≤ (out.filter fun s => yes (R s)).length + k →
      orderN g k (out.filter fun s => yes (R s)) = (orderN f n out).filter fun s => yes (R s) := by
  have hmg : ∀ m, m ∈ g ↔ m ∈ f ∧ R m.name := by intro m; rw [hg, List.mem_filter, yes_iff]
  have hready : ∀ out m, m ∈ f → R m.name → (readyM (out.filter fun s => yes (R s)) m ↔ readyM out m) := by
    intro out m hm hR
    unfold readyM
    constructor
    · rintro ⟨h1, h2⟩
      exact ⟨fun h => h1 (List.mem_filter.2 ⟨h, yes_iff.2 hR⟩), fun s hs => (List.mem_filter.1 (h2 s hs)).1⟩
    · rintro ⟨h1, h2⟩
      exact ⟨fun h => h1 (List.mem_filter.1 h).1, fun s hs => List.mem_filter.2 ⟨h2 s hs, yes_iff.2 (hu m hm hR s hs)⟩⟩
  have hnone : ∀ out, nextM f out = none → nextM g (out.filter fun s => yes (R s)) = none := by
    intro out hn
    refine next_no fun m hm hr => ?_
    obtain ⟨h1, h2⟩ := (hmg m).1 hm
    exact next_none hn m h1 ((hready out m h1 h2).1 hr)
  intro n
  induction n with
  | zero =>
    intro k out ho hog hl hlg
    have hn : nextM f out = none := by
      cases hn : nextM f out with
      | none => rfl
      | some m => have := (ho.step hn).le; simp at this; omega
    rw [order_fuel k (hnone out hn)]
    rfl
  | succ n ih =>
    intro k out ho hog hl hlg
    cases hn : nextM f out with
    | none => rw [order_fuel k (hnone out hn), order_fuel (n + 1) hn]
    | some m =>
      have hs : orderN f (n + 1) out = orderN f n (out ++ [m.name]) := by rw [orderN, hn]
      rw [hs]
      obtain ⟨hm, hr⟩ := next_spec hn
      by_cases hR : R m.name
      · have hng : nextM g (out.filter fun s => yes (R s)) = some m := by
          unfold nextM at hn ⊢
          rw [hg]
          exact find_filter _ _ _ m (yes_iff.2 hR) (yes_iff.2 ((hready out m hm hR).2 hr)) f (fun x hx hq hp => yes_iff.2 ((hready out x hx (yes_iff.1 hq)).1 (yes_iff.1 hp))) hn
        have hfa : (out ++ [m.name]).filter (fun s => yes (R s)) = (out.filter fun s => yes (R s)) ++ [m.name] := by
          rw [List.filter_append, List.filter_cons_of_pos (p := fun s => yes (R s)) (yes_iff.2 hR)]; rfl
        have hst := hog.step hng
        cases k with
        | zero => have := hst.le; simp at this; omega
        | succ k =>
          have := ih k (out ++ [m.name]) (ho.step hn) (by rw [hfa]; exact hst) (by simp; omega) (by rw [hfa]; simp; omega)
          rw [← this, hfa, orderN, hng]
      · have hfa : (out ++ [m.name]).filter (fun s => yes (R s)) = out.filter fun s => yes (R s) := by
          rw [List.filter_append, List.filter_cons_of_neg (p := fun s => yes (R s)) (fun h => hR (yes_iff.1 h))]; simp
        have := ih k (out ++ [m.name]) (ho.step hn) (by rw [hfa]; exact hog) (by simp; omega) (by rw [hfa]; exact hlg)
        rw [← this, hfa]
theorem checkF_zero {f : List Mdl} : checkF f = 0 ↔ f.length ≤ 64 ∧ msize sizeM f ≤ 65536 ∧ mdeep deepM f ≤ 64 ∧ ∀ m, m ∈ f → MayM m := by
  unfold checkF
  by_cases h : 64 < f.length
  · rw [if_pos h]
    exact ⟨fun h' => by omega, fun h' => by omega⟩
  · rw [if_neg h, told_zero, yes_iff]
    exact ⟨fun h' => ⟨by omega, h'⟩, fun h' => h'.2⟩
theorem msize_sub {α : Type} (sz : α → Nat) {l r : List α} (h : List.Sublist l r) : msize sz l ≤ msize sz r := by
  induction h with
  | slnil => exact Nat.le_refl _
  | cons a _ ih => rw [msize]; omega
  | cons_cons a _ ih => rw [msize, msize]; omega
theorem mdeep_sub {α : Type} (sz : α → Nat) {l r : List α} (h : List.Sublist l r) : mdeep sz l ≤ mdeep sz r := by
  induction h with
  | slnil => exact Nat.le_refl _
  | cons a _ ih => rw [mdeep]; omega
  | cons_cons a _ ih => rw [mdeep, mdeep]; omega
/-- WITHOUT THE REST IT IS AS IT WAS. -/
theorem without_law {f : List Mdl} (h : checkN f = 0) {top : ByteArray} (ht : (findM f top).isSome = true) :
    checkN (onlyM f (belowN f top)) = 0 ∧ orderF (onlyM f (belowN f top)) = belowN f top ∧ (findM (onlyM f (belowN f top)) top).isSome = true ∧ belowN (onlyM f (belowN f top)) top = belowN f top := by
  obtain ⟨hF, hn, hri, huses, hlen⟩ := check_facts h
  obtain ⟨g, hg0⟩ : ∃ g, onlyM f (belowN f top) = g := ⟨_, rfl⟩
  rw [hg0]
  have hmg : ∀ m, m ∈ g ↔ m ∈ f ∧ Reach f top m.name := by
    intro m
    rw [← hg0]
    unfold onlyM
    rw [List.mem_filter, yes_iff, mem_below h ht]
  have hg : g = f.filter fun m => yes (Reach f top m.name) := by
    rw [← hg0]
    unfold onlyM
    apply List.filter_congr
    intro m hm
    by_cases hr : Reach f top m.name
    · rw [yes_iff.2 hr, yes_iff.2 ((mem_below h ht _).2 hr)]
    · rw [yes_no.2 hr, yes_no.2 (fun hb => hr ((mem_below h ht _).1 hb))]
  have hsub : List.Sublist g f := by rw [hg]; exact List.filter_sublist
  have hng : (namesF g).Nodup := hn.sublist (hsub.map _)
  have hin : ∀ s, s ∈ namesF g ↔ Reach f top s := by
    intro s
    constructor
    · intro hs
      obtain ⟨m, hm, rfl⟩ := List.mem_map.1 hs
      exact ((hmg m).1 hm).2
    · intro hr
      obtain ⟨m, hm, rfl⟩ := List.mem_map.1 (find_isSome.1 (hr.isIn ht))
      exact List.mem_map.2 ⟨m, (hmg m).2 ⟨hm, hr⟩, rfl⟩
  have hord : orderF g = belowN f top := by
    have hu : ∀ m, m ∈ f → Reach f top m.name → ∀ s, s ∈ usesM m → Reach f top s := fun m hm hr s hs => reach_uses h hr (find_mem hn hm) hs
    exact only_sim hg hu f.length g.length [] (ordered_nil f) (ordered_nil g) (by simp) (by simp)
  have hlg : (belowN f top).length = g.length := by
    have h1 := nodup_le (below_nodup f top) (l := namesF g) fun s hs => (hin s).2 ((mem_below h ht s).1 hs)
    have h2 := nodup_le hng (l := belowN f top) fun s hs => (mem_below h ht s).2 ((hin s).1 hs)
    simp [namesF] at h1 h2
    omega
  obtain ⟨hF1, hF2, hF3, hF4⟩ := checkF_zero.1 hF
  have hc : checkN g = 0 := by
    unfold checkN
    have := msize_sub sizeM hsub
    have := mdeep_sub deepM hsub
    have := hsub.length_le
    rw [if_pos (checkF_zero.2 ⟨by omega, by omega, by omega, fun m hm => hF4 m ((hmg m).1 hm).1⟩)]
    rw [ok_end ⟨hng, fun m hm => hri m ((hmg m).1 hm).1⟩ (fun m hm s hs => (hin s).2 (reach_uses h ((hmg m).1 hm).2 (find_mem hn ((hmg m).1 hm).1) hs)), hord, hlg]
    simp
  have htg : (findM g top).isSome = true := find_isSome.2 ((hin top).2 .refl)
  refine ⟨hc, hord, htg, ?_⟩
  have hrr : ∀ s, Reach f top s → Reach g top s := by
    intro s hs
    induction hs with
    | refl => exact .refl
    | step hb hm hcc hss ih =>
      rename_i b c m
      obtain ⟨h1, h2⟩ := find_spec2 hm
      have hmem : m ∈ g := (hmg m).2 ⟨h1, by rw [h2]; exact hb⟩
      have hfg : findM g b = some m := by rw [← h2]; exact find_mem hng hmem
      exact .step ih hfg hcc (find_isSome.2 ((hin _).2 (.step hb hm hcc hss)))
  show (orderF g).filter (fun s => yes (Reach g top s)) = belowN f top
  rw [hord, List.filter_eq_self]
  intro s hs
  exact yes_iff.2 (hrr s ((mem_below h ht s).1 hs))

end Go.Proofs.YtjoglnjpgkobeaaDoor

/-
  THE LAWS OF NAMES THAT ARE TOLD AGAIN, PLAIN: a name told twice; the sides of a choice; loops.
-/
namespace Go.Proofs.YtjoglnjpgkobeaaDoor
open Go Go.RowKit
set_option linter.all false
set_option linter.unusedVariables false
set_option linter.unusedSimpArgs false
set_option linter.unusedVariables false
set_option linter.unusedSimpArgs false

theorem checkF_may {f : List Mdl} (hl : f.length ≤ 64) (hm : ∀ m, m ∈ f → MayM m) : checkF f = 0 ∨ checkF f = 2 := by
  unfold checkF
  rw [if_neg (by omega), yes_iff.2 hm]
  unfold told
  by_cases h : 65536 < msize sizeM f ∨ 64 < mdeep deepM f
  · rw [if_pos h]; exact .inr rfl
  · rw [if_neg h]; exact .inl rfl
theorem checkN_of {f : List Mdl} (h : checkF f = 0) : checkN f = namesOk f := by unfold checkN; rw [if_pos h]
theorem checkN_ne {f : List Mdl} (h : checkF f ≠ 0) : checkN f = checkF f := by unfold checkN; rw [if_neg h]

/-! ## One module alone -/
def mSolo (nm : ByteArray) (l : List Itm) : Mdl := ⟨nm, [], [], l⟩
theorem right_one {nm : ByteArray} {l : List Itm} : rightM (mSolo nm l) ↔ tokL l ∧ inIs (fun s => s ∈ tnIs l) l := by
  have h : ownN (mSolo nm l) = tnIs l := by show tnIs l ++ ([] ++ []) = tnIs l; simp
  unfold rightM tokL
  rw [h]
  show tokIs l ∧ (tnIs l).Nodup ∧ inIs (fun s => s ∈ tnIs l) l ↔ _
  rw [and_assoc]
theorem checkF_one {nm : ByteArray} {l : List Itm} : checkF [mSolo nm l] = 0 ↔ 1 + msize sizeI l ≤ 65536 ∧ 1 + mdeep deepI l ≤ 64 ∧ nameP nm ∧ ∀ y, y ∈ l → MayI y := by
  rw [checkF_zero]
  have h1 : msize sizeM [mSolo nm l] = 1 + msize sizeI l := by show 1 + 0 + 0 + msize sizeI l + 0 = _; omega
  have h2 : mdeep deepM [mSolo nm l] = 1 + mdeep deepI l := by show max (1 + max (max 0 0) (mdeep deepI l)) 0 = _; omega
  rw [h1, h2]
  constructor
  · rintro ⟨-, h1, h2, h3⟩
    obtain ⟨h4, -, -, h5⟩ := h3 _ (List.mem_singleton.2 rfl)
    exact ⟨h1, h2, h4, h5⟩
  · rintro ⟨h1, h2, h3, h4⟩
    exact ⟨by simp, h1, h2, all_one ⟨h3, (fun y hy => by cases hy), (fun y hy => by cases hy), h4⟩⟩
theorem one_facts {nm : ByteArray} {l : List Itm} (h : checkN [mSolo nm l] = 0) : checkF [mSolo nm l] = 0 ∧ (tokL l ∧ inIs (fun s => s ∈ tnIs l) l) ∧ ofIs l = [] := by
  obtain ⟨h1, -, h2, -, h4⟩ := check_facts h
  refine ⟨h1, right_one.1 (h2 _ (List.mem_singleton.2 rfl)), ?_⟩
  have hi : 0 < (orderF [mSolo nm l]).length := by rw [h4]; simp
  obtain ⟨m, -, hm, -, hu⟩ := order_law h 0 hi
  rw [List.mem_singleton.1 hm] at hu
  cases ho : ofIs l with
  | nil => rfl
  | cons s r =>
    have hs : s ∈ usesM (mSolo nm l) := mem_uses.2 (by show s ∈ ofIs l; rw [ho]; exact List.mem_cons_self ..)
    have := hu s hs
    cases this
theorem one_ok {nm : ByteArray} {l : List Itm} (h1 : checkF [mSolo nm l] = 0) (h2 : tokL l ∧ inIs (fun s => s ∈ tnIs l) l) (h3 : ofIs l = []) : checkN [mSolo nm l] = 0 := by
  have hu : ∀ s, ¬ s ∈ usesM (mSolo nm l) := by
    intro s hs
    have := mem_uses.1 hs
    rw [show (mSolo nm l).items = l from rfl, h3] at this
    cases this
  rw [checkN_of h1, ok_end ⟨by show [nm].Nodup; simp, all_one (right_one.2 h2)⟩ (fun m hm s hs => by rw [List.mem_singleton.1 hm] at hs; exact absurd hs (hu s))]
  obtain ⟨ho, hn⟩ := orderF_end [mSolo nm l]
  have hne : orderF [mSolo nm l] ≠ [] := by
    intro he
    rw [he] at hn
    exact next_none hn _ (List.mem_singleton.2 rfl) ⟨by simp, fun s hs => absurd hs (hu s)⟩
  have : 0 < (orderF [mSolo nm l]).length := List.length_pos_iff.2 hne
  rw [if_neg (by simp; omega)]
theorem one_70 {nm : ByteArray} {l : List Itm} (h1 : checkF [mSolo nm l] = 0) (h2 : ¬ (tokL l ∧ inIs (fun s => s ∈ tnIs l) l)) : checkN [mSolo nm l] = 70 := by
  rw [checkN_of h1]
  exact ok_70 fun h => h2 (right_one.1 (h.2 _ (List.mem_singleton.2 rfl)))

/-! ## A name told again -/
theorem twice_module {f : List Mdl} (h : checkN f = 0) (hsz : msize sizeM f ≤ 2000) (hl : f.length < 64) {m : Mdl} (hm : m ∈ f) : checkN (f ++ [mSolo m.name []]) = 70 := by
  obtain ⟨h0, -⟩ := check_facts h
  obtain ⟨-, hs, hd, hall⟩ := checkF_zero.1 h0
  have h1 : msize sizeM [mSolo m.name []] = 1 := rfl
  have h2 : mdeep deepM [mSolo m.name []] = 1 := rfl
  have hc : checkF (f ++ [mSolo m.name []]) = 0 := checkF_zero.2 ⟨by simp; omega, by rw [msize_append, h1]; omega, by rw [mdeep_append, h2]; omega, fun x hx => by
    rcases List.mem_append.1 hx with hx | hx
    · exact hall x hx
    · rw [List.mem_singleton.1 hx]
      exact ⟨(hall m hm).1, (fun y hy => by cases hy), (fun y hy => by cases hy), (fun y hy => by cases hy)⟩⟩
  rw [checkN_of hc]
  refine ok_70 fun h => ?_
  have hn : (namesF f ++ [m.name]).Nodup := by
    have := h.1
    unfold namesF at this ⊢
    rw [List.map_append] at this
    exact this
  exact (List.nodup_append.1 hn).2.2 m.name (List.mem_map.2 ⟨m, hm, rfl⟩) m.name (List.mem_singleton.2 rfl) rfl
theorem fits_in {p : Prop} {s : ByteArray} (h : fitsP p s) (hp : p) : nameP s := by
  rcases h with h | h
  · exact h.2
  · exact absurd hp h.1
theorem tn_may : ∀ x : Itm, MayI x → ∀ s, s ∈ tnI x → nameP s := by
  intro x
  induction x using Itm.ind with
  | h x h1 h2 =>
    intro hm s hs
    obtain ⟨ho, -, -, hl, he, -, -⟩ := MayI_iff.1 hm
    rw [tnI_eq] at hs
    by_cases hd : isDecl x.op
    · rw [if_pos hd] at hs
      rw [List.mem_singleton.1 hs]
      refine fits_in ho.2.2.1 ?_
      unfold isDecl at hd
      omega
    · rw [if_neg hd] at hs
      have hls : ∀ l : List Itm, (∀ y, y ∈ l → MayI y → ∀ s, s ∈ tnI y → nameP s) → (∀ y, y ∈ l → MayI y) → ∀ s, s ∈ tnIs l → nameP s := by
        intro l
        induction l with
        | nil => intro _ _ s hs; cases hs
        | cons y r ih =>
          intro ih1 hmm s hs
          rcases List.mem_append.1 (show s ∈ tnI y ++ tnIs r from hs) with hs | hs
          · exact ih1 y (List.mem_cons_self ..) (hmm y (List.mem_cons_self ..)) s hs
          · exact ih (fun z hz => ih1 z (List.mem_cons_of_mem _ hz)) (fun z hz => hmm z (List.mem_cons_of_mem _ hz)) s hs
      by_cases h8 : x.op = 8
      · rw [if_pos h8] at hs
        rcases (memA_all _ _).1 hs with hs | hs
        · exact hls _ h1 hl s hs
        · exact hls _ h2 he s hs
      · rw [if_neg h8] at hs; cases hs
theorem tns_may {l : List Itm} (h : ∀ y, y ∈ l → MayI y) : ∀ s, s ∈ tnIs l → nameP s := by
  induction l with
  | nil => intro s hs; cases hs
  | cons y r ih =>
    intro s hs
    rcases List.mem_append.1 (show s ∈ tnI y ++ tnIs r from hs) with hs | hs
    · exact tn_may y (h y (List.mem_cons_self ..)) s hs
    · exact ih (fun z hz => h z (List.mem_cons_of_mem _ hz)) s hs
theorem own_may {m : Mdl} (h : MayM m) : ∀ s, s ∈ ownN m → nameP s := by
  intro s hs
  obtain ⟨-, h1, h2, h3⟩ := h
  rcases List.mem_append.1 hs with hs | hs
  · exact tns_may h3 s hs
  · rcases List.mem_append.1 hs with hs | hs
    · obtain ⟨p, hp, rfl⟩ := List.mem_map.1 hs
      exact (h2 p hp).1
    · obtain ⟨p, hp, rfl⟩ := List.mem_map.1 hs
      exact (h1 p hp).1
/-- A file with items more behind those of a module. -/
def putM (f : List Mdl) (k : Nat) (l : List Itm) : List Mdl := f.mapIdx fun i m => if i = k then ⟨m.name, m.params, m.ports, m.items ++ l⟩ else m
theorem msize_set {α : Type} (sz : α → Nat) (x : α) : ∀ (l : List α) (k : Nat) (hk : k < l.length), msize sz (l.set k x) + sz l[k] = msize sz l + sz x := by
  intro l
  induction l with
  | nil => intro k hk; cases hk
  | cons a r ih =>
    intro k hk
    cases k with
    | zero => show sz x + msize sz r + sz a = sz a + msize sz r + sz x; omega
    | succ k =>
      have hk' : k < r.length := by simpa using hk
      have := ih k hk'
      show sz a + msize sz (r.set k x) + sz r[k] = sz a + msize sz r + sz x
      omega
theorem mdeep_set {α : Type} (sz : α → Nat) (x : α) : ∀ (l : List α) (k : Nat), mdeep sz (l.set k x) ≤ max (mdeep sz l) (sz x) := by
  intro l
  induction l with
  | nil => intro k; simp [mdeep]
  | cons a r ih =>
    intro k
    cases k with
    | zero => show max (sz x) (mdeep sz r) ≤ max (max (sz a) (mdeep sz r)) (sz x); omega
    | succ k =>
      have := ih k
      show max (sz a) (mdeep sz (r.set k x)) ≤ max (max (sz a) (mdeep sz r)) (sz x)
      omega
theorem putM_set {f : List Mdl} {k : Nat} (hk : k < f.length) (l : List Itm) : putM f k l = f.set k ⟨f[k].name, f[k].params, f[k].ports, f[k].items ++ l⟩ := by
  apply List.ext_getElem
  · simp [putM]
  · intro i h1 h2
    simp only [putM, List.getElem_mapIdx, List.getElem_set]
    by_cases h : i = k
    · subst h
      simp
    · rw [if_neg h, if_neg (fun e => h e.symm)]
theorem twice_name {f : List Mdl} (h : checkN f = 0) (hsz : msize sizeM f ≤ 2000) {k : Nat} (hk : k < f.length) {s : ByteArray} (hs : s ∈ ownN f[k]) : checkN (putM f k [iW s]) = 70 := by
  obtain ⟨h0, -⟩ := check_facts h
  obtain ⟨hl, -, hd, hall⟩ := checkF_zero.1 h0
  have hnm := own_may (hall f[k] (List.getElem_mem hk)) s hs
  have hmay := hall f[k] (List.getElem_mem hk)
  have hdm := mdeep_mem deepM f f[k] (List.getElem_mem hk)
  have hsm := msize_mem sizeM f f[k] (List.getElem_mem hk)
  rw [putM_set hk]
  obtain ⟨m, hm⟩ : ∃ m : Mdl, f[k] = m := ⟨_, rfl⟩
  rw [hm] at hs hmay hdm hsm ⊢
  have e1 : sizeI (iW s) = 2 := rfl
  have e2 : deepI (iW s) = 2 := rfl
  have g1 : sizeM ⟨m.name, m.params, m.ports, m.items ++ [iW s]⟩ = sizeM m + 2 := by
    show 1 + msize sizeB m.params + msize sizeP m.ports + msize sizeI (m.items ++ [iW s]) = 1 + msize sizeB m.params + msize sizeP m.ports + msize sizeI m.items + 2
    rw [msize_append]
    show _ + (_ + (sizeI (iW s) + 0)) = _
    omega
  have g2 : deepM ⟨m.name, m.params, m.ports, m.items ++ [iW s]⟩ ≤ max (deepM m) 3 := by
    show 1 + max (max (mdeep deepB m.params) (mdeep deepP m.ports)) (mdeep deepI (m.items ++ [iW s])) ≤ max (1 + max (max (mdeep deepB m.params) (mdeep deepP m.ports)) (mdeep deepI m.items)) 3
    rw [mdeep_append, show mdeep deepI [iW s] = 2 from rfl]
    omega
  have q1 := msize_set sizeM ⟨m.name, m.params, m.ports, m.items ++ [iW s]⟩ f k hk
  have q2 := mdeep_set deepM ⟨m.name, m.params, m.ports, m.items ++ [iW s]⟩ f k
  rw [hm] at q1
  have hc : checkF (f.set k ⟨m.name, m.params, m.ports, m.items ++ [iW s]⟩) = 0 := checkF_zero.2 ⟨by rw [List.length_set]; exact hl, by omega, by omega, fun x hx => by
    rcases List.mem_or_eq_of_mem_set hx with hx | rfl
    · exact hall x hx
    · refine ⟨hmay.1, hmay.2.1, hmay.2.2.1, fun y hy => ?_⟩
      rcases List.mem_append.1 (show y ∈ m.items ++ [iW s] from hy) with hy | hy
      · exact hmay.2.2.2 y hy
      · rw [List.mem_singleton.1 hy]; exact may_iW hnm⟩
  rw [checkN_of hc]
  refine ok_70 fun h => ?_
  obtain ⟨-, hn, -⟩ := h.2 _ (List.mem_set hk _)
  have hn' : (tnIs (m.items ++ [iW s]) ++ (m.ports.map Prt.name ++ m.params.map Bnd.name)).Nodup := hn
  rw [tnIs_append, show tnIs [iW s] = [s] from rfl] at hn'
  obtain ⟨h3, -, h4⟩ := List.nodup_append.1 hn'
  rcases List.mem_append.1 (show s ∈ tnIs m.items ++ (m.ports.map Prt.name ++ m.params.map Bnd.name) from hs) with hs | hs
  · exact (List.nodup_append.1 h3).2.2 s hs s (List.mem_singleton.2 rfl) rfl
  · exact h4 s (List.mem_append.2 (.inr (List.mem_singleton.2 rfl))) s hs rfl

/-! ## The sides of a choice -/
def iIf (l m : List Itm) : Itm := .mk 8 tE tE [xOne] [] l m [] []
theorem may_iIf {l m : List Itm} (hl : ∀ y, y ∈ l → MayI y) (hm : ∀ y, y ∈ m → MayI y) : MayI (iIf l m) := .mk _ ⟨by show (1 : Int) ≤ 8; decide, by show (8 : Int) ≤ 10; decide, .inr ⟨(show ¬ ((8 : Int) ≠ 4 ∧ (8 : Int) ≠ 5 ∧ (8 : Int) ≠ 6 ∧ (8 : Int) ≠ 8) by decide), rfl⟩, .inr ⟨(show ¬ ((8 : Int) = 7 ∨ (8 : Int) = 9) by decide), rfl⟩, rfl, (fun h => absurd h (show ¬ (8 : Int) = 4 by decide)), .inr (.inr rfl), .inl rfl, .inl rfl, .inr ⟨rfl, rfl⟩⟩
  (all_one may_xOne) (fun y hy => by cases hy) hl hm (fun y hy => by cases hy) (fun y hy => by cases hy)
theorem size_iIf (l m : List Itm) : sizeI (iIf l m) = 2 + msize sizeI l + msize sizeI m := by
  rw [sizeI_eq]
  show 1 + 1 + 0 + msize sizeI l + msize sizeI m + 0 + 0 = _
  omega
theorem deep_iIf (l m : List Itm) : deepI (iIf l m) = 1 + max 1 (max (mdeep deepI l) (mdeep deepI m)) := by
  rw [deepI_eq]
  show 1 + max (max (max (max (max 1 0) (mdeep deepI l)) (mdeep deepI m)) 0) 0 = _
  omega
theorem tn_iIf (l m : List Itm) : tnI (iIf l m) = addAll (tnIs l) (tnIs m) := by
  rw [tnI_eq]
  rw [if_neg (by show ¬ isDecl 8; decide), if_pos (show (iIf l m).op = 8 from rfl)]
  rfl
theorem addAll_self {l : List ByteArray} : ∀ m : List ByteArray, (∀ s, s ∈ m → s ∈ l) → addAll l m = l := by
  intro m
  induction m with
  | nil => intro _; rfl
  | cons s r ih =>
    intro h
    show addAll (addOne l s) r = l
    rw [addOne_in (h s (List.mem_cons_self ..))]
    exact ih fun t ht => h t (List.mem_cons_of_mem _ ht)
theorem msize_one {α : Type} (sz : α → Nat) (x : α) : msize sz [x] = sz x := by simp [msize]
theorem mdeep_one {α : Type} (sz : α → Nat) (x : α) : mdeep sz [x] = sz x := by simp [mdeep]
theorem ofs_iIf (l m : List Itm) : ofIs [iIf l m] = ofIs l ++ ofIs m := by
  show ofI (iIf l m) ++ [] = _
  rw [ofI_eq, if_neg (show ¬ (iIf l m).op = 7 by show ¬ (8 : Int) = 7; decide)]
  show [] ++ (ofIs l ++ ofIs m) ++ [] = _
  simp
theorem in_iIf {C : ByteArray → Prop} {l m : List Itm} : inIs C [iIf l m] ↔ inIs C l ∧ inIs C m := by
  show inI C (iIf l m) ∧ True ↔ _
  rw [inI_eq]
  constructor
  · rintro ⟨⟨-, h, -⟩, -⟩; exact h rfl
  · rintro ⟨h1, h2⟩; exact ⟨⟨trivial, fun _ => ⟨h1, h2⟩, fun h9 => absurd h9 (show ¬ (8 : Int) = 9 by decide)⟩, trivial⟩
theorem tok_iIf {l m : List Itm} : tokIs [iIf l m] ↔ tokL l ∧ tokL m := by
  show tokI (iIf l m) ∧ True ↔ _
  rw [tokI_eq]
  exact ⟨fun h => h.1 rfl, fun h => ⟨fun _ => h, trivial⟩⟩
theorem sides_both {nm : ByteArray} {l m : List Itm} (h : checkN [mSolo nm [iIf l m]] = 0) : checkN [mSolo nm l] = 0 ∧ checkN [mSolo nm m] = 0 := by
  obtain ⟨h1, ⟨⟨h2, h3⟩, h4⟩, h5⟩ := one_facts h
  obtain ⟨g1, g2, g3, g4⟩ := checkF_one.1 h1
  obtain ⟨-, -, -, hl, hm, -, -⟩ := MayI_iff.1 (g4 _ (List.mem_singleton.2 rfl))
  rw [msize_one, size_iIf] at g1
  rw [mdeep_one, deep_iIf] at g2
  rw [ofs_iIf] at h5
  obtain ⟨h6, h7⟩ := List.append_eq_nil_iff.1 h5
  obtain ⟨h8, h9⟩ := tok_iIf.1 h2
  obtain ⟨i1, i2⟩ := in_iIf.1 h4
  have ht : ∀ s, s ∈ tnIs [iIf l m] ↔ s ∈ tnIs l ∨ s ∈ tnIs m := by intro s; rw [tnIs_one, tn_iIf, memA_all]
  exact ⟨one_ok (checkF_one.2 ⟨by omega, by omega, g3, hl⟩) ⟨h8, ins_less (fun s hs => (ht s).2 (.inl hs)) l i1⟩ h6,
    one_ok (checkF_one.2 ⟨by omega, by omega, g3, hm⟩) ⟨h9, ins_less (fun s hs => (ht s).2 (.inr hs)) m i2⟩ h7⟩
theorem sides_alike {nm : ByteArray} {l : List Itm} (h : checkN [mSolo nm l] = 0) : checkN [mSolo nm [iIf l l]] = 0 ∨ checkN [mSolo nm [iIf l l]] = 2 := by
  obtain ⟨h1, ⟨h2, h4⟩, h5⟩ := one_facts h
  obtain ⟨g1, g2, g3, g4⟩ := checkF_one.1 h1
  by_cases hc : checkF [mSolo nm [iIf l l]] = 0
  · refine .inl (one_ok hc ⟨⟨tok_iIf.2 ⟨h2, h2⟩, ?_⟩, ?_⟩ ?_)
    · rw [tnIs_one, tn_iIf, addAll_self _ fun s hs => hs]; exact h2.2
    · rw [tnIs_one, tn_iIf, addAll_self _ fun s hs => hs]; exact in_iIf.2 ⟨h4, h4⟩
    · rw [ofs_iIf, h5]; rfl
  · rw [checkN_ne hc]
    exact checkF_may (by simp) (all_one ⟨g3, (fun y hy => by cases hy), (fun y hy => by cases hy), all_one (may_iIf g4 g4)⟩)
theorem sides_twice {nm : ByteArray} {l : List Itm} (h : checkN [mSolo nm l] = 0) (hne : tnIs l ≠ []) : checkN [mSolo nm (l ++ [iIf l []])] = 70 ∨ checkN [mSolo nm (l ++ [iIf l []])] = 2 := by
  obtain ⟨h1, -, -⟩ := one_facts h
  obtain ⟨g1, g2, g3, g4⟩ := checkF_one.1 h1
  by_cases hc : checkF [mSolo nm (l ++ [iIf l []])] = 0
  · refine .inl (one_70 hc ?_)
    rintro ⟨⟨-, hn⟩, -⟩
    rw [tnIs_append, tnIs_one, tn_iIf] at hn
    have ha : addAll (tnIs l) (tnIs []) = tnIs l := rfl
    rw [ha] at hn
    cases ht : tnIs l with
    | nil => exact hne ht
    | cons s r =>
      have hs : s ∈ tnIs l := by rw [ht]; exact List.mem_cons_self ..
      exact (List.nodup_append.1 hn).2.2 s hs s hs rfl
  · right
    rw [checkN_ne hc]
    refine (checkF_may (by simp) (all_one ⟨g3, (fun y hy => by cases hy), (fun y hy => by cases hy), fun y hy => ?_⟩)).resolve_left hc
    rcases List.mem_append.1 hy with hy | hy
    · exact g4 y hy
    · rw [List.mem_singleton.1 hy]; exact may_iIf g4 (fun y hy => by cases hy)

/-! ## Loops -/
def iFor (nm of : ByteArray) (l : List Itm) : Itm := .mk 9 nm of [xOne, xOne] [] l [] [] []
theorem may_iFor {nm of : ByteArray} {l : List Itm} : MayI (iFor nm of l) ↔ nameP nm ∧ nameP of ∧ ∀ y, y ∈ l → MayI y := by
  constructor
  · intro h
    obtain ⟨ho, -, -, hl, -, -, -⟩ := MayI_iff.1 h
    exact ⟨fits_in ho.2.2.1 (show (9 : Int) ≠ 4 ∧ (9 : Int) ≠ 5 ∧ (9 : Int) ≠ 6 ∧ (9 : Int) ≠ 8 by decide), fits_in ho.2.2.2.1 (.inr rfl), hl⟩
  · rintro ⟨h1, h2, hl⟩
    exact .mk _ ⟨by show (1 : Int) ≤ 9; decide, by show (9 : Int) ≤ 10; decide, .inl ⟨(show (9 : Int) ≠ 4 ∧ (9 : Int) ≠ 5 ∧ (9 : Int) ≠ 6 ∧ (9 : Int) ≠ 8 by decide), h1⟩, .inl ⟨.inr rfl, h2⟩, rfl, (fun h => absurd h (show ¬ (9 : Int) = 4 by decide)), .inr (.inr rfl), .inr (.inl rfl), .inr rfl, .inr ⟨rfl, rfl⟩⟩
      (all_two may_xOne may_xOne) (fun y hy => by cases hy) hl (fun y hy => by cases hy) (fun y hy => by cases hy) (fun y hy => by cases hy)
theorem size_iFor (nm of : ByteArray) (l : List Itm) : sizeI (iFor nm of l) = 3 + msize sizeI l := by
  rw [sizeI_eq]
  show 1 + 2 + 0 + msize sizeI l + 0 + 0 + 0 = _
  omega
theorem deep_iFor (nm of : ByteArray) (l : List Itm) : deepI (iFor nm of l) = 1 + max 1 (mdeep deepI l) := by
  rw [deepI_eq]
  show 1 + max (max (max (max (max 1 0) (mdeep deepI l)) 0) 0) 0 = _
  omega
theorem tn_iFor (nm of : ByteArray) (l : List Itm) : tnI (iFor nm of l) = [nm] := by
  rw [tnI_eq, if_pos (show isDecl (iFor nm of l).op by show isDecl 9; decide)]
  rfl
theorem of_iFor (nm of : ByteArray) (l : List Itm) : ofI (iFor nm of l) = ofIs l := by
  rw [ofI_eq, if_neg (show ¬ (iFor nm of l).op = 7 by show ¬ (9 : Int) = 7; decide)]
  show [] ++ (ofIs l ++ []) = ofIs l
  rw [List.nil_append, List.append_nil]
theorem tok_iFor (nm of : ByteArray) (l : List Itm) : tokI (iFor nm of l) := (tokI_eq _).2 fun h => absurd h (show ¬ (9 : Int) = 8 by decide)
theorem in_iFor {C : ByteArray → Prop} {nm of : ByteArray} {l : List Itm} : inI C (iFor nm of l) ↔ tokL l ∧ ¬ of ∈ tnIs l ∧ (∀ t, t ∈ tnIs l ∨ t = of → ¬ C t) ∧ inIs (fun t => C t ∨ t ∈ tnIs l ∨ t = of) l := by
  rw [inI_eq]
  exact ⟨fun h => h.2.2 rfl, fun h => ⟨trivial, fun h8 => absurd h8 (show ¬ (9 : Int) = 8 by decide), fun _ => h⟩⟩
/-- A name with a line behind it. -/
def under (s : ByteArray) : ByteArray := s ++ ⟨#[95]⟩
theorem loops_first {nm : ByteArray} {x : Itm} {r : List Itm} (h : checkN [mSolo nm (x :: r)] = 0) : checkN [mSolo nm [x]] = 0 := by
  obtain ⟨h1, ⟨⟨h2, h3⟩, h4⟩, h5⟩ := one_facts h
  obtain ⟨g1, g2, g3, g4⟩ := checkF_one.1 h1
  rw [msize] at g1
  rw [mdeep] at g2
  refine one_ok (checkF_one.2 ⟨by rw [msize_one]; omega, by rw [mdeep_one]; omega, g3, all_one (g4 x (List.mem_cons_self ..))⟩) ⟨⟨⟨h2.1, trivial⟩, ?_⟩, ⟨?_, trivial⟩⟩ ?_
  · rw [tnIs_one]
    exact (List.nodup_append.1 (show (tnI x ++ tnIs r).Nodup from h3)).1
  · refine in_less x _ _ (fun s hs => ?_) h4.1
    rw [tnIs_one] at hs
    exact List.mem_append.2 (.inl hs)
  · have : ofI x ++ ofIs r = [] := h5
    show ofI x ++ [] = []
    rw [(List.append_eq_nil_iff.1 this).1]; rfl
theorem loops_once {nm a v : ByteArray} {l : List Itm} (h : checkN [mSolo nm [iFor a v l]] = 0) :
    (3 + msize sizeI l + 1 ≤ 65536 ∧ 2 + max 1 (mdeep deepI l) ≤ 64 ∧ nameP nm ∧ nameP a ∧ nameP v ∧ ∀ y, y ∈ l → MayI y) ∧ tokL l ∧ ¬ v ∈ tnIs l ∧ (∀ t, t ∈ tnIs l ∨ t = v → ¬ t = a) ∧ inIs (fun t => t = a ∨ t ∈ tnIs l ∨ t = v) l ∧ ofIs l = [] := by
  obtain ⟨h1, ⟨-, h4⟩, h5⟩ := one_facts h
  obtain ⟨g1, g2, g3, g4⟩ := checkF_one.1 h1
  rw [msize_one, size_iFor] at g1
  rw [mdeep_one, deep_iFor] at g2
  obtain ⟨m1, m2, m3⟩ := may_iFor.1 (g4 _ (List.mem_singleton.2 rfl))
  obtain ⟨i1, i2, i3, i4⟩ := in_iFor.1 h4.1
  have ht : ∀ s, s ∈ tnIs [iFor a v l] ↔ s = a := by intro s; rw [tnIs_one, tn_iFor, List.mem_singleton]
  refine ⟨⟨by omega, by omega, g3, m1, m2, m3⟩, i1, i2, fun t h he => i3 t h ((ht t).2 he), ins_less (fun s hs => ?_) l i4, ?_⟩
  · rcases hs with h | h
    · exact .inl ((ht s).2 h)
    · exact .inr h
  · have : ofI (iFor a v l) ++ [] = [] := h5
    rw [of_iFor, List.append_nil] at this
    exact this
theorem loops_two {nm a v b : ByteArray} {l : List Itm} (h : checkN [mSolo nm [iFor a v l]] = 0) (hb : nameP b) (hab : ¬ a = b) (hsz : msize sizeI l ≤ 30000) (hv : ¬ v = b) (hal : ¬ b ∈ allIs l) : checkN [mSolo nm [iFor a v l, iFor b v l]] = 0 := by
  obtain ⟨⟨g1, g2, g3, g4, g5, g6⟩, h1, h2, h3, h4, h5⟩ := loops_once h
  have ht : ∀ s, s ∈ tnIs [iFor a v l, iFor b v l] ↔ s = a ∨ s = b := by
    intro s
    show s ∈ tnI (iFor a v l) ++ (tnI (iFor b v l) ++ []) ↔ _
    rw [tn_iFor, tn_iFor]
    simp
  have hin : inIs (fun t => (t = a ∨ t ∈ tnIs l ∨ t = v) ∨ t = b) l := ins_more l hal h4
  have hno : ∀ t, t ∈ tnIs l ∨ t = v → ¬ t ∈ tnIs [iFor a v l, iFor b v l] := by
    intro t h' hm
    rcases (ht t).1 hm with e | e
    · exact h3 t h' e
    · subst e
      rcases h' with h' | h'
      · exact hal (tns_all _ h')
      · exact hv h'.symm
  have hinC : inIs (fun t => t ∈ tnIs [iFor a v l, iFor b v l] ∨ t ∈ tnIs l ∨ t = v) l := by
    refine ins_less (fun s hs => ?_) l hin
    rcases hs with hs | hs
    · rcases (ht s).1 hs with e | e
      · exact .inl (.inl e)
      · exact .inr e
    · exact .inl (.inr hs)
  refine one_ok (checkF_one.2 ⟨?_, ?_, g3, all_two (may_iFor.2 ⟨g4, g5, g6⟩) (may_iFor.2 ⟨hb, g5, g6⟩)⟩) ⟨⟨⟨tok_iFor a v l, tok_iFor b v l, trivial⟩, ?_⟩, ⟨in_iFor.2 ⟨h1, h2, hno, hinC⟩, in_iFor.2 ⟨h1, h2, hno, hinC⟩, trivial⟩⟩ ?_
  · show 1 + (sizeI (iFor a v l) + (sizeI (iFor b v l) + 0)) ≤ 65536
    rw [size_iFor, size_iFor]; omega
  · show 1 + max (deepI (iFor a v l)) (max (deepI (iFor b v l)) 0) ≤ 64
    rw [deep_iFor, deep_iFor]; omega
  · show (tnI (iFor a v l) ++ (tnI (iFor b v l) ++ [])).Nodup
    rw [tn_iFor, tn_iFor]
    simp [hab]
  · show ofI (iFor a v l) ++ (ofI (iFor b v l) ++ []) = []
    rw [of_iFor, of_iFor, h5]; rfl
theorem loops_deep {nm a v b u : ByteArray} {l : List Itm} (h : checkN [mSolo nm [iFor a v l]] = 0) (hb : nameP b) (hu : nameP u) : checkN [mSolo nm [iFor a v l, iFor b u [iFor a v l]]] = 70 ∨ checkN [mSolo nm [iFor a v l, iFor b u [iFor a v l]]] = 2 := by
  obtain ⟨⟨g1, g2, g3, g4, g5, g6⟩, -⟩ := loops_once h
  by_cases hc : checkF [mSolo nm [iFor a v l, iFor b u [iFor a v l]]] = 0
  · refine .inl (one_70 hc ?_)
    rintro ⟨-, -, h2, -⟩
    obtain ⟨-, -, h3, -⟩ := in_iFor.1 h2
    refine h3 a (.inl (by rw [tnIs_one, tn_iFor]; exact List.mem_singleton.2 rfl)) ?_
    show a ∈ tnI (iFor a v l) ++ tnIs [iFor b u [iFor a v l]]
    rw [tn_iFor]
    simp
  · right
    rw [checkN_ne hc]
    exact (checkF_may (by simp) (all_one ⟨g3, (fun y hy => by cases hy), (fun y hy => by cases hy), all_two (may_iFor.2 ⟨g4, g5, g6⟩) (may_iFor.2 ⟨hb, hu, all_one (may_iFor.2 ⟨g4, g5, g6⟩)⟩)⟩)).resolve_left hc
theorem word_end : ∀ w ∈ wordsL, w.getLast? ≠ some 95 := by decide
theorem under_size (s : ByteArray) : (under s).size = s.size + 1 := by simp [under, ByteArray.size_append]; rfl
theorem under_ne (s : ByteArray) : ¬ s = under s := fun h => by
  have := congrArg ByteArray.size h
  rw [under_size] at this
  omega
theorem under_name {s : ByteArray} (h : nameP s) (hl : s.size ≤ 40) : nameP (under s) := by
  obtain ⟨h1, h2, h3, h4⟩ := h
  have hd : (under s).data = s.data ++ #[95] := by simp [under]
  refine ⟨by rw [under_size]; omega, by rw [under_size]; omega, fun i hi => ?_, ?_⟩
  · have hi' : i < s.size + 1 := by rw [under_size] at hi; exact hi
    by_cases hlt : i < s.size
    · have : (under s).data[i] = s.data[i] := by simp only [hd]; rw [Array.getElem_append_left hlt]
      rw [this]
      exact h3 i hlt
    · obtain rfl : i = s.size := by omega
      have : (under s).data[s.size] = 95 := by
        simp only [hd]
        rw [Array.getElem_append_right (show s.data.size ≤ s.size from Nat.le_refl _)]
        simp only [show s.size - s.data.size = 0 from Nat.sub_self _]
        rfl
      rw [this]
      exact okAt_iff.2 (.inl (.inr (.inr rfl)))
  · cases hw : isWord (under s) with
    | false => rfl
    | true =>
      unfold isWord at hw
      rw [hd, Array.toList_append] at hw
      have := word_end _ (List.contains_iff_mem.1 hw)
      simp at this

end Go.Proofs.YtjoglnjpgkobeaaDoor
