/-
  THE LAWS OF NAMES, PLAIN: the document's way to what a module is made of; a name more in a module; a ring.
-/
import Derived.Test.YtjoglnjpgkobeaaGreatDoorFewPk
import Derived.Test.YtjoglnjpgkobeaaGreatDoorNLawWPk
import Derived.Test.YtjoglnjpgkobeaaGreatDoorRAllPk
import Derived.Test.YtjoglnjpgkobeaaGreatDoorCheckPk
import Derived.Test.YtjoglnjpgkobeaaGreatDoorTreePk
namespace Go.Proofs.YtjoglnjpgkobeaaGreatDoor
open Go Go.RowKit
set_option linter.all false
set_option linter.unusedVariables false
set_option linter.unusedSimpArgs false
set_option linter.unusedVariables false
set_option linter.unusedSimpArgs false

theorem nodup_inj {l : List ByteArray} (h : l.Nodup) {i j : Nat} {hi : i < l.length} {hj : j < l.length} (he : l[i] = l[j]) : i = j := by
  have hp := List.pairwise_iff_getElem.1 h
  rcases Nat.lt_trichotomy i j with hlt | rfl | hlt
  · exact absurd he (hp i j hi hj hlt)
  · rfl
  · exact absurd he.symm (hp j i hj hi hlt)
/-! ## What a module is made of, from the order's end -/
structure ScanI (f : List Mdl) (top : ByteArray) (s inn out : List ByteArray) : Prop where
  out : out = s.filter fun t => yes (Reach f top t)
  inR : ∀ t, t ∈ inn → Reach f top t
  tin : top ∈ inn
  uses : ∀ b, b ∈ s → Reach f top b → ∀ m, findM f b = some m → ∀ u, u ∈ usesM m → u ∈ inn
theorem scan_start (f : List Mdl) (top : ByteArray) : ScanI f top [] [top] [] :=
  ⟨rfl, fun t h => by rw [List.mem_singleton.1 h]; exact .refl, List.mem_singleton.2 rfl, fun b h => by cases h⟩
theorem scan_inn {f : List Mdl} {top : ByteArray} (h : checkN f = 0) (ht : (findM f top).isSome = true) {i : Nat} (hi : i < (orderF f).length) {inn out : List ByteArray} (hS : ScanI f top ((orderF f).drop (i + 1)) inn out) : (orderF f)[i] ∈ inn ↔ Reach f top (orderF f)[i] := by
  refine ⟨hS.inR _, fun hr => ?_⟩
  have hnd := (orderF_end f).1.nodup
  generalize hx : (orderF f)[i] = x at hr
  cases hr with
  | refl => exact hS.tin
  | step hb hm hc hs =>
    rename_i b m
    have hbo : b ∈ orderF f := (order_all h b).2 (find_isSome.1 (hb.isIn ht))
    obtain ⟨j, hj, hjb⟩ := List.getElem_of_mem hbo
    obtain ⟨m', h1, -, -, h2⟩ := order_law h j hj
    rw [hjb, hm] at h1
    cases h1
    obtain ⟨i', hi', hie⟩ := List.getElem_of_mem (h2 x hc)
    rw [List.length_take] at hi'
    rw [List.getElem_take] at hie
    have hii : i' = i := nodup_inj hnd (hie.trans hx.symm)
    refine hS.uses b ?_ hb m hm x hc
    rw [← hjb]
    have hlt : i < j := by omega
    have : ((orderF f).drop (i + 1))[j - (i + 1)]'(by rw [List.length_drop]; omega) = (orderF f)[j] := by
      rw [List.getElem_drop]
      congr 1
      omega
    rw [← this]
    exact List.getElem_mem _
theorem scan_yes {f : List Mdl} {top : ByteArray} (h : checkN f = 0) (ht : (findM f top).isSome = true) {i : Nat} (hi : i < (orderF f).length) {inn out : List ByteArray} (hS : ScanI f top ((orderF f).drop (i + 1)) inn out) {m : Mdl} (hm : findM f (orderF f)[i] = some m) (hin : (orderF f)[i] ∈ inn) :
    ScanI f top ((orderF f).drop i) (addAll inn (usesM m)) ((orderF f)[i] :: out) := by
  have hr := (scan_inn h ht hi hS).1 hin
  rw [List.drop_eq_getElem_cons hi]
  refine ⟨?_, fun t ht' => ?_, (memA_all _ _).2 (.inl hS.tin), fun b hb hrb m' hm' u hu => (memA_all _ _).2 ?_⟩
  · rw [List.filter_cons, if_pos (yes_iff.2 hr), hS.out]
  · rcases (memA_all _ _).1 ht' with h' | h'
    · exact hS.inR t h'
    · exact reach_uses h hr hm h'
  · rcases List.mem_cons.1 hb with rfl | hb
    · rw [hm] at hm'; cases hm'; exact .inr hu
    · exact .inl (hS.uses b hb hrb m' hm' u hu)
theorem scan_no {f : List Mdl} {top : ByteArray} (h : checkN f = 0) (ht : (findM f top).isSome = true) {i : Nat} (hi : i < (orderF f).length) {inn out : List ByteArray} (hS : ScanI f top ((orderF f).drop (i + 1)) inn out) (hin : ¬ (orderF f)[i] ∈ inn) :
    ScanI f top ((orderF f).drop i) inn out := by
  have hr : ¬ Reach f top (orderF f)[i] := fun h' => hin ((scan_inn h ht hi hS).2 h')
  rw [List.drop_eq_getElem_cons hi]
  refine ⟨?_, hS.inR, hS.tin, fun b hb hrb m' hm' u hu => ?_⟩
  · rw [List.filter_cons, if_neg (by rw [yes_no.2 hr]; decide), hS.out]
  · rcases List.mem_cons.1 hb with rfl | hb
    · exact absurd hrb hr
    · exact hS.uses b hb hrb m' hm' u hu
theorem scan_end {f : List Mdl} {top : ByteArray} {inn out : List ByteArray} (hS : ScanI f top ((orderF f).drop 0) inn out) : out = belowN f top := hS.out

/-! ## A file that is changed in one module -/
theorem mem_put {f : List Mdl} {k : Nat} {l : List Itm} {m : Mdl} : m ∈ putM f k l ↔ ∃ j, ∃ h : j < f.length, m = if j = k then ⟨f[j].name, f[j].params, f[j].ports, f[j].items ++ l⟩ else f[j] := by
  unfold putM
  rw [List.mem_mapIdx]
  constructor
  · rintro ⟨j, h, rfl⟩; exact ⟨j, h, rfl⟩
  · rintro ⟨j, h, rfl⟩; exact ⟨j, h, rfl⟩
theorem names_put (f : List Mdl) (k : Nat) (l : List Itm) : namesF (putM f k l) = namesF f := by
  apply List.ext_getElem
  · simp [namesF, putM]
  · intro i h1 h2
    simp only [namesF, putM, List.getElem_map, List.getElem_mapIdx]
    split <;> rfl
theorem put_checkF {f : List Mdl} (h : checkF f = 0) (hsz : msize sizeM f ≤ 2000) {k : Nat} (hk : k < f.length) {it : Itm} (hmay : MayI it) (hz : sizeI it ≤ 10) (hdp : deepI it ≤ 10) : checkF (putM f k [it]) = 0 := by
  obtain ⟨hl, -, hd, hall⟩ := checkF_zero.1 h
  have hmay' := hall f[k] (List.getElem_mem hk)
  have hdm := mdeep_mem deepM f f[k] (List.getElem_mem hk)
  have hsm := msize_mem sizeM f f[k] (List.getElem_mem hk)
  rw [putM_set hk]
  obtain ⟨m, hm⟩ : ∃ m : Mdl, f[k] = m := ⟨_, rfl⟩
  rw [hm] at hmay' hdm hsm ⊢
  have g1 : sizeM ⟨m.name, m.params, m.ports, m.items ++ [it]⟩ = sizeM m + sizeI it := by
    show 1 + msize sizeB m.params + msize sizeP m.ports + msize sizeI (m.items ++ [it]) = 1 + msize sizeB m.params + msize sizeP m.ports + msize sizeI m.items + sizeI it
    rw [msize_append, msize_one]
    omega
  have g2 : deepM ⟨m.name, m.params, m.ports, m.items ++ [it]⟩ ≤ max (deepM m) 11 := by
    show 1 + max (max (mdeep deepB m.params) (mdeep deepP m.ports)) (mdeep deepI (m.items ++ [it])) ≤ max (1 + max (max (mdeep deepB m.params) (mdeep deepP m.ports)) (mdeep deepI m.items)) 11
    rw [mdeep_append, mdeep_one]
    omega
  have q1 := msize_set sizeM ⟨m.name, m.params, m.ports, m.items ++ [it]⟩ f k hk
  have q2 := mdeep_set deepM ⟨m.name, m.params, m.ports, m.items ++ [it]⟩ f k
  rw [hm] at q1
  refine checkF_zero.2 ⟨by rw [List.length_set]; exact hl, by omega, by omega, fun x hx => ?_⟩
  rcases List.mem_or_eq_of_mem_set hx with hx | rfl
  · exact hall x hx
  · refine ⟨hmay'.1, hmay'.2.1, hmay'.2.2.1, fun y hy => ?_⟩
    rcases List.mem_append.1 (show y ∈ m.items ++ [it] from hy) with hy | hy
    · exact hmay'.2.2.2 y hy
    · rw [List.mem_singleton.1 hy]; exact hmay
theorem uses_put (m : Mdl) (it : Itm) (s : ByteArray) : s ∈ usesM ⟨m.name, m.params, m.ports, m.items ++ [it]⟩ ↔ s ∈ usesM m ∨ s ∈ ofI it := by
  rw [mem_uses, mem_uses]
  show s ∈ ofIs (m.items ++ [it]) ↔ _
  rw [ofIs_append, show ofIs [it] = ofI it ++ [] from rfl, List.append_nil, List.mem_append]
theorem ready_congr {out : List ByteArray} {m m' : Mdl} (hn : m.name = m'.name) (hu : ∀ s, s ∈ usesM m ↔ s ∈ usesM m') : readyM out m ↔ readyM out m' := by
  unfold readyM
  rw [hn]
  exact ⟨fun h => ⟨h.1, fun s hs => h.2 s ((hu s).2 hs)⟩, fun h => ⟨h.1, fun s hs => h.2 s ((hu s).1 hs)⟩⟩
/-- Files alike in names and what is used. -/
inductive Alike : List Mdl → List Mdl → Prop
  | nil : Alike [] []
  | cons {m m' : Mdl} {r r' : List Mdl} (h : m.name = m'.name ∧ ∀ s, s ∈ usesM m ↔ s ∈ usesM m') (t : Alike r r') : Alike (m :: r) (m' :: r')
theorem alike_of : ∀ (f g : List Mdl), f.length = g.length → (∀ (i : Nat) (h1 : i < f.length) (h2 : i < g.length), f[i].name = g[i].name ∧ ∀ s, s ∈ usesM f[i] ↔ s ∈ usesM g[i]) → Alike f g
  | [], [], _, _ => .nil
  | [], _ :: _, h, _ => by simp at h
  | _ :: _, [], h, _ => by simp at h
  | a :: r, b :: s, h, hp => .cons (hp 0 (by simp) (by simp)) (alike_of r s (by simpa using h) fun i h1 h2 => hp (i + 1) (by simpa using h1) (by simpa using h2))
/-- They have one order. -/
theorem next_alike {out : List ByteArray} : ∀ {f g : List Mdl}, Alike f g → (nextM f out).map Mdl.name = (nextM g out).map Mdl.name := by
  intro f g h
  induction h with
  | nil => rfl
  | cons hd _ ih =>
    rename_i m m' r r' _
    unfold nextM at ih ⊢
    rw [List.find?_cons, List.find?_cons]
    have he : yes (readyM out m) = yes (readyM out m') := by
      by_cases hr : readyM out m
      · rw [yes_iff.2 hr, yes_iff.2 ((ready_congr hd.1 hd.2).1 hr)]
      · rw [yes_no.2 hr, yes_no.2 fun h' => hr ((ready_congr hd.1 hd.2).2 h')]
    rw [he]
    cases yes (readyM out m') with
    | true => show some m.name = some m'.name; rw [hd.1]
    | false => exact ih
theorem order_alike {f g : List Mdl} (h : Alike f g) : ∀ (n : Nat) (out : List ByteArray), orderN f n out = orderN g n out := by
  intro n
  induction n with
  | zero => intro out; rfl
  | succ n ih =>
    intro out
    have hn := next_alike (out := out) h
    rw [orderN, orderN]
    cases h1 : nextM f out with
    | none =>
      rw [h1] at hn
      cases h2 : nextM g out with
      | none => rfl
      | some m => rw [h2] at hn; cases hn
    | some m =>
      rw [h1] at hn
      cases h2 : nextM g out with
      | none => rw [h2] at hn; cases hn
      | some m' =>
        rw [h2] at hn
        have : m.name = m'.name := by simpa using hn
        show orderN f n (out ++ [m.name]) = orderN g n (out ++ [m'.name])
        rw [this, ih]
theorem forall2_put {f : List Mdl} {k : Nat} {it : Itm} (hof : ofI it = []) : Alike f (putM f k [it]) := by
  refine alike_of _ _ (by simp [putM]) fun i h1 h2 => ?_
  simp only [putM, List.getElem_mapIdx]
  by_cases hi : i = k
  · rw [if_pos hi]
    exact ⟨rfl, fun s => by rw [uses_put, hof]; simp⟩
  · rw [if_neg hi]
    exact ⟨rfl, fun s => Iff.rfl⟩
theorem not_all {m : Mdl} {s : ByteArray} (h : ¬ s ∈ allM m) : ¬ s ∈ allIs m.items ∧ ¬ s ∈ ownN m := by
  unfold allM at h
  rw [memA_all, memA_all, memA_all] at h
  have h1 : ¬ s ∈ allIs m.items := fun h' => h (.inl (.inl (.inr h')))
  refine ⟨h1, fun h' => ?_⟩
  rcases List.mem_append.1 h' with h' | h'
  · exact h1 (tns_all s h')
  · rcases List.mem_append.1 h' with h' | h'
    · exact h (.inl (.inr h'))
    · exact h (.inr h')
/-- The scopes of a module with an item more, whose name stands nowhere in it. -/
theorem put_right {m : Mdl} {it : Itm} {nm : ByteArray} (h : rightM m) (htn : tnI it = [nm]) (htok : tokI it) (hno : ¬ nm ∈ allM m) (hin : inI (fun s => s ∈ ownN m ∨ s = nm) it) : rightM ⟨m.name, m.params, m.ports, m.items ++ [it]⟩ := by
  obtain ⟨h1, h2, h3⟩ := h
  obtain ⟨ha, hb⟩ := not_all hno
  have ho : ownN ⟨m.name, m.params, m.ports, m.items ++ [it]⟩ = tnIs m.items ++ ([nm] ++ (m.ports.map Prt.name ++ m.params.map Bnd.name)) := by
    show tnIs (m.items ++ [it]) ++ _ = _
    rw [tnIs_append, tnIs_one, htn, List.append_assoc]
  have hmem : ∀ s, s ∈ ownN ⟨m.name, m.params, m.ports, m.items ++ [it]⟩ ↔ s ∈ ownN m ∨ s = nm := by
    intro s
    rw [ho]
    unfold ownN
    simp only [List.mem_append, List.mem_singleton]
    constructor
    · rintro (h | h | h)
      · exact .inl (.inl h)
      · exact .inr h
      · exact .inl (.inr h)
    · rintro ((h | h) | h)
      · exact .inl h
      · exact .inr (.inr h)
      · exact .inr (.inl h)
  refine ⟨?_, ?_, ?_⟩
  · show tokIs (m.items ++ [it])
    rw [tokIs_append, tokIs_one]
    exact ⟨h1, htok⟩
  · rw [ho]
    have hp : (tnIs m.items ++ ([nm] ++ (m.ports.map Prt.name ++ m.params.map Bnd.name))).Perm (nm :: ownN m) := List.perm_middle
    rw [hp.nodup_iff]
    exact List.nodup_cons.2 ⟨hb, h2⟩
  · show inIs _ (m.items ++ [it])
    rw [inIs_append]
    exact ⟨(ins_congr hmem _).2 (ins_more m.items ha h3), (ins_congr hmem [it]).2 ⟨hin, trivial⟩⟩
theorem put_70 {f : List Mdl} (h : checkN f = 0) (hsz : msize sizeM f ≤ 2000) {k : Nat} (hk : k < f.length) {it : Itm} (hmay : MayI it) (hz : sizeI it ≤ 10) (hdp : deepI it ≤ 10) (hof : ofI it = []) :
    checkN (putM f k [it]) = if yes (∀ m, m ∈ putM f k [it] → rightM m) then 0 else 70 := by
  obtain ⟨hF, hn, hr, hu, hlen⟩ := check_facts h
  have hc := put_checkF hF hsz hk hmay hz hdp
  rw [checkN_of hc]
  have hnd : (namesF (putM f k [it])).Nodup := by rw [names_put]; exact hn
  by_cases hall : ∀ m, m ∈ putM f k [it] → rightM m
  · rw [if_pos (yes_iff.2 hall), ok_end ⟨hnd, hall⟩ fun m hm s hs => ?_]
    · have ho : orderF (putM f k [it]) = orderF f := by
        unfold orderF
        rw [show (putM f k [it]).length = f.length by simp [putM]]
        exact (order_alike (forall2_put hof) _ _).symm
      rw [ho, if_neg (by rw [hlen]; simp [putM])]
    · rw [names_put]
      obtain ⟨j, hj, rfl⟩ := mem_put.1 hm
      by_cases hjk : j = k
      · rw [if_pos hjk, uses_put, hof] at hs
        exact hu _ (List.getElem_mem hj) s (by simpa using hs)
      · rw [if_neg hjk] at hs
        exact hu _ (List.getElem_mem hj) s hs
  · rw [if_neg (by rw [yes_no.2 hall]; decide)]
    exact ok_70 fun h' => hall h'.2
theorem put_fresh {f : List Mdl} (h : checkN f = 0) (hsz : msize sizeM f ≤ 2000) {k : Nat} (hk : k < f.length) {it : Itm} {nm : ByteArray} (hmay : MayI it) (hz : sizeI it ≤ 10) (hdp : deepI it ≤ 10) (hof : ofI it = []) (htn : tnI it = [nm]) (htok : tokI it) (hno : ¬ nm ∈ allM f[k]) (hin : inI (fun s => s ∈ ownN f[k] ∨ s = nm) it) :
    checkN (putM f k [it]) = 0 := by
  rw [put_70 h hsz hk hmay hz hdp hof, if_pos]
  rw [yes_iff]
  intro m hm
  obtain ⟨-, -, hr, -, -⟩ := check_facts h
  obtain ⟨j, hj, rfl⟩ := mem_put.1 hm
  by_cases hjk : j = k
  · subst hjk
    rw [if_pos rfl]
    exact put_right (hr _ (List.getElem_mem hj)) htn htok hno hin
  · rw [if_neg hjk]; exact hr _ (List.getElem_mem hj)
theorem fresh_wire {f : List Mdl} (h : checkN f = 0) (hsz : msize sizeM f ≤ 2000) {k : Nat} (hk : k < f.length) {nm : ByteArray} (hnm : nameP nm) : (checkN (putM f k [iW nm]) = 0 ∨ checkN (putM f k [iW nm]) = 70) ∧ (¬ nm ∈ allM f[k] → checkN (putM f k [iW nm]) = 0) := by
  refine ⟨?_, fun hno => put_fresh h hsz hk (may_iW hnm) (show (2 : Nat) ≤ 10 by decide) (show (2 : Nat) ≤ 10 by decide) rfl rfl ((tokI_eq _).2 fun e => absurd e (show ¬ (2 : Int) = 8 by decide)) hno ?_⟩
  · rw [put_70 h hsz hk (may_iW hnm) (show (2 : Nat) ≤ 10 by decide) (show (2 : Nat) ≤ 10 by decide) rfl]
    cases yes (∀ m, m ∈ putM f k [iW nm] → rightM m) with
    | true => exact .inl rfl
    | false => exact .inr rfl
  · rw [inI_eq]
    exact ⟨trivial, fun e => absurd e (show ¬ (2 : Int) = 8 by decide), fun e => absurd e (show ¬ (2 : Int) = 9 by decide)⟩
theorem fresh_for {f : List Mdl} (h : checkN f = 0) (hsz : msize sizeM f ≤ 2000) {k : Nat} (hk : k < f.length) {nm of : ByteArray} (hnm : nameP nm) (hof : nameP of) (hne : ¬ of = nm) (hno : ¬ nm ∈ allM f[k]) (hno2 : ¬ of ∈ allM f[k]) : checkN (putM f k [iFor nm of []]) = 0 := by
  refine put_fresh h hsz hk (may_iFor.2 ⟨hnm, hof, fun y hy => by cases hy⟩) (by rw [size_iFor]; decide) (by rw [deep_iFor]; decide) (of_iFor nm of []) (tn_iFor nm of []) (tok_iFor nm of []) hno (in_iFor.2 ⟨⟨trivial, by simp [tnIs]⟩, by simp [tnIs], fun t ht hc => ?_, trivial⟩)
  rcases ht with ht | rfl
  · cases ht
  · rcases hc with hc | hc
    · exact (not_all hno2).2 hc
    · exact hne hc

/-! ## A ring -/
def iInst (nm of : ByteArray) : Itm := .mk 7 nm of [] [] [] [] [] []
theorem may_iInst {nm of : ByteArray} (hn : nameP nm) (h : nameP of) : MayI (iInst nm of) := by
  have hu := may_iU h
  obtain ⟨ho, -⟩ := MayI_iff.1 hu
  obtain ⟨a, b, c, d, e⟩ := ho
  exact .mk _ ⟨a, b, .inl ⟨(show (7 : Int) ≠ 4 ∧ (7 : Int) ≠ 5 ∧ (7 : Int) ≠ 6 ∧ (7 : Int) ≠ 8 by decide), hn⟩, d, e⟩ (fun y hy => by cases hy) (fun y hy => by cases hy) (fun y hy => by cases hy) (fun y hy => by cases hy) (fun y hy => by cases hy) (fun y hy => by cases hy)
theorem ring_law {f : List Mdl} (h : checkN f = 0) (hsz : msize sizeM f ≤ 2000) {k : Nat} (hk : k < f.length) {nm top : ByteArray} (hnm : nameP nm) (ht : (findM f top).isSome = true) (hr : Reach f top f[k].name) (hno : ¬ nm ∈ allM f[k]) : checkN (putM f k [iInst nm top]) = 72 := by
  obtain ⟨hF, hn, hri, hu, hlen⟩ := check_facts h
  have htop := find_isSome.1 ht
  have hntop : nameP top := by
    obtain ⟨m, hm, rfl⟩ := List.mem_map.1 htop
    exact ((checkF_zero.1 hF).2.2.2 m hm).1
  have hc := put_checkF hF hsz hk (may_iInst hnm hntop) (show (1 : Nat) ≤ 10 by decide) (show (1 : Nat) ≤ 10 by decide)
  have hnd : (namesF (putM f k [iInst nm top])).Nodup := by rw [names_put]; exact hn
  have hof : ofI (iInst nm top) = [top] := rfl
  have hall : ∀ m, m ∈ putM f k [iInst nm top] → rightM m := by
    intro m hm
    obtain ⟨j, hj, rfl⟩ := mem_put.1 hm
    by_cases hjk : j = k
    · subst hjk
      rw [if_pos rfl]
      refine put_right (hri _ (List.getElem_mem hj)) rfl ((tokI_eq _).2 fun e => absurd e (show ¬ (7 : Int) = 8 by decide)) hno ?_
      rw [inI_eq]
      exact ⟨trivial, fun e => absurd e (show ¬ (7 : Int) = 8 by decide), fun e => absurd e (show ¬ (7 : Int) = 9 by decide)⟩
    · rw [if_neg hjk]; exact hri _ (List.getElem_mem hj)
  rw [checkN_of hc, ok_end ⟨hnd, hall⟩ fun m hm s hs => ?_]
  · rw [if_pos]
    have hg := (orderF_end (putM f k [iInst nm top])).1
    obtain ⟨o, ho⟩ : ∃ o, orderF (putM f k [iInst nm top]) = o := ⟨_, rfl⟩
    rw [ho] at hg ⊢
    rcases Nat.lt_or_ge o.length (putM f k [iInst nm top]).length with hlt | hge
    · exact hlt
    exfalso
    have hin : ∀ s, s ∈ namesF f → s ∈ o := fun s hs => all_in hg.nodup hg.sub (by simp [namesF]; exact hge) s (by rw [names_put]; exact hs)
    -- the module of a name, in the changed file, comes behind what the module uses in the first
    have hpre : ∀ b m, findM f b = some m → ∀ i (hi : i < o.length), o[i] = b → ∀ s, (s ∈ usesM m ∨ b = f[k].name ∧ s = top) → s ∈ o.take i := by
      intro b m hb i hi hib s hs
      obtain ⟨m', hm', hn', hu'⟩ := hg.pre i hi
      refine hu' s ?_
      obtain ⟨hbf, hbn⟩ := find_spec2 hb
      obtain ⟨j, hj, rfl⟩ := mem_put.1 hm'
      have hjn : f[j].name = b := by
        rw [← hib, ← hn']
        by_cases hjk : j = k
        · rw [if_pos hjk]
        · rw [if_neg hjk]
      have hfm : f[j] = m := name_once hn _ (List.getElem_mem hj) _ hbf (hjn.trans hbn.symm)
      by_cases hjk : j = k
      · rw [if_pos hjk, uses_put, hof, hfm]
        rcases hs with hs | ⟨-, rfl⟩
        · exact .inl hs
        · exact .inr (List.mem_singleton.2 rfl)
      · rw [if_neg hjk, hfm]
        rcases hs with hs | ⟨hs, -⟩
        · exact hs
        · have := name_once hn _ (List.getElem_mem hj) _ (List.getElem_mem hk) (hjn.trans hs)
          have hnj : (namesF f)[j]'(by simp [namesF]; exact hj) = (namesF f)[k]'(by simp [namesF]; exact hk) := by simp [namesF, this]
          exact absurd (nodup_inj hn hnj) hjk
    have hle : ∀ b, Reach f top b → ∀ i (hi : i < o.length), o[i] = b → ∀ j (hj : j < o.length), o[j] = top → i ≤ j := by
      intro b hb
      induction hb with
      | refl => intro i hi hib j hj hjt; exact Nat.le_of_eq (nodup_inj hg.nodup (hib.trans hjt.symm))
      | step hb hm hc' hs ih =>
        rename_i b c m
        intro i hi hib j hj hjt
        obtain ⟨q, hq, hqb⟩ := List.getElem_of_mem (hin b (find_isSome.1 (hb.isIn ht)))
        have h1 := ih q hq hqb j hj hjt
        have h2 := hpre b m hm q hq hqb c (.inl hc')
        obtain ⟨p, hp, hpc⟩ := List.getElem_of_mem h2
        rw [List.length_take] at hp
        rw [List.getElem_take] at hpc
        have : p = i := nodup_inj hg.nodup (hpc.trans hib.symm)
        omega
    have hkn : f[k].name ∈ namesF f := List.mem_map.2 ⟨_, List.getElem_mem hk, rfl⟩
    obtain ⟨i, hi, hik⟩ := List.getElem_of_mem (hin _ hkn)
    obtain ⟨j, hj, hjt⟩ := List.getElem_of_mem (hin _ htop)
    have h1 := hle _ hr i hi hik j hj hjt
    have h2 := hpre _ _ (find_mem hn (List.getElem_mem hk)) i hi hik top (.inr ⟨rfl, rfl⟩)
    obtain ⟨p, hp, hpc⟩ := List.getElem_of_mem h2
    rw [List.length_take] at hp
    rw [List.getElem_take] at hpc
    have : p = j := nodup_inj hg.nodup (hpc.trans hjt.symm)
    omega
  · rw [names_put]
    obtain ⟨j, hj, rfl⟩ := mem_put.1 hm
    by_cases hjk : j = k
    · rw [if_pos hjk, uses_put, hof] at hs
      rcases hs with hs | hs
      · exact hu _ (List.getElem_mem hj) s hs
      · rw [List.mem_singleton.1 hs]; exact htop
    · rw [if_neg hjk] at hs
      exact hu _ (List.getElem_mem hj) s hs

end Go.Proofs.YtjoglnjpgkobeaaGreatDoor

/-
  THE LAWS OF NAMES (Fresh, Ring, and so on): what is known of values in regions that draw their order; a name as an expression; All.
-/
namespace Go.Proofs.YtjoglnjpgkobeaaGreatDoor
open Go Go.RowKit
set_option linter.all false
set_option linter.unusedVariables false
set_option linter.unusedSimpArgs false
set_option linter.unusedVariables false
set_option linter.unusedSimpArgs false
attribute [local go_sem] run_store_one

/-- Values that are all known. -/
def eqF (vals : List Value) (i : Nat) (v : Value) (_ : World) : Prop := v = vals.getD i undef
theorem eqF_ext {vals : List Value} {i : Nat} {v : Value} {w w' : World} (h : eqF vals i v w) (hx : Ext w w') : eqF vals i v w' := h
/-- A name, as an expression. -/
def xName (nm : ByteArray) : X := .mk 2 nm 0 0 0 []
theorem vx_xName {nm : ByteArray} (h : nm.size < 4294967281) : VX (xName nm) := .mk _ (show (0 : Int) ≤ 0 by decide) (show (0 : Int) < 18446744073709551616 by decide) h (fun y hy => by cases hy)
theorem rx_xName {w : World} {B : Nat} (nm : ByteArray) : RX w B (xName nm) [.int .i64 2, .string nm, .int .i64 0, .int .i64 0, .int .u64 0, .slice none 0 0] := RX_iff.2 ⟨_, rfl, Sl.nil⟩
theorem told_name {nm : ByteArray} (h : told (sizeX (xName nm)) (deepX (xName nm)) (yes (MayX (xName nm))) = 0) : nameP nm := by
  unfold told at h
  split at h
  · cases h
  · split at h
    · rename_i h1
      obtain ⟨⟨-, -, -, h2⟩, -⟩ := MayX_iff.1 (yes_iff.1 h1)
      rcases h2 with h2 | h2
      · exact h2.2
      · exact absurd (show isNamed 2 from .inl rfl) h2.1
    · cases h
theorem allM_len {m : Mdl} : (allM m).length ≤ 2 * sizeM m := by
  have h1 := allIs_len m.items
  have h2 := addAll_le (allIs m.items) []
  have h3 := addAll_le (m.ports.map Prt.name) (addAll [] (allIs m.items))
  have h4 := addAll_le (m.params.map Bnd.name) (addAll (addAll [] (allIs m.items)) (m.ports.map Prt.name))
  have h5 := length_le_msize sizeB m.params sizeB_pos
  have h6 := length_le_msize sizeP m.ports sizeP_pos
  have hme : sizeM m = 1 + msize sizeB m.params + msize sizeP m.ports + msize sizeI m.items := rfl
  rw [List.length_map] at h3 h4
  unfold allM
  simp at h2
  omega
theorem putM_size {f : List Mdl} {k : Nat} (hk : k < f.length) (it : Itm) : msize sizeM (putM f k [it]) = msize sizeM f + sizeI it := by
  rw [putM_set hk]
  have h1 := msize_set sizeM ⟨f[k].name, f[k].params, f[k].ports, f[k].items ++ [it]⟩ f k hk
  have h2 : sizeM ⟨f[k].name, f[k].params, f[k].ports, f[k].items ++ [it]⟩ = sizeM f[k] + sizeI it := by
    show 1 + msize sizeB f[k].params + msize sizeP f[k].ports + msize sizeI (f[k].items ++ [it]) = 1 + msize sizeB f[k].params + msize sizeP f[k].ports + msize sizeI f[k].items + sizeI it
    rw [msize_append, msize_one]
    omega
  omega
theorem putM_vm {f : List Mdl} {k : Nat} (hk : k < f.length) {it : Itm} (h : ∀ m, m ∈ f → VM m) (hi : VI it) : ∀ m, m ∈ putM f k [it] → VM m := by
  intro m hm
  obtain ⟨j, hj, rfl⟩ := mem_put.1 hm
  obtain ⟨h1, h2, h3, h4⟩ := h _ (List.getElem_mem hj)
  by_cases hjk : j = k
  · rw [if_pos hjk]
    refine ⟨h1, h2, h3, fun y hy => ?_⟩
    rcases List.mem_append.1 (show y ∈ f[j].items ++ [it] from hy) with hy | hy
    · exact h4 y hy
    · rw [List.mem_singleton.1 hy]; exact hi
  · rw [if_neg hjk]; exact ⟨h1, h2, h3, h4⟩
theorem vi_iInst {nm of : ByteArray} (h1 : nm.size < 4294967281) (h2 : of.size < 4294967281) : VI (iInst nm of) := .mk _ h1 h2 (fun y hy => by cases hy) (fun y hy => by cases hy) (fun y hy => by cases hy) (fun y hy => by cases hy) (fun y hy => by cases hy) (fun y hy => by cases hy)
def cInst (nm of : ByteArray) : List Value := [.int .i64 7, .string nm, .string of, .slice none 0 0, .slice none 0 0, .slice none 0 0, .slice none 0 0, .slice none 0 0, .slice none 0 0]
theorem one_cInst (nm of : ByteArray) : ∀ u ∈ cInst nm of, u.oneCell' = true := by
  intro u hu
  simp only [cInst, List.mem_cons, List.not_mem_nil, or_false] at hu
  rcases hu with rfl | rfl | rfl | rfl | rfl | rfl | rfl | rfl | rfl <;> rfl
theorem ri_iInst {w : World} {B : Nat} (nm of : ByteArray) : RI w B (iInst nm of) (cInst nm of) := RI_iff.2 ⟨_, _, _, _, _, _, rfl, Sl.nil, Sl.nil, Sl.nil, Sl.nil, Sl.nil, Sl.nil⟩
/-- What is known of the values where an item is put into a module, and the file asked. -/
def rgF (f : List Mdl) (k : Nat) (it : Itm) (ci : List Value) (vals : List Value) (b9 b10 b8 : Nat) (i : Nat) (v : Value) (w : World) : Prop :=
  if i = b9 then ∃ g, v = .slice (some ⟨g, 0, none⟩) 1 1 ∧ Blk w g 53 ci
  else if i = b10 then ∃ v', v = .agg #[v'] ∧ Sl (RM w w.heap.size) w w.heap.size 4 (putM f k [it]) v'
  else v = vals.getD i undef
theorem rgF_ext {f : List Mdl} {k : Nat} {it : Itm} {ci vals : List Value} {b9 b10 b8 : Nat} {i : Nat} {v : Value} {w w' : World} (h : rgF f k it ci vals b9 b10 b8 i v w) (hx : Ext w w') : rgF f k it ci vals b9 b10 b8 i v w' := by
  unfold rgF at *
  by_cases h9 : i = b9
  · rw [if_pos h9] at *; obtain ⟨g, h1, h2⟩ := h; exact ⟨g, h1, h2.ext hx⟩
  · rw [if_neg h9] at *
    by_cases h10 : i = b10
    · rw [if_pos h10] at *; obtain ⟨v', h1, h2⟩ := h; exact ⟨v', h1, (h2.extRM hx (Nat.le_refl _)).moreRM hx.size⟩
    · rw [if_neg h10] at *; exact h

end Go.Proofs.YtjoglnjpgkobeaaGreatDoor

/-
  TREES DO NOT LIE IN A BLOCK OF ONE CELL: a store there changes none.
-/
namespace Go.Proofs.YtjoglnjpgkobeaaGreatDoor
open Go Go.RowKit
set_option linter.all false
set_option linter.unusedVariables false
set_option linter.unusedSimpArgs false
set_option linter.unusedVariables false
set_option linter.unusedSimpArgs false

theorem ElemAt.skip {w w' : World} {B B' g : Nat} {t : TypeId} {u : Value} (hb : Blk w g t [u]) (hw : ∀ p : Addr, p.block ≠ g → w'.cell? p = w.cell? p) (hB : B ≤ B') {a : Option Addr} {sz k : Nat} {R R' : List Value → Prop} (h : ElemAt w B a sz k R) (h2 : 2 ≤ sz) (hR : ∀ cs, R cs → R' cs) : ElemAt w' B' a sz k R' := by
  obtain ⟨b, o, cs, ha, hbB, hl, hc, h1, hr⟩ := h
  have hne : b ≠ g := by
    rintro rfl
    have hj : 1 < cs.length := by omega
    have h3 := hc 1 cs[1] (List.getElem?_eq_getElem hj)
    unfold Blk at hb
    simp [World.cell?, hb] at h3
  exact ⟨b, o, cs, ha, by omega, hl, fun j v hv => (hw _ hne).trans (hc j v hv), h1, hR _ hr⟩
theorem Sl.skip {α : Type} {R R' : α → List Value → Prop} {w w' : World} {B B' g : Nat} {t : TypeId} {u : Value} (hb : Blk w g t [u]) (hw : ∀ p : Addr, p.block ≠ g → w'.cell? p = w.cell? p) (hB : B ≤ B') {sz : Nat} {l : List α} {v : Value} (h : Sl R w B sz l v) (h2 : 2 ≤ sz)
    (hR : ∀ y, y ∈ l → ∀ cs, R y cs → R' y cs) : Sl R' w' B' sz l v := by
  obtain ⟨a, cap, hv, hc, hr⟩ := h
  exact ⟨a, cap, hv, hc, fun k hk => (hr k hk).skip hb hw hB h2 (hR _ (List.getElem_mem hk))⟩
section
variable {w w' : World} {B B' g : Nat} {t : TypeId} {u : Value} (hb : Blk w g t [u]) (hw : ∀ p : Addr, p.block ≠ g → w'.cell? p = w.cell? p) (hB : B ≤ B')
include hb hw hB
theorem RX.skip (x : X) : ∀ cs, RX w B x cs → RX w' B' x cs := by
  induction x using X.ind with
  | h x ih =>
    intro cs h
    obtain ⟨v, rfl, hr⟩ := RX_iff.1 h
    exact RX_iff.2 ⟨v, rfl, hr.skip hb hw hB (by decide) ih⟩
theorem RS.skip (x : S) : ∀ cs, RS w B x cs → RS w' B' x cs := by
  induction x using S.ind with
  | h x ih =>
    intro cs h
    obtain ⟨v2, v3, rfl, h2, h3⟩ := RS_iff.1 h
    exact RS_iff.2 ⟨v2, v3, rfl, h2.skip hb hw hB (by decide) (fun y _ => RX.skip hb hw hB y), h3.skip hb hw hB (by decide) ih⟩
theorem RB.skip (x : Bnd) : ∀ cs, RB w B x cs → RB w' B' x cs := by
  rintro cs ⟨c, rfl, h⟩
  exact ⟨c, rfl, RX.skip hb hw hB _ _ h⟩
theorem RP.skip (x : Prt) : ∀ cs, RP w B x cs → RP w' B' x cs := by
  rintro cs ⟨c, rfl, h⟩
  exact ⟨c, rfl, RX.skip hb hw hB _ _ h⟩
theorem RI.skip (x : Itm) : ∀ cs, RI w B x cs → RI w' B' x cs := by
  induction x using Itm.ind with
  | h x ih1 ih2 =>
    intro cs h
    obtain ⟨v3, v4, v5, v6, v7, v8, rfl, h3, h4, h5, h6, h7, h8⟩ := RI_iff.1 h
    exact RI_iff.2 ⟨v3, v4, v5, v6, v7, v8, rfl, h3.skip hb hw hB (by decide) (fun y _ => RX.skip hb hw hB y), h4.skip hb hw hB (by decide) (fun y _ => RS.skip hb hw hB y), h5.skip hb hw hB (by decide) ih1, h6.skip hb hw hB (by decide) ih2,
      h7.skip hb hw hB (by decide) (fun y _ => RB.skip hb hw hB y), h8.skip hb hw hB (by decide) (fun y _ => RB.skip hb hw hB y)⟩
theorem RM.skip (x : Mdl) : ∀ cs, RM w B x cs → RM w' B' x cs := by
  rintro cs ⟨v1, v2, v3, rfl, h1, h2, h3⟩
  exact ⟨v1, v2, v3, rfl, h1.skip hb hw hB (by decide) (fun y _ => RB.skip hb hw hB y), h2.skip hb hw hB (by decide) (fun y _ => RP.skip hb hw hB y), h3.skip hb hw hB (by decide) (fun y _ => RI.skip hb hw hB y)⟩
end
/-- A file, behind a store in a box of one cell. -/
theorem Sl.storeM {w : World} {g : Nat} {t : TypeId} {u v' : Value} {l : List Mdl} {v : Value} (h : Sl (RM w w.heap.size) w w.heap.size 4 l v) (hb : Blk w g t [u]) : Sl (RM (w.setCell ⟨g, 0, none⟩ v') (w.setCell ⟨g, 0, none⟩ v').heap.size) (w.setCell ⟨g, 0, none⟩ v') (w.setCell ⟨g, 0, none⟩ v').heap.size 4 l v := by
  have hz : (w.setCell ⟨g, 0, none⟩ v').heap.size = w.heap.size := by simp
  have hw : ∀ p : Addr, p.block ≠ g → (w.setCell ⟨g, 0, none⟩ v').cell? p = w.cell? p := fun p hp => World.cell?_of_block (Below.heap_setCell w ⟨g, 0, none⟩ v' p.block hp)
  exact h.skip hb hw (Nat.le_of_eq hz.symm) (by decide) (fun y _ => RM.skip hb hw (Nat.le_of_eq hz.symm) y)

end Go.Proofs.YtjoglnjpgkobeaaGreatDoor
