/-
  THE CONTRACTS OF WHAT ASKS WHETHER A TEXT IS A WORD, OR A NAME.
-/
import Derived.WalkSpells
import Derived.WalkLawsBesides
import Derived.Laws.IdiomStrings
import Derived.Test.YtjoglnjpgkobeaaGreatDoorProg
import Derived.Test.YtjoglnjpgkobeaaGreatDoorWordPk
import Derived.Test.YtjoglnjpgkobeaaGreatDoorSamePk
import Derived.Test.YtjoglnjpgkobeaaGreatDoorShelfPk
namespace Go.Proofs.YtjoglnjpgkobeaaGreatDoor
open Go Go.RowKit
set_option linter.all false
set_option linter.unusedVariables false
set_option linter.unusedSimpArgs false
set_option linter.unusedVariables false
set_option linter.unusedSimpArgs false
attribute [local go_sem] run_store_one

/-- What the library's variable holds. -/
def LibOk (w : World) : Prop := ∃ m : Int, w.cell? ⟨2, 0, none⟩ = some (.int .i64 m)
theorem LibOk.ext {w w' : World} (h : LibOk w) (hx : Ext w w') : LibOk w' := by
  obtain ⟨m, hm⟩ := h
  exact ⟨m, hx.at_ hm⟩

set_option maxRecDepth 20000 in
set_option maxHeartbeats 1000000 in
theorem among_any (l s : ByteArray) (w : World) (hL : LibOk w) (hl : l.size < 4294967281) (hs : s.size < 4294967281) :
    Calls Tryz.prog 136 #[.string l, .string s] w fun e w' => e = .returned (.bool (s.data.toList != [] && (!Lib.contains s.data.toList [32] && Lib.contains l.data.toList (32 :: (s.data.toList ++ [32]))))) ∧ w' = w := by
  obtain ⟨m, hm⟩ := hL
  obtain ⟨r, hr⟩ : ∃ r, r = (s.data.toList != [] && (!Lib.contains s.data.toList [32] && Lib.contains l.data.toList (32 :: (s.data.toList ++ [32])))) := ⟨_, rfl⟩
  rw [← hr]
  have R := hide hr
  clear hr
  go_enter Tryz.func136, Tryz.ntmps136
  by_cases h0 : s.toList = []
  · have hr : r = false := by rw [R.out, ← ByteArray.toList_eq, h0]; rfl
    subst hr
    go_wp2_with fail
    go_ret
    exact ⟨rfl, rfl⟩
  · have h1 : s.data.toList ≠ [] := by rw [← ByteArray.toList_eq]; exact h0
    have h2 : s.toList.isEmpty = false := by cases h : s.toList with | nil => exact (h0 h).elim | cons _ _ => rfl
    go_wp2_with fail
    refine (Tryz.strings_Contains _ _ m _ hs hm).mono ?_
    rintro e w1 ⟨rfl, rfl⟩
    have hb : (s.data.toList != []) = true := by simpa using h1
    cases hc : Lib.contains s.data.toList [32] with
    | true =>
      have hr : r = false := by rw [R.out, hc]; simp
      subst hr
      simp only [show (⟨#[32]⟩ : ByteArray).data.toList = [32] from rfl, hc]
      go_wp2_with fail
      go_ret
      exact ⟨rfl, rfl⟩
    | false =>
      have hr : r = Lib.contains l.data.toList (32 :: (s.data.toList ++ [32])) := by rw [R.out, hc, hb]; simp
      simp only [show (⟨#[32]⟩ : ByteArray).data.toList = [32] from rfl, hc]
      go_wp2_with fail
      refine (Tryz.strings_Contains _ _ m _ hl hm).mono ?_
      rintro e w1 ⟨rfl, rfl⟩
      go_wp2_with fail
      go_ret
      exact ⟨by rw [hr]; rfl, rfl⟩

set_option maxRecDepth 20000 in
set_option maxHeartbeats 1000000 in
theorem word_any (s : ByteArray) (w : World) (hL : LibOk w) (hs : s.size < 4294967281) :
    Calls Tryz.prog 124 #[.string s] w fun e w' => e = .returned (.bool (isWord s)) ∧ w' = w := by
  have hw := word_iff s.data.toList
  unfold isWord
  rw [← hw]
  go_enter Tryz.func124, Tryz.ntmps124
  go_wp2_with fail
  refine (among_any _ s w hL (by decide) hs).mono ?_
  rintro e w1 ⟨rfl, rfl⟩
  go_wp2_with fail
  go_ret
  exact ⟨rfl, rfl⟩

set_option maxRecDepth 100000 in
theorem low_bits : ∀ n : Fin 256, (bits .or .u8 (n.val : Int) 32 < 97 ∨ 122 < bits .or .u8 (n.val : Int) 32) ↔ ¬ (97 ≤ n.val ∧ n.val ≤ 122 ∨ 65 ≤ n.val ∧ n.val ≤ 90) := by decide

set_option maxRecDepth 20000 in
set_option maxHeartbeats 2000000 in
theorem name_any (s : ByteArray) (w : World) (hL : LibOk w) (hs : s.size < 4294967281) :
    Calls Tryz.prog 105 #[.string s] w fun e w' => e = .returned (.bool (nameOk s)) ∧ Ext w w' := by
  obtain ⟨r, hr⟩ : ∃ r, r = nameOk s := ⟨_, rfl⟩
  rw [← hr]
  have R := hide hr
  clear hr
  have hconv := run_bytes_of_string w 9 148 5 s (P := Tryz.prog) (by kernel_rfl) (by kernel_rfl) (by kernel_rfl)
  obtain ⟨cap, hcap⟩ : ∃ c, c = grownCap w s.size 0 5 := ⟨_, rfl⟩
  rw [← hcap] at hconv
  obtain ⟨W1, hW1⟩ : ∃ W1, W1 = w.drew.alloc (.cells (bytesRow s cap) 5 ((bytesRow s cap).size, (bytesRow s cap).size + 1)) := ⟨_, rfl⟩
  have hx : Ext w W1 := by rw [hW1]; exact (Ext.refl w).drew.alloc _
  have hcell : ∀ (j : Nat) (hj : j < s.data.size), W1.cell? ⟨w.heap.size, j, none⟩ = some (.int .u8 (s.data[j].toNat : Int)) := fun j hj => by
    rw [hW1]
    exact (World.cell?_alloc_mark w.drew (bytesRow s cap) 5 _ j).trans (bytesRow_at s cap j hj)
  rw [← hW1] at hconv
  clear hW1 hcap
  have HC := hide hcell
  clear hcell
  go_enter Tryz.func105, Tryz.ntmps105
  go_wp2_with fail
  go_loopw [8] (fun i wr => ∃ k : Nat, k ≤ s.size ∧ i = .int .i64 k ∧ (∀ (j : Nat) (h : j < s.size), j < k → okAt j s.data[j] = true) ∧ wr = W1) (fun i _ => s.size - (intOf i).toNat)
  case atStart => exact ⟨0, Nat.zero_le _, rfl, fun j h h0 => by omega, rfl⟩
  case round =>
    obtain ⟨k, hk, rfl, hpre, rfl⟩ := hrel
    by_cases hlt : k < s.size
    · have hck := HC.out k hlt
      have hno := fun (h : okAt k s.data[k] = false) => nameOk_no (s := s) (fun hn => by have := hn.2.2.1 k hlt; rw [h] at this; cases this)
      have hyes := fun (h : okAt k s.data[k] = true) (j : Nat) (hj : j < s.size) (hjk : j < k + 1) => show okAt j s.data[j] = true by
        by_cases e : j = k
        · subst e; exact h
        · exact hpre j hj (by omega)
      have NO := hide hno
      have YES := hide hyes
      clear hno hyes hpre
      generalize s.data[k] = c at *
      have hlow := low_bits ⟨c.toNat, c.toNat_lt⟩
      simp only at hlow
      obtain ⟨bb, hbb⟩ : ∃ b, b = bits .or .u8 (c.toNat : Int) 32 := ⟨_, rfl⟩
      rw [← hbb] at hlow
      have HB := hide hlow
      have hbb' := hbb.symm
      clear hlow hbb
      by_cases f0 : (c.toNat : Int) = 95
      · have f0b : ((c.toNat : Int) == 95) = true := by simpa using f0
        have hnx := hide (YES.out (okAt_iff.2 (by have := HB.out; omega)))
        go_wp2_with fail
        exact ⟨⟨k + 1, by omega, by go_num, hnx.out, trivial⟩, by simp [intOf]; omega⟩
      · have f0b : ((c.toNat : Int) == 95) = false := by simpa using f0
        by_cases f1 : bb < 97
        · by_cases e0 : (k : Int) = 0
          · have e0b : ((k : Int) == 0) = true := by simpa using e0
            obtain rfl : k = 0 := by omega
            clear e0 e0b
            have hr : r = false := by rw [R.out, NO.out (okAt_no (by have := HB.out; omega))]
            subst hr
            go_wp2_with fail
            go_ret
            exact ⟨rfl, hx⟩
          · have e0b : ((k : Int) == 0) = false := by simpa using e0
            by_cases e1 : (c.toNat : Int) < 48
            · have hr : r = false := by rw [R.out, NO.out (okAt_no (by have := HB.out; omega))]
              subst hr
              go_wp2_with fail
              go_ret
              exact ⟨rfl, hx⟩
            · by_cases e2 : 57 < (c.toNat : Int)
              · have hr : r = false := by rw [R.out, NO.out (okAt_no (by have := HB.out; omega))]
                subst hr
                go_wp2_with fail
                go_ret
                exact ⟨rfl, hx⟩
              · have hnx := hide (YES.out (okAt_iff.2 (by have := HB.out; omega)))
                go_wp2_with fail
                exact ⟨⟨k + 1, by omega, by go_num, hnx.out, trivial⟩, by simp [intOf]; omega⟩
        · by_cases f2 : 122 < bb
          · by_cases e0 : (k : Int) = 0
            · have e0b : ((k : Int) == 0) = true := by simpa using e0
              obtain rfl : k = 0 := by omega
              clear e0 e0b
              have hr : r = false := by rw [R.out, NO.out (okAt_no (by have := HB.out; omega))]
              subst hr
              go_wp2_with fail
              go_ret
              exact ⟨rfl, hx⟩
            · have e0b : ((k : Int) == 0) = false := by simpa using e0
              by_cases e1 : (c.toNat : Int) < 48
              · have hr : r = false := by rw [R.out, NO.out (okAt_no (by have := HB.out; omega))]
                subst hr
                go_wp2_with fail
                go_ret
                exact ⟨rfl, hx⟩
              · by_cases e2 : 57 < (c.toNat : Int)
                · have hr : r = false := by rw [R.out, NO.out (okAt_no (by have := HB.out; omega))]
                  subst hr
                  go_wp2_with fail
                  go_ret
                  exact ⟨rfl, hx⟩
                · have hnx := hide (YES.out (okAt_iff.2 (by have := HB.out; omega)))
                  go_wp2_with fail
                  exact ⟨⟨k + 1, by omega, by go_num, hnx.out, trivial⟩, by simp [intOf]; omega⟩
          · have hnx := hide (YES.out (okAt_iff.2 (by have := HB.out; omega)))
            go_wp2_with fail
            exact ⟨⟨k + 1, by omega, by go_num, hnx.out, trivial⟩, by simp [intOf]; omega⟩
    · have : k = s.size := by omega
      subst this
      have hall : ∀ (j : Nat) (h : j < s.size), okAt j s.data[j] = true := fun j h => hpre j h h
      by_cases h0 : s.size = 0
      · have hr : r = false := by rw [R.out]; exact nameOk_no (fun hn => by have := hn.1; omega)
        subst hr
        have hz : (s.size : Int) = 0 := by omega
        go_wp2_with fail
        go_ret
        exact ⟨rfl, hx⟩
      · by_cases h1 : 64 < s.size
        · have hr : r = false := by rw [R.out]; exact nameOk_no (fun hn => by have := hn.2.1; omega)
          subst hr
          have hz1 : (0 : Int) < s.size := by omega
          have hz2 : ¬ (s.size : Int) ≤ 64 := by omega
          go_wp2_with fail
          go_ret
          exact ⟨rfl, hx⟩
        · have hr : r = !isWord s := by
            rw [R.out]
            cases hw : isWord s with
            | true => exact nameOk_no (fun hn => by rw [hn.2.2.2] at hw; cases hw)
            | false => exact nameOk_iff.2 ⟨by omega, by omega, hall, hw⟩
          have hz1 : (0 : Int) < s.size := by omega
          have hz2 : (s.size : Int) ≤ 64 := by omega
          have KR := hide hr
          clear hall hr
          go_wp2_with fail
          refine (word_any s wr (hL.ext hx) hs).mono ?_
          rintro e w1 ⟨rfl, rfl⟩
          go_wp2_with fail
          go_ret
          exact ⟨by rw [KR.out]; rfl, hx⟩

/-- The words, as texts. -/
def wordsB : List ByteArray := wordsL.map fun l => ⟨l.toArray⟩
set_option maxRecDepth 20000 in
set_option maxHeartbeats 2000000 in
theorem words_any (w : World) : Calls Tryz.prog 129 #[] w fun e w' => ∃ b cap, e = .returned (.slice (some ⟨b, 0, none⟩) 19 cap) ∧ Ext w w' ∧ ∀ (i : Nat) (h : i < wordsB.length), w'.cell? ⟨b, i, none⟩ = some (.string wordsB[i]) := by
  go_enter Tryz.func129, Tryz.ntmps129
  go_wp2_with fail
  go_ret
  refine ⟨_, _, rfl, Ext.new _ _, fun i h => ?_⟩
  refine (World.cell?_alloc_mark w (wordsB.map Value.string).toArray _ _ i).trans ?_
  simp [List.getElem?_eq_getElem h]
theorem isWord_iff {s : ByteArray} : isWord s = true ↔ s ∈ wordsB := by
  unfold isWord wordsB
  rw [List.contains_iff_mem, List.mem_map]
  constructor
  · exact fun h => ⟨_, h, by cases s; simp⟩
  · rintro ⟨l, hl, rfl⟩; simpa using hl
set_option maxRecDepth 20000 in
set_option maxHeartbeats 2000000 in
theorem refName_any (s : ByteArray) (w : World) (hs : s.size < 4294967281) :
    Calls Tryz.prog 112 #[.string s] w fun e w' => e = .returned (.bool (nameOk s)) ∧ Ext w w' := by
  obtain ⟨r, hr⟩ : ∃ r, r = nameOk s := ⟨_, rfl⟩
  rw [← hr]
  have R := hide hr
  clear hr
  go_enter Tryz.func112, Tryz.ntmps112
  go_wp2_with fail
  refine (words_any w).mono ?_
  rintro e W1 ⟨b, cap, rfl, hx, hcell⟩
  have HC := hide hcell
  have hwl : wordsB.length = 19 := by decide
  have HWL := hide hwl
  clear hcell hwl
  go_wp2_with fail
  go_loopw [4] (fun i wr => ∃ k : Nat, k ≤ 19 ∧ i = .int .i64 k ∧ (∀ (j : Nat) (h : j < wordsB.length), j < k → s ≠ wordsB[j]) ∧ wr = W1) (fun i _ => 19 - (intOf i).toNat)
  case atStart => exact ⟨0, Nat.zero_le _, rfl, fun j h h0 => by omega, rfl⟩
  case round =>
    obtain ⟨k, hk, rfl, hpre, rfl⟩ := hrel
    by_cases hlt : k < 19
    · have hkl : k < wordsB.length := by rw [HWL.out]; exact hlt
      have hck := HC.out k hkl
      have hyes := fun (h : s ≠ wordsB[k]) (j : Nat) (hj : j < wordsB.length) (hjk : j < k + 1) => show s ≠ wordsB[j] by
        by_cases e : j = k
        · subst e; exact h
        · exact hpre j hj (by omega)
      have hno := fun (h : s = wordsB[k]) => nameOk_no (s := s) (fun hn => by have := hn.2.2.2; rw [isWord_iff.2 (h ▸ List.getElem_mem hkl)] at this; cases this)
      have NO := hide hno
      have YES := hide hyes
      clear hno hyes hpre
      generalize wordsB[k] = d at *
      by_cases hd : s = d
      · have hr : r = false := by rw [R.out, NO.out hd]
        subst hr
        subst hd
        go_wp2_with fail
        go_ret
        exact ⟨rfl, hx⟩
      · have hdq := text_ne hd
        have HY := hide (YES.out hd)
        go_wp2_with fail
        go_roundw
        case rel => exact ⟨k + 1, by omega, by go_num, HY.out, trivial⟩
        case measure => simp [intOf]; omega
    · have hk19 : k = 19 := by omega
      subst hk19
      have hnw : isWord s = false := by
        cases hw : isWord s with
        | false => rfl
        | true =>
          obtain ⟨j, hj, he⟩ := List.getElem_of_mem (isWord_iff.1 hw)
          exact (hpre j hj (by rw [HWL.out] at hj; omega) he.symm).elim
      have HNW := hide hnw
      clear hnw hpre
      go_wp2_with fail
      go_loopw [5] (fun i wr' => ∃ k : Nat, k ≤ s.size ∧ i = .int .i64 k ∧ (∀ (j : Nat) (h : j < s.size), j < k → okAt j s.data[j] = true) ∧ wr' = wr) (fun i _ => s.size - (intOf i).toNat)
      case atStart => exact ⟨0, Nat.zero_le _, rfl, fun j h h0 => by omega, rfl⟩
      case round =>
        obtain ⟨k, hk, rfl, hpre, rfl⟩ := hrel
        by_cases hlt : k < s.size
        · have hno := fun (h : okAt k s.data[k] = false) => nameOk_no (s := s) (fun hn => by have := hn.2.2.1 k hlt; rw [h] at this; cases this)
          have hyes := fun (h : okAt k s.data[k] = true) (j : Nat) (hj : j < s.size) (hjk : j < k + 1) => show okAt j s.data[j] = true by
            by_cases e : j = k
            · subst e; exact h
            · exact hpre j hj (by omega)
          have NO := hide hno
          have YES := hide hyes
          clear hno hyes hpre
          obtain ⟨c, hc⟩ : ∃ c, c = s[k] := ⟨_, rfl⟩
          have NO' : Hid (okAt k c = false → nameOk s = false) := hide (by rw [hc]; exact NO.out)
          have YES' : Hid (okAt k c = true → ∀ (j : Nat) (hj : j < s.size), j < k + 1 → okAt j s.data[j] = true) := hide (by rw [hc]; exact YES.out)
          clear NO YES
          have hc' := hc.symm
          clear hc
          by_cases f1 : 97 ≤ (c.toNat : Int)
          · have f1q : decide (97 ≤ (c.toNat : Int)) = true := by simpa using f1
            have f1h := hide f1
            clear f1
            by_cases f4 : (c.toNat : Int) ≤ 122
            · have f4q : decide ((c.toNat : Int) ≤ 122) = true := by simpa using f4
              have f4h := hide f4
              clear f4
              have hnx := hide (YES'.out (okAt_iff.2 (by have := f1h.out; have := f4h.out; omega)))
              go_wp2_with fail
              refine ⟨⟨k + 1, by omega, ?_⟩, by simp [intOf]; omega⟩
              first | exact ⟨by go_num, hnx.out, trivial⟩ | exact ⟨by go_num, hnx.out⟩ | exact ⟨by omega, hnx.out⟩
            · have f4q : decide ((c.toNat : Int) ≤ 122) = false := by simpa using f4
              have f4h := hide f4
              clear f4
              have f2p : 65 ≤ (c.toNat : Int) := by have := f1h.out; have := f4h.out; omega
              have f2q : decide (65 ≤ (c.toNat : Int)) = true := by simpa using f2p
              have f2h := hide f2p
              clear f2p
              have f3p : ¬ (c.toNat : Int) ≤ 90 := by have := f1h.out; have := f4h.out; have := f2h.out; omega
              have f3q : decide ((c.toNat : Int) ≤ 90) = false := by simpa using f3p
              have f3h := hide f3p
              clear f3p
              have f5p : ¬ (c.toNat : Int) = 95 := by have := f1h.out; have := f4h.out; have := f2h.out; have := f3h.out; omega
              have f5q : ((c.toNat : Int) == 95) = false := by simpa using f5p
              have f5h := hide f5p
              clear f5p
              by_cases e0 : (k : Int) = 0
              · have e0q : ((k : Int) == 0) = true := by simpa using e0
                have e0h := hide e0
                clear e0
                obtain rfl : k = 0 := by have := e0h.out; omega
                clear e0q e0h
                have hr : r = false := by rw [R.out, NO'.out (okAt_no (by have := f1h.out; have := f4h.out; have := f2h.out; have := f3h.out; have := f5h.out; omega))]
                subst hr
                go_wp2_with fail
                go_ret
                exact ⟨rfl, hx⟩
              · have e0q : ((k : Int) == 0) = false := by simpa using e0
                have e0h := hide e0
                clear e0
                by_cases e1 : (c.toNat : Int) < 48
                · have e1q : decide ((c.toNat : Int) < 48) = true := by simpa using e1
                  have e1h := hide e1
                  clear e1
                  have hr : r = false := by rw [R.out, NO'.out (okAt_no (by have := f1h.out; have := f4h.out; have := f2h.out; have := f3h.out; have := f5h.out; have := e0h.out; have := e1h.out; omega))]
                  subst hr
                  go_wp2_with fail
                  go_ret
                  exact ⟨rfl, hx⟩
                · have e1q : decide ((c.toNat : Int) < 48) = false := by simpa using e1
                  have e1h := hide e1
                  clear e1
                  by_cases e2 : 57 < (c.toNat : Int)
                  · have e2q : decide (57 < (c.toNat : Int)) = true := by simpa using e2
                    have e2h := hide e2
                    clear e2
                    have hr : r = false := by rw [R.out, NO'.out (okAt_no (by have := f1h.out; have := f4h.out; have := f2h.out; have := f3h.out; have := f5h.out; have := e0h.out; have := e1h.out; have := e2h.out; omega))]
                    subst hr
                    go_wp2_with fail
                    go_ret
                    exact ⟨rfl, hx⟩
                  · have e2q : decide (57 < (c.toNat : Int)) = false := by simpa using e2
                    have e2h := hide e2
                    clear e2
                    have hnx := hide (YES'.out (okAt_iff.2 (by have := f1h.out; have := f4h.out; have := f2h.out; have := f3h.out; have := f5h.out; have := e0h.out; have := e1h.out; have := e2h.out; omega)))
                    go_wp2_with fail
                    refine ⟨⟨k + 1, by omega, ?_⟩, by simp [intOf]; omega⟩
                    first | exact ⟨by go_num, hnx.out, trivial⟩ | exact ⟨by go_num, hnx.out⟩ | exact ⟨by omega, hnx.out⟩
          · have f1q : decide (97 ≤ (c.toNat : Int)) = false := by simpa using f1
            have f1h := hide f1
            clear f1
            by_cases f2 : 65 ≤ (c.toNat : Int)
            · have f2q : decide (65 ≤ (c.toNat : Int)) = true := by simpa using f2
              have f2h := hide f2
              clear f2
              by_cases f3 : (c.toNat : Int) ≤ 90
              · have f3q : decide ((c.toNat : Int) ≤ 90) = true := by simpa using f3
                have f3h := hide f3
                clear f3
                have hnx := hide (YES'.out (okAt_iff.2 (by have := f1h.out; have := f2h.out; have := f3h.out; omega)))
                go_wp2_with fail
                refine ⟨⟨k + 1, by omega, ?_⟩, by simp [intOf]; omega⟩
                first | exact ⟨by go_num, hnx.out, trivial⟩ | exact ⟨by go_num, hnx.out⟩ | exact ⟨by omega, hnx.out⟩
              · have f3q : decide ((c.toNat : Int) ≤ 90) = false := by simpa using f3
                have f3h := hide f3
                clear f3
                by_cases f5 : (c.toNat : Int) = 95
                · have f5q : ((c.toNat : Int) == 95) = true := by simpa using f5
                  have f5h := hide f5
                  clear f5
                  have hnx := hide (YES'.out (okAt_iff.2 (by have := f1h.out; have := f2h.out; have := f3h.out; have := f5h.out; omega)))
                  go_wp2_with fail
                  refine ⟨⟨k + 1, by omega, ?_⟩, by simp [intOf]; omega⟩
                  first | exact ⟨by go_num, hnx.out, trivial⟩ | exact ⟨by go_num, hnx.out⟩ | exact ⟨by omega, hnx.out⟩
                · have f5q : ((c.toNat : Int) == 95) = false := by simpa using f5
                  have f5h := hide f5
                  clear f5
                  by_cases e0 : (k : Int) = 0
                  · have e0q : ((k : Int) == 0) = true := by simpa using e0
                    have e0h := hide e0
                    clear e0
                    obtain rfl : k = 0 := by have := e0h.out; omega
                    clear e0q e0h
                    have hr : r = false := by rw [R.out, NO'.out (okAt_no (by have := f1h.out; have := f2h.out; have := f3h.out; have := f5h.out; omega))]
                    subst hr
                    go_wp2_with fail
                    go_ret
                    exact ⟨rfl, hx⟩
                  · have e0q : ((k : Int) == 0) = false := by simpa using e0
                    have e0h := hide e0
                    clear e0
                    by_cases e1 : (c.toNat : Int) < 48
                    · have e1q : decide ((c.toNat : Int) < 48) = true := by simpa using e1
                      have e1h := hide e1
                      clear e1
                      have hr : r = false := by rw [R.out, NO'.out (okAt_no (by have := f1h.out; have := f2h.out; have := f3h.out; have := f5h.out; have := e0h.out; have := e1h.out; omega))]
                      subst hr
                      go_wp2_with fail
                      go_ret
                      exact ⟨rfl, hx⟩
                    · have e1q : decide ((c.toNat : Int) < 48) = false := by simpa using e1
                      have e1h := hide e1
                      clear e1
                      by_cases e2 : 57 < (c.toNat : Int)
                      · have e2q : decide (57 < (c.toNat : Int)) = true := by simpa using e2
                        have e2h := hide e2
                        clear e2
                        have hr : r = false := by rw [R.out, NO'.out (okAt_no (by have := f1h.out; have := f2h.out; have := f3h.out; have := f5h.out; have := e0h.out; have := e1h.out; have := e2h.out; omega))]
                        subst hr
                        go_wp2_with fail
                        go_ret
                        exact ⟨rfl, hx⟩
                      · have e2q : decide (57 < (c.toNat : Int)) = false := by simpa using e2
                        have e2h := hide e2
                        clear e2
                        have hnx := hide (YES'.out (okAt_iff.2 (by have := f1h.out; have := f2h.out; have := f3h.out; have := f5h.out; have := e0h.out; have := e1h.out; have := e2h.out; omega)))
                        go_wp2_with fail
                        refine ⟨⟨k + 1, by omega, ?_⟩, by simp [intOf]; omega⟩
                        first | exact ⟨by go_num, hnx.out, trivial⟩ | exact ⟨by go_num, hnx.out⟩ | exact ⟨by omega, hnx.out⟩
            · have f2q : decide (65 ≤ (c.toNat : Int)) = false := by simpa using f2
              have f2h := hide f2
              clear f2
              have f5p : ¬ (c.toNat : Int) = 95 := by have := f1h.out; have := f2h.out; omega
              have f5q : ((c.toNat : Int) == 95) = false := by simpa using f5p
              have f5h := hide f5p
              clear f5p
              by_cases e0 : (k : Int) = 0
              · have e0q : ((k : Int) == 0) = true := by simpa using e0
                have e0h := hide e0
                clear e0
                obtain rfl : k = 0 := by have := e0h.out; omega
                clear e0q e0h
                have hr : r = false := by rw [R.out, NO'.out (okAt_no (by have := f1h.out; have := f2h.out; have := f5h.out; omega))]
                subst hr
                go_wp2_with fail
                go_ret
                exact ⟨rfl, hx⟩
              · have e0q : ((k : Int) == 0) = false := by simpa using e0
                have e0h := hide e0
                clear e0
                by_cases e1 : (c.toNat : Int) < 48
                · have e1q : decide ((c.toNat : Int) < 48) = true := by simpa using e1
                  have e1h := hide e1
                  clear e1
                  have hr : r = false := by rw [R.out, NO'.out (okAt_no (by have := f1h.out; have := f2h.out; have := f5h.out; have := e0h.out; have := e1h.out; omega))]
                  subst hr
                  go_wp2_with fail
                  go_ret
                  exact ⟨rfl, hx⟩
                · have e1q : decide ((c.toNat : Int) < 48) = false := by simpa using e1
                  have e1h := hide e1
                  clear e1
                  by_cases e2 : 57 < (c.toNat : Int)
                  · have e2q : decide (57 < (c.toNat : Int)) = true := by simpa using e2
                    have e2h := hide e2
                    clear e2
                    have hr : r = false := by rw [R.out, NO'.out (okAt_no (by have := f1h.out; have := f2h.out; have := f5h.out; have := e0h.out; have := e1h.out; have := e2h.out; omega))]
                    subst hr
                    go_wp2_with fail
                    go_ret
                    exact ⟨rfl, hx⟩
                  · have e2q : decide (57 < (c.toNat : Int)) = false := by simpa using e2
                    have e2h := hide e2
                    clear e2
                    have hnx := hide (YES'.out (okAt_iff.2 (by have := f1h.out; have := f2h.out; have := f5h.out; have := e0h.out; have := e1h.out; have := e2h.out; omega)))
                    go_wp2_with fail
                    refine ⟨⟨k + 1, by omega, ?_⟩, by simp [intOf]; omega⟩
                    first | exact ⟨by go_num, hnx.out, trivial⟩ | exact ⟨by go_num, hnx.out⟩ | exact ⟨by omega, hnx.out⟩
        · have : k = s.size := by omega
          subst this
          have hall : ∀ (j : Nat) (h : j < s.size), okAt j s.data[j] = true := fun j h => hpre j h h
          by_cases h0 : s.size = 0
          · have hr : r = false := by rw [R.out]; exact nameOk_no (fun hn => by have := hn.1; omega)
            subst hr
            have hz : (s.size : Int) = 0 := by omega
            go_wp2_with fail
            go_ret
            exact ⟨rfl, hx⟩
          · by_cases h1 : 64 < s.size
            · have hr : r = false := by rw [R.out]; exact nameOk_no (fun hn => by have := hn.2.1; omega)
              subst hr
              have hz1 : (1 : Int) ≤ s.size := by omega
              have hz2 : ¬ (s.size : Int) ≤ 64 := by omega
              go_wp2_with fail
              go_ret
              exact ⟨rfl, hx⟩
            · have hr : r = true := by rw [R.out]; exact nameOk_iff.2 ⟨by omega, by omega, hall, HNW.out⟩
              subst hr
              have hz1 : (1 : Int) ≤ s.size := by omega
              have hz2 : (s.size : Int) ≤ 64 := by omega
              clear hall
              go_wp2_with fail
              go_ret
              exact ⟨rfl, hx⟩

end Go.Proofs.YtjoglnjpgkobeaaGreatDoor
