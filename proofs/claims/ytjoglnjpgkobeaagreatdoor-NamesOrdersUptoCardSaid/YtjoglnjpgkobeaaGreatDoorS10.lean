/-
  THE CONTRACTS OF WHAT ASKS WHETHER A TEXT IS A WORD, OR A NAME.
-/
import Derived.WalkSpells
import Derived.WalkLawsBesides
import Derived.Laws.IdiomStrings
import Derived.Test.YtjoglnjpgkobeaaGreatDoorProg
import Derived.Test.YtjoglnjpgkobeaaGreatDoorS3
import Derived.Test.YtjoglnjpgkobeaaGreatDoorS5
import Derived.Test.YtjoglnjpgkobeaaGreatDoorS6
namespace Go.Proofs.YtjoglnjpgkobeaaGreatDoor
open Go Go.RowKit
set_option linter.all false
set_option linter.unusedVariables false
set_option linter.unusedSimpArgs false
set_option linter.unusedVariables false
set_option linter.unusedSimpArgs false
attribute [local go_sem] run_store_one
/-- What the library's variable holds. -/
def LibOk (w : World) : Prop := ∃ m : Int, w.cell? ⟨2, 0, none⟩ = some (.int .i64 m)
theorem LibOk.ext {w w' : World} (h : LibOk w) (hx : Ext w w') : LibOk w' := by
  obtain ⟨m, hm⟩ := h
  exact ⟨m, hx.at_ hm⟩
set_option maxRecDepth 20000 in
set_option maxHeartbeats 1000000 in
theorem among_any (l s : ByteArray) (w : World) (hL : LibOk w) (hl : l.size < 4294967281) (hs : s.size < 4294967281) :
    Calls Tryz.prog 136 #[.string l, .string s] w fun e w' => e = .returned (.bool (s.data.toList != [] && (!Lib.contains s.data.toList [32] && Lib.contains l.data.toList (32 :: (s.data.toList ++ [32]))))) ∧ w' = w := by
  obtain ⟨m, hm⟩ := hL
  obtain ⟨r, hr⟩ : ∃ r, r = (s.data.toList != [] && (!Lib.contains s.data.toList [32] && Lib.contains l.data.toList (32 :: (s.data.toList ++ [32])))) := ⟨_, rfl⟩
  rw [← hr]
  have R := hide hr
  clear hr
  go_enter Tryz.func136, Tryz.ntmps136
  by_cases h0 : s.toList = []
  · have hr : r = false := by rw [R.out, ← ByteArray.toList_eq, h0]; rfl
    subst hr
    go_wp2_with fail
    go_ret
    exact ⟨rfl, rfl⟩
  · have h1 : s.data.toList ≠ [] := by rw [← ByteArray.toList_eq]; exact h0
    have h2 : s.toList.isEmpty = false := by cases h : s.toList with | nil => exact (h0 h).elim | cons _ _ => rfl
    go_wp2_with fail
    refine (Tryz.strings_Contains _ _ m _ hs hm).mono ?_
    rintro e w1 ⟨rfl, rfl⟩
    have hb : (s.data.toList != []) = true := by simpa using h1
    cases hc : Lib.contains s.data.toList [32] with
    | true =>
      have hr : r = false := by rw [R.out, hc]; simp
      subst hr
      simp only [show (⟨#[32]⟩ : ByteArray).data.toList = [32] from rfl, hc]
      go_wp2_with fail
      go_ret
      exact ⟨rfl, rfl⟩
    | false =>
      have hr : r = Lib.contains l.data.toList (32 :: (s.data.toList ++ [32])) := by rw [R.out, hc, hb]; simp
      simp only [show (⟨#[32]⟩ : ByteArray).data.toList = [32] from rfl, hc]
      go_wp2_with fail
      refine (Tryz.strings_Contains _ _ m _ hl hm).mono ?_
      rintro e w1 ⟨rfl, rfl⟩
      go_wp2_with fail
      go_ret
      exact ⟨by rw [hr]; rfl, rfl⟩
set_option maxRecDepth 20000 in
set_option maxHeartbeats 1000000 in
theorem word_any (s : ByteArray) (w : World) (hL : LibOk w) (hs : s.size < 4294967281) :
    Calls Tryz.prog 124 #[.string s] w fun e w' => e = .returned (.bool (isWord s)) ∧ w' = w := by
  have hw := word_iff s.data.toList
  unfold isWord
  rw [← hw]
  go_enter Tryz.func124, Tryz.ntmps124
  go_wp2_with fail
  refine (among_any _ s w hL (by decide) hs).mono ?_
  rintro e w1 ⟨rfl, rfl⟩
  go_wp2_with fail
  go_ret
  exact ⟨rfl, rfl⟩
set_option maxRecDepth 100000 in
theorem low_bits : ∀ n : Fin 256, (bits .or .u8 (n.val : Int) 32 < 97 ∨ 122 < bits .or .u8 (n.val : Int) 32) ↔ ¬ (97 ≤ n.val ∧ n.val ≤ 122 ∨ 65 ≤ n.val ∧ n.val ≤ 90) := by decide
set_option maxRecDepth 20000 in
set_option maxHeartbeats 2000000 in
theorem name_any (s : ByteArray) (w : World) (hL : LibOk w) (hs : s.size < 4294967281) :
    Calls Tryz.prog 105 #[.string s] w fun e w' => e = .returned (.bool (nameOk s)) ∧ Ext w w' := by
  obtain ⟨r, hr⟩ : ∃ r, r = nameOk s := ⟨_, rfl⟩
  rw [← hr]
  have R := hide hr
  clear hr
  have hconv := run_bytes_of_string w 9 148 5 s (P := Tryz.prog) (by kernel_rfl) (by kernel_rfl) (by kernel_rfl)
  obtain ⟨cap, hcap⟩ : ∃ c, c = grownCap w s.size 0 5 := ⟨_, rfl⟩
  rw [← hcap] at hconv
  obtain ⟨W1, hW1⟩ : ∃ W1, W1 = w.drew.alloc (.cells (bytesRow s cap) 5 ((bytesRow s cap).size, (bytesRow s cap).size + 1)) := ⟨_, rfl⟩
  have hx : Ext w W1 := by rw [hW1]; exact (Ext.refl w).drew.alloc _
  have hcell : ∀ (j : Nat) (hj : j < s.data.size), W1.cell? ⟨w.heap.size, j, none⟩ = some (.int .u8 (s.data[j].toNat : Int)) := fun j hj => by
    rw [hW1]
    exact (World.cell?_alloc_mark w.drew (bytesRow s cap) 5 _ j).trans (bytesRow_at s cap j hj)
  rw [← hW1] at hconv
  clear hW1 hcap
  have HC := hide hcell
  clear hcell
  go_enter Tryz.func105, Tryz.ntmps105
  go_wp2_with fail
  go_loopw [8] (fun i wr => ∃ k : Nat, k ≤ s.size ∧ i = .int .i64 k ∧ (∀ (j : Nat) (h : j < s.size), j < k → okAt j s.data[j] = true) ∧ wr = W1) (fun i _ => s.size - (intOf i).toNat)
  case atStart => exact ⟨0, Nat.zero_le _, rfl, fun j h h0 => by omega, rfl⟩
  case round =>
    obtain ⟨k, hk, rfl, hpre, rfl⟩ := hrel
    by_cases hlt : k < s.size
    · have hck := HC.out k hlt
      have hno := fun (h : okAt k s.data[k] = false) => nameOk_no (s := s) (fun hn => by have := hn.2.2.1 k hlt; rw [h] at this; cases this)
      have hyes := fun (h : okAt k s.data[k] = true) (j : Nat) (hj : j < s.size) (hjk : j < k + 1) => show okAt j s.data[j] = true by
        by_cases e : j = k
        · subst e; exact h
        · exact hpre j hj (by omega)
      have NO := hide hno
      have YES := hide hyes
      clear hno hyes hpre
      generalize s.data[k] = c at *
      have hlow := low_bits ⟨c.toNat, c.toNat_lt⟩
      simp only at hlow
      obtain ⟨bb, hbb⟩ : ∃ b, b = bits .or .u8 (c.toNat : Int) 32 := ⟨_, rfl⟩
      rw [← hbb] at hlow
      have HB := hide hlow
      have hbb' := hbb.symm
      clear hlow hbb
      by_cases f0 : (c.toNat : Int) = 95
      · have f0b : ((c.toNat : Int) == 95) = true := by simpa using f0
        have hnx := hide (YES.out (okAt_iff.2 (by have := HB.out; omega)))
        go_wp2_with fail
        exact ⟨⟨k + 1, by omega, by go_num, hnx.out, trivial⟩, by simp [intOf]; omega⟩
      · have f0b : ((c.toNat : Int) == 95) = false := by simpa using f0
        by_cases f1 : bb < 97
        · by_cases e0 : (k : Int) = 0
          · have e0b : ((k : Int) == 0) = true := by simpa using e0
            obtain rfl : k = 0 := by omega
            clear e0 e0b
            have hr : r = false := by rw [R.out, NO.out (okAt_no (by have := HB.out; omega))]
            subst hr
            go_wp2_with fail
            go_ret
            exact ⟨rfl, hx⟩
          · have e0b : ((k : Int) == 0) = false := by simpa using e0
            by_cases e1 : (c.toNat : Int) < 48
            · have hr : r = false := by rw [R.out, NO.out (okAt_no (by have := HB.out; omega))]
              subst hr
              go_wp2_with fail
              go_ret
              exact ⟨rfl, hx⟩
            · by_cases e2 : 57 < (c.toNat : Int)
              · have hr : r = false := by rw [R.out, NO.out (okAt_no (by have := HB.out; omega))]
                subst hr
                go_wp2_with fail
                go_ret
                exact ⟨rfl, hx⟩
              · have hnx := hide (YES.out (okAt_iff.2 (by have := HB.out; omega)))
                go_wp2_with fail
                exact ⟨⟨k + 1, by omega, by go_num, hnx.out, trivial⟩, by simp [intOf]; omega⟩
        · by_cases f2 : 122 < bb
          · by_cases e0 : (k : Int) = 0
            · have e0b : ((k : Int) == 0) = true := by simpa using e0
              obtain rfl : k = 0 := by omega
              clear e0 e0b
              have hr : r = false := by rw [R.out, NO.out (okAt_no (by have := HB.out; omega))]
              subst hr
              go_wp2_with fail
              go_ret
              exact ⟨rfl, hx⟩
            · have e0b : ((k : Int) == 0) = false := by simpa using e0
              by_cases e1 : (c.toNat : Int) < 48
              · have hr : r = false := by rw [R.out, NO.out (okAt_no (by have := HB.out; omega))]
                subst hr
                go_wp2_with fail
                go_ret
                exact ⟨rfl, hx⟩
              · by_cases e2 : 57 < (c.toNat : Int)
                · have hr : r = false := by rw [R.out, NO.out (okAt_no (by have := HB.out; omega))]
                  subst hr
                  go_wp2_with fail
                  go_ret
                  exact ⟨rfl, hx⟩
                · have hnx := hide (YES.out (okAt_iff.2 (by have := HB.out; omega)))
                  go_wp2_with fail
                  exact ⟨⟨k + 1, by omega, by go_num, hnx.out, trivial⟩, by simp [intOf]; omega⟩
          · have hnx := hide (YES.out (okAt_iff.2 (by have := HB.out; omega)))
            go_wp2_with fail
            exact ⟨⟨k + 1, by omega, by go_num, hnx.out, trivial⟩, by simp [intOf]; omega⟩
    · have : k = s.size := by omega
      subst this
      have hall : ∀ (j : Nat) (h : j < s.size), okAt j s.data[j] = true := fun j h => hpre j h h
      by_cases h0 : s.size = 0
      · have hr : r = false := by rw [R.out]; exact nameOk_no (fun hn => by have := hn.1; omega)
        subst hr
        have hz : (s.size : Int) = 0 := by omega
        go_wp2_with fail
        go_ret
        exact ⟨rfl, hx⟩
      · by_cases h1 : 64 < s.size
        · have hr : r = false := by rw [R.out]; exact nameOk_no (fun hn => by have := hn.2.1; omega)
          subst hr
          have hz1 : (0 : Int) < s.size := by omega
          have hz2 : ¬ (s.size : Int) ≤ 64 := by omega
          go_wp2_with fail
          go_ret
          exact ⟨rfl, hx⟩
        · have hr : r = !isWord s := by
            rw [R.out]
            cases hw : isWord s with
            | true => exact nameOk_no (fun hn => by rw [hn.2.2.2] at hw; cases hw)
            | false => exact nameOk_iff.2 ⟨by omega, by omega, hall, hw⟩
          have hz1 : (0 : Int) < s.size := by omega
          have hz2 : (s.size : Int) ≤ 64 := by omega
          have KR := hide hr
          clear hall hr
          go_wp2_with fail
          refine (word_any s wr (hL.ext hx) hs).mono ?_
          rintro e w1 ⟨rfl, rfl⟩
          go_wp2_with fail
          go_ret
          exact ⟨by rw [KR.out]; rfl, hx⟩
/-- The words, as texts. -/
def wordsB : List ByteArray := wordsL.map fun l => ⟨l.toArray⟩
set_option maxRecDepth 20000 in
set_option maxHeartbeats 2000000 in
theorem words_any (w : World) : Calls Tryz.prog 129 #[] w fun e w' => ∃ b cap, e = .returned (.slice (some ⟨b, 0, none⟩) 19 cap) ∧ Ext w w' ∧ ∀ (i : Nat) (h : i < wordsB.length), w'.cell? ⟨b, i, none⟩ = some (.string wordsB[i]) := by
  go_enter Tryz.func129, Tryz.ntmps129
  go_wp2_with fail
  go_ret
  refine ⟨_, _, rfl, Ext.new _ _, fun i h => ?_⟩
  refine (World.cell?_alloc_mark w (wordsB.map Value.string).toArray _ _ i).trans ?_
  simp [List.getElem?_eq_getElem h]
theorem isWord_iff {s : ByteArray} : isWord s = true ↔ s ∈ wordsB := by
  unfold isWord wordsB
  rw [List.contains_iff_mem, List.mem_map]
  constructor
  · exact fun h => ⟨_, h, by cases s; simp⟩
  · rintro ⟨l, hl, rfl⟩; simpa using hl
set_option maxRecDepth 20000 in
set_option maxHeartbeats 2000000 in
theorem refName_any (s : ByteArray) (w : World) (hs : s.size < 4294967281) :
    Calls Tryz.prog 112 #[.string s] w fun e w' => e = .returned (.bool (nameOk s)) ∧ Ext w w' := by
  obtain ⟨r, hr⟩ : ∃ r, r = nameOk s := ⟨_, rfl⟩
  rw [← hr]
  have R := hide hr
  clear hr
  go_enter Tryz.func112, Tryz.ntmps112
  go_wp2_with fail
  refine (words_any w).mono ?_
  rintro e W1 ⟨b, cap, rfl, hx, hcell⟩
  have HC := hide hcell
  have hwl : wordsB.length = 19 := by decide
  have HWL := hide hwl
  clear hcell hwl
  go_wp2_with fail
  go_loopw [4] (fun i wr => ∃ k : Nat, k ≤ 19 ∧ i = .int .i64 k ∧ (∀ (j : Nat) (h : j < wordsB.length), j < k → s ≠ wordsB[j]) ∧ wr = W1) (fun i _ => 19 - (intOf i).toNat)
  case atStart => exact ⟨0, Nat.zero_le _, rfl, fun j h h0 => by omega, rfl⟩
  case round =>
    obtain ⟨k, hk, rfl, hpre, rfl⟩ := hrel
    by_cases hlt : k < 19
    · have hkl : k < wordsB.length := by rw [HWL.out]; exact hlt
      have hck := HC.out k hkl
      have hyes := fun (h : s ≠ wordsB[k]) (j : Nat) (hj : j < wordsB.length) (hjk : j < k + 1) => show s ≠ wordsB[j] by
        by_cases e : j = k
        · subst e; exact h
        · exact hpre j hj (by omega)
      have hno := fun (h : s = wordsB[k]) => nameOk_no (s := s) (fun hn => by have := hn.2.2.2; rw [isWord_iff.2 (h ▸ List.getElem_mem hkl)] at this; cases this)
      have NO := hide hno
      have YES := hide hyes
      clear hno hyes hpre
      generalize wordsB[k] = d at *
      by_cases hd : s = d
      · have hr : r = false := by rw [R.out, NO.out hd]
        subst hr
        subst hd
        go_wp2_with fail
        go_ret
        exact ⟨rfl, hx⟩
      · have hdq := text_ne hd
        have HY := hide (YES.out hd)
        go_wp2_with fail
        go_roundw
        case rel => exact ⟨k + 1, by omega, by go_num, HY.out, trivial⟩
        case measure => simp [intOf]; omega
    · have hk19 : k = 19 := by omega
      subst hk19
      have hnw : isWord s = false := by
        cases hw : isWord s with
        | false => rfl
        | true =>
          obtain ⟨j, hj, he⟩ := List.getElem_of_mem (isWord_iff.1 hw)
          exact (hpre j hj (by rw [HWL.out] at hj; omega) he.symm).elim
      have HNW := hide hnw
      clear hnw hpre
      go_wp2_with fail
      go_loopw [5] (fun i wr' => ∃ k : Nat, k ≤ s.size ∧ i = .int .i64 k ∧ (∀ (j : Nat) (h : j < s.size), j < k → okAt j s.data[j] = true) ∧ wr' = wr) (fun i _ => s.size - (intOf i).toNat)
      case atStart => exact ⟨0, Nat.zero_le _, rfl, fun j h h0 => by omega, rfl⟩
      case round =>
        obtain ⟨k, hk, rfl, hpre, rfl⟩ := hrel
        by_cases hlt : k < s.size
        · have hno := fun (h : okAt k s.data[k] = false) => nameOk_no (s := s) (fun hn => by have := hn.2.2.1 k hlt; rw [h] at this; cases this)
          have hyes := fun (h : okAt k s.data[k] = true) (j : Nat) (hj : j < s.size) (hjk : j < k + 1) => show okAt j s.data[j] = true by
            by_cases e : j = k
            · subst e; exact h
            · exact hpre j hj (by omega)
          have NO := hide hno
          have YES := hide hyes
          clear hno hyes hpre
          obtain ⟨c, hc⟩ : ∃ c, c = s[k] := ⟨_, rfl⟩
          have NO' : Hid (okAt k c = false → nameOk s = false) := hide (by rw [hc]; exact NO.out)
          have YES' : Hid (okAt k c = true → ∀ (j : Nat) (hj : j < s.size), j < k + 1 → okAt j s.data[j] = true) := hide (by rw [hc]; exact YES.out)
          clear NO YES
          have hc' := hc.symm
          clear hc
          by_cases f1 : 97 ≤ (c.toNat : Int)
          · have f1q : decide (97 ≤ (c.toNat : Int)) = true := by simpa using f1
            have f1h := hide f1
            clear f1
            by_cases f4 : (c.toNat : Int) ≤ 122
            · have f4q : decide ((c.toNat : Int) ≤ 122) = true := by simpa using f4
              have f4h := hide f4
              clear f4
              have hnx := hide (YES'.out (okAt_iff.2 (by have := f1h.out; have := f4h.out; omega)))
              go_wp2_with fail
              refine ⟨⟨k + 1, by omega, ?_⟩, by simp [intOf]; omega⟩
              first | exact ⟨by go_num, hnx.out, trivial⟩ | exact ⟨by go_num, hnx.out⟩ | exact ⟨by omega, hnx.out⟩
            · have f4q : decide ((c.toNat : Int) ≤ 122) = false := by simpa using f4
              have f4h := hide f4
              clear f4
              have f2p : 65 ≤ (c.toNat : Int) := by have := f1h.out; have := f4h.out; omega
              have f2q : decide (65 ≤ (c.toNat : Int)) = true := by simpa using f2p
              have f2h := hide f2p
              clear f2p
              have f3p : ¬ (c.toNat : Int) ≤ 90 := by have := f1h.out; have := f4h.out; have := f2h.out; omega
              have f3q : decide ((c.toNat : Int) ≤ 90) = false := by simpa using f3p
              have f3h := hide f3p
              clear f3p
              have f5p : ¬ (c.toNat : Int) = 95 := by have := f1h.out; have := f4h.out; have := f2h.out; have := f3h.out; omega
              have f5q : ((c.toNat : Int) == 95) = false := by simpa using f5p
              have f5h := hide f5p
              clear f5p
              by_cases e0 : (k : Int) = 0
              · have e0q : ((k : Int) == 0) = true := by simpa using e0
                have e0h := hide e0
                clear e0
                obtain rfl : k = 0 := by have := e0h.out; omega
                clear e0q e0h
                have hr : r = false := by rw [R.out, NO'.out (okAt_no (by have := f1h.out; have := f4h.out; have := f2h.out; have := f3h.out; have := f5h.out; omega))]
                subst hr
                go_wp2_with fail
                go_ret
                exact ⟨rfl, hx⟩
              · have e0q : ((k : Int) == 0) = false := by simpa using e0
                have e0h := hide e0
                clear e0
                by_cases e1 : (c.toNat : Int) < 48
                · have e1q : decide ((c.toNat : Int) < 48) = true := by simpa using e1
                  have e1h := hide e1
                  clear e1
                  have hr : r = false := by rw [R.out, NO'.out (okAt_no (by have := f1h.out; have := f4h.out; have := f2h.out; have := f3h.out; have := f5h.out; have := e0h.out; have := e1h.out; omega))]
                  subst hr
                  go_wp2_with fail
                  go_ret
                  exact ⟨rfl, hx⟩
                · have e1q : decide ((c.toNat : Int) < 48) = false := by simpa using e1
                  have e1h := hide e1
                  clear e1
                  by_cases e2 : 57 < (c.toNat : Int)
                  · have e2q : decide (57 < (c.toNat : Int)) = true := by simpa using e2
                    have e2h := hide e2
                    clear e2
                    have hr : r = false := by rw [R.out, NO'.out (okAt_no (by have := f1h.out; have := f4h.out; have := f2h.out; have := f3h.out; have := f5h.out; have := e0h.out; have := e1h.out; have := e2h.out; omega))]
                    subst hr
                    go_wp2_with fail
                    go_ret
                    exact ⟨rfl, hx⟩
                  · have e2q : decide (57 < (c.toNat : Int)) = false := by simpa using e2
                    have e2h := hide e2
                    clear e2
                    have hnx := hide (YES'.out (okAt_iff.2 (by have := f1h.out; have := f4h.out; have := f2h.out; have := f3h.out; have := f5h.out; have := e0h.out; have := e1h.out; have := e2h.out; omega)))
                    go_wp2_with fail
                    refine ⟨⟨k + 1, by omega, ?_⟩, by simp [intOf]; omega⟩
                    first | exact ⟨by go_num, hnx.out, trivial⟩ | exact ⟨by go_num, hnx.out⟩ | exact ⟨by omega, hnx.out⟩
          · have f1q : decide (97 ≤ (c.toNat : Int)) = false := by simpa using f1
            have f1h := hide f1
            clear f1
            by_cases f2 : 65 ≤ (c.toNat : Int)
            · have f2q : decide (65 ≤ (c.toNat : Int)) = true := by simpa using f2
              have f2h := hide f2
              clear f2
              by_cases f3 : (c.toNat : Int) ≤ 90
              · have f3q : decide ((c.toNat : Int) ≤ 90) = true := by simpa using f3
                have f3h := hide f3
                clear f3
                have hnx := hide (YES'.out (okAt_iff.2 (by have := f1h.out; have := f2h.out; have := f3h.out; omega)))
                go_wp2_with fail
                refine ⟨⟨k + 1, by omega, ?_⟩, by simp [intOf]; omega⟩
                first | exact ⟨by go_num, hnx.out, trivial⟩ | exact ⟨by go_num, hnx.out⟩ | exact ⟨by omega, hnx.out⟩
              · have f3q : decide ((c.toNat : Int) ≤ 90) = false := by simpa using f3
                have f3h := hide f3
                clear f3
                by_cases f5 : (c.toNat : Int) = 95
                · have f5q : ((c.toNat : Int) == 95) = true := by simpa using f5
                  have f5h := hide f5
                  clear f5
                  have hnx := hide (YES'.out (okAt_iff.2 (by have := f1h.out; have := f2h.out; have := f3h.out; have := f5h.out; omega)))
                  go_wp2_with fail
                  refine ⟨⟨k + 1, by omega, ?_⟩, by simp [intOf]; omega⟩
                  first | exact ⟨by go_num, hnx.out, trivial⟩ | exact ⟨by go_num, hnx.out⟩ | exact ⟨by omega, hnx.out⟩
                · have f5q : ((c.toNat : Int) == 95) = false := by simpa using f5
                  have f5h := hide f5
                  clear f5
                  by_cases e0 : (k : Int) = 0
                  · have e0q : ((k : Int) == 0) = true := by simpa using e0
                    have e0h := hide e0
                    clear e0
                    obtain rfl : k = 0 := by have := e0h.out; omega
                    clear e0q e0h
                    have hr : r = false := by rw [R.out, NO'.out (okAt_no (by have := f1h.out; have := f2h.out; have := f3h.out; have := f5h.out; omega))]
                    subst hr
                    go_wp2_with fail
                    go_ret
                    exact ⟨rfl, hx⟩
                  · have e0q : ((k : Int) == 0) = false := by simpa using e0
                    have e0h := hide e0
                    clear e0
                    by_cases e1 : (c.toNat : Int) < 48
                    · have e1q : decide ((c.toNat : Int) < 48) = true := by simpa using e1
                      have e1h := hide e1
                      clear e1
                      have hr : r = false := by rw [R.out, NO'.out (okAt_no (by have := f1h.out; have := f2h.out; have := f3h.out; have := f5h.out; have := e0h.out; have := e1h.out; omega))]
                      subst hr
                      go_wp2_with fail
                      go_ret
                      exact ⟨rfl, hx⟩
                    · have e1q : decide ((c.toNat : Int) < 48) = false := by simpa using e1
                      have e1h := hide e1
                      clear e1
                      by_cases e2 : 57 < (c.toNat : Int)
                      · have e2q : decide (57 < (c.toNat : Int)) = true := by simpa using e2
                        have e2h := hide e2
                        clear e2
                        have hr : r = false := by rw [R.out, NO'.out (okAt_no (by have := f1h.out; have := f2h.out; have := f3h.out; have := f5h.out; have := e0h.out; have := e1h.out; have := e2h.out; omega))]
                        subst hr
                        go_wp2_with fail
                        go_ret
                        exact ⟨rfl, hx⟩
                      · have e2q : decide (57 < (c.toNat : Int)) = false := by simpa using e2
                        have e2h := hide e2
                        clear e2
                        have hnx := hide (YES'.out (okAt_iff.2 (by have := f1h.out; have := f2h.out; have := f3h.out; have := f5h.out; have := e0h.out; have := e1h.out; have := e2h.out; omega)))
                        go_wp2_with fail
                        refine ⟨⟨k + 1, by omega, ?_⟩, by simp [intOf]; omega⟩
                        first | exact ⟨by go_num, hnx.out, trivial⟩ | exact ⟨by go_num, hnx.out⟩ | exact ⟨by omega, hnx.out⟩
            · have f2q : decide (65 ≤ (c.toNat : Int)) = false := by simpa using f2
              have f2h := hide f2
              clear f2
              have f5p : ¬ (c.toNat : Int) = 95 := by have := f1h.out; have := f2h.out; omega
              have f5q : ((c.toNat : Int) == 95) = false := by simpa using f5p
              have f5h := hide f5p
              clear f5p
              by_cases e0 : (k : Int) = 0
              · have e0q : ((k : Int) == 0) = true := by simpa using e0
                have e0h := hide e0
                clear e0
                obtain rfl : k = 0 := by have := e0h.out; omega
                clear e0q e0h
                have hr : r = false := by rw [R.out, NO'.out (okAt_no (by have := f1h.out; have := f2h.out; have := f5h.out; omega))]
                subst hr
                go_wp2_with fail
                go_ret
                exact ⟨rfl, hx⟩
              · have e0q : ((k : Int) == 0) = false := by simpa using e0
                have e0h := hide e0
                clear e0
                by_cases e1 : (c.toNat : Int) < 48
                · have e1q : decide ((c.toNat : Int) < 48) = true := by simpa using e1
                  have e1h := hide e1
                  clear e1
                  have hr : r = false := by rw [R.out, NO'.out (okAt_no (by have := f1h.out; have := f2h.out; have := f5h.out; have := e0h.out; have := e1h.out; omega))]
                  subst hr
                  go_wp2_with fail
                  go_ret
                  exact ⟨rfl, hx⟩
                · have e1q : decide ((c.toNat : Int) < 48) = false := by simpa using e1
                  have e1h := hide e1
                  clear e1
                  by_cases e2 : 57 < (c.toNat : Int)
                  · have e2q : decide (57 < (c.toNat : Int)) = true := by simpa using e2
                    have e2h := hide e2
                    clear e2
                    have hr : r = false := by rw [R.out, NO'.out (okAt_no (by have := f1h.out; have := f2h.out; have := f5h.out; have := e0h.out; have := e1h.out; have := e2h.out; omega))]
                    subst hr
                    go_wp2_with fail
                    go_ret
                    exact ⟨rfl, hx⟩
                  · have e2q : decide (57 < (c.toNat : Int)) = false := by simpa using e2
                    have e2h := hide e2
                    clear e2
                    have hnx := hide (YES'.out (okAt_iff.2 (by have := f1h.out; have := f2h.out; have := f5h.out; have := e0h.out; have := e1h.out; have := e2h.out; omega)))
                    go_wp2_with fail
                    refine ⟨⟨k + 1, by omega, ?_⟩, by simp [intOf]; omega⟩
                    first | exact ⟨by go_num, hnx.out, trivial⟩ | exact ⟨by go_num, hnx.out⟩ | exact ⟨by omega, hnx.out⟩
        · have : k = s.size := by omega
          subst this
          have hall : ∀ (j : Nat) (h : j < s.size), okAt j s.data[j] = true := fun j h => hpre j h h
          by_cases h0 : s.size = 0
          · have hr : r = false := by rw [R.out]; exact nameOk_no (fun hn => by have := hn.1; omega)
            subst hr
            have hz : (s.size : Int) = 0 := by omega
            go_wp2_with fail
            go_ret
            exact ⟨rfl, hx⟩
          · by_cases h1 : 64 < s.size
            · have hr : r = false := by rw [R.out]; exact nameOk_no (fun hn => by have := hn.2.1; omega)
              subst hr
              have hz1 : (1 : Int) ≤ s.size := by omega
              have hz2 : ¬ (s.size : Int) ≤ 64 := by omega
              go_wp2_with fail
              go_ret
              exact ⟨rfl, hx⟩
            · have hr : r = true := by rw [R.out]; exact nameOk_iff.2 ⟨by omega, by omega, hall, HNW.out⟩
              subst hr
              have hz1 : (1 : Int) ≤ s.size := by omega
              have hz2 : (s.size : Int) ≤ 64 := by omega
              clear hall
              go_wp2_with fail
              go_ret
              exact ⟨rfl, hx⟩
end Go.Proofs.YtjoglnjpgkobeaaGreatDoor

/-
  THE CONTRACTS OF THE REFERENCE's CHECKING: kinds, numbers, values.
-/
namespace Go.Proofs.YtjoglnjpgkobeaaGreatDoor
open Go Go.RowKit
set_option linter.all false
set_option linter.unusedVariables false
set_option linter.unusedSimpArgs false
set_option linter.unusedVariables false
set_option linter.unusedSimpArgs false
attribute [local go_sem] run_store_one
set_option maxRecDepth 20000 in
set_option maxHeartbeats 1000000 in
theorem refnamed_any (op : Int) (w : World) : Calls Tryz.prog 130 #[.int .i64 op] w fun e w' => e = .returned (.bool (yes (isNamed op))) ∧ w' = w := by
  obtain ⟨r, hr⟩ : ∃ r, r = yes (isNamed op) := ⟨_, rfl⟩
  rw [← hr]
  have R := hide hr
  clear hr
  go_enter Tryz.func130, Tryz.ntmps130
  go_wp2_with fail
  all_goals
    go_ret
    refine ⟨?_, rfl⟩
    rw [R.out]
    refine congrArg (fun b => Ending.returned (Value.bool b)) ?_
    rw [Bool.eq_iff_iff, yes_iff]
    unfold isNamed
    simp at *
    try omega
set_option maxRecDepth 20000 in
set_option maxHeartbeats 1000000 in
theorem refparts_any (op n : Int) (w : World) : Calls Tryz.prog 131 #[.int .i64 op, .int .i64 n] w fun e w' => e = .returned (.bool (yes (partsOk op n))) ∧ w' = w := by
  obtain ⟨r, hr⟩ : ∃ r, r = yes (partsOk op n) := ⟨_, rfl⟩
  rw [← hr]
  have R := hide hr
  clear hr
  go_enter Tryz.func131, Tryz.ntmps131
  go_wp2_with fail
  all_goals
    go_ret
    refine ⟨?_, rfl⟩
    rw [R.out]
    refine congrArg (fun b => Ending.returned (Value.bool b)) ?_
    rw [Bool.eq_iff_iff, yes_iff]
    unfold partsOk
    simp at *
    try omega
set_option maxRecDepth 20000 in
set_option maxHeartbeats 1000000 in
theorem refnumber_any (op n : Int) (w : World) : Calls Tryz.prog 132 #[.int .i64 op, .int .i64 n] w fun e w' => e = .returned (.bool (yes (numOk op n))) ∧ w' = w := by
  obtain ⟨r, hr⟩ : ∃ r, r = yes (numOk op n) := ⟨_, rfl⟩
  rw [← hr]
  have R := hide hr
  clear hr
  go_enter Tryz.func132, Tryz.ntmps132
  go_wp2_with fail
  all_goals
    go_ret
    refine ⟨?_, rfl⟩
    rw [R.out]
    refine congrArg (fun b => Ending.returned (Value.bool b)) ?_
    rw [Bool.eq_iff_iff, yes_iff]
    unfold numOk
    simp at *
    try omega
theorem shr_zero (v w : Int) (hv : 0 ≤ v) : v / 2 ^ w.toNat = 0 ↔ v < 2 ^ w.toNat := by
  have hp : (0 : Int) < 2 ^ w.toNat := Int.pow_pos (by decide)
  generalize (2 : Int) ^ w.toNat = p at *
  constructor
  · intro h
    have h1 := Int.emod_add_mul_ediv v p
    have h2 := Int.emod_lt_of_pos v hp
    rw [h] at h1
    omega
  · exact fun h => Int.ediv_eq_zero_of_lt hv h
set_option maxRecDepth 20000 in
set_option maxHeartbeats 1000000 in
theorem refvalue_any (op n wd xv : Int) (nm : ByteArray) (v : Value) (hv : 0 ≤ xv) (hv2 : xv < 18446744073709551616) (o : v.oneCell' = true) (w : World) :
    Calls Tryz.prog 133 #[.agg #[.int .i64 op, .string nm, .int .i64 n, .int .i64 wd, .int .u64 xv, v]] w fun e w' => e = .returned (.bool (yes (valOk op wd xv))) ∧ Ext w w' := by
  obtain ⟨r, hr⟩ : ∃ r, r = yes (valOk op wd xv) := ⟨_, rfl⟩
  rw [← hr]
  have R := hide hr
  clear hr
  obtain ⟨W1, hW1, hx1, hb1⟩ := box6 w (.int .i64 op) (.string nm) (.int .i64 n) (.int .i64 wd) (.int .u64 xv) v 49
  have hV1 := hW1.symm
  obtain ⟨c0, c1, c2, c3, c4, c5⟩ := hb1.get6
  clear hW1 hb1
  go_enter Tryz.func133, Tryz.ntmps133
  by_cases h1 : op = 1
  · subst h1
    have hq := hide (shr_zero xv wd hv)
    go_wp2_with fail
    all_goals
      have hqo := hq.out
      go_ret
      refine ⟨?_, hx1⟩
      rw [R.out]
      refine congrArg (fun b => Ending.returned (Value.bool b)) ?_
      rw [Bool.eq_iff_iff, yes_iff]
      unfold valOk
      generalize xv / 2 ^ wd.toNat = qq at *
      generalize (2 : Int) ^ wd.toNat = pp at *
      simp at *
      try omega
  · have h1b : (op == 1) = false := by simpa using h1
    go_wp2_with fail
    all_goals
      go_ret
      refine ⟨?_, hx1⟩
      rw [R.out]
      refine congrArg (fun b => Ending.returned (Value.bool b)) ?_
      rw [Bool.eq_iff_iff, yes_iff]
      unfold valOk
      simp at *
      try omega
theorem all_take {α : Type} {P : α → Prop} {l : List α} {k : Nat} (hk : k < l.length) (h : ∀ y, y ∈ l.take k → P y) (hy : P l[k]) : ∀ y, y ∈ l.take (k + 1) → P y := by
  intro y hm
  rw [List.take_succ_eq_append_getElem hk, List.mem_append] at hm
  rcases hm with hm | hm
  · exact h y hm
  · simp at hm; subst hm; exact hy
set_option maxRecDepth 20000 in
set_option maxHeartbeats 1000000 in
theorem refmayL_of (B : Nat) (l : List X) (hf : ∀ x, x ∈ l → ∀ (w : World) (cs : List Value), RX w B x cs → B ≤ w.heap.size →
      Calls Tryz.prog 113 #[.agg cs.toArray] w fun e w' => e = .returned (.bool (yes (MayX x))) ∧ Ext w w')
    (w : World) (v : Value) (hS : Sl (RX w B) w B 6 l v) (hB : B ≤ w.heap.size) (hsz : l.length ≤ 1000000000) :
    Calls Tryz.prog 134 #[v] w fun e w' => e = .returned (.bool (yes (∀ x, x ∈ l → MayX x))) ∧ Ext w w' := by
  obtain ⟨a, cap, rfl, hcap, hrow⟩ := hS
  have HF := hide hf
  clear hf
  go_enter Tryz.func134, Tryz.ntmps134
  go_wp2_with fail
  go_loopw [3] (fun i wr => ∃ k : Nat, k ≤ l.length ∧ i = .int .i64 k ∧ (∀ y, y ∈ l.take k → MayX y) ∧ Ext w wr) (fun i _ => l.length - (intOf i).toNat)
  case atStart => exact ⟨0, Nat.zero_le _, rfl, fun y hy => by simp at hy, Ext.refl _⟩
  case round =>
    obtain ⟨k, hk, rfl, hpre, hx⟩ := hrel
    by_cases hlt : k < l.length
    · have hfk := hide (HF.out l[k] (List.getElem_mem hlt))
      obtain ⟨b, o, v0, v1, v2, v3, v4, v5, rfl, hbB, hR, hC, o0, o1, o2, o3, o4, o5⟩ := hrow.open6 hlt
      obtain ⟨d0, d1, d2, d3, d4, d5⟩ := (hC.ext hx).get6
      have hyes := hide (fun h => all_take hlt hpre h)
      have hno := hide (fun (h : ¬ MayX l[k]) => yes_no.2 (fun (ha : ∀ x, x ∈ l → MayX x) => h (ha _ (List.getElem_mem hlt))))
      have hRx := hide (hR.ext hx hB)
      clear hC hrow hR hpre
      generalize l[k] = y at *
      go_wp2_with fail
      refine (hfk.out _ _ hRx.out (by have := hx.size; omega)).mono ?_
      rintro e w1 ⟨rfl, hy⟩
      have hx9 := hx.trans hy
      by_cases hq : MayX y
      · rw [yes_iff.2 hq]
        have hn := hide (hyes.out hq)
        go_wp2_with fail
        go_roundw
        case rel => exact ⟨k + 1, by omega, by go_num, hn.out, hx9⟩
        case measure => simp [intOf]; omega
      · rw [yes_no.2 hq]
        have hn := hide (hno.out hq)
        go_wp2_with fail
        go_ret
        exact ⟨by rw [hn.out]; rfl, hx9⟩
    · have : k = l.length := by omega
      subst this
      have hfull := hide (yes_iff.2 (show ∀ x, x ∈ l → MayX x by rw [List.take_length] at hpre; exact hpre))
      clear hpre
      go_wp2_with fail
      go_ret
      exact ⟨by rw [hfull.out]; rfl, hx⟩
end Go.Proofs.YtjoglnjpgkobeaaGreatDoor

/-
  THE CONTRACT OF THE REFERENCE's CHECKING OF AN EXPRESSION.
-/
namespace Go.Proofs.YtjoglnjpgkobeaaGreatDoor
open Go Go.RowKit
set_option linter.all false
set_option linter.unusedVariables false
set_option linter.unusedSimpArgs false
set_option linter.unusedVariables false
set_option linter.unusedSimpArgs false
attribute [local go_sem] run_store_one
theorem calls_still {P : Program} {f : FuncId} {args : Array Value} {w : World} {v : Value} (h : Calls P f args w fun e w' => e = .returned v ∧ w' = w) : Calls P f args w fun e w' => e = .returned v ∧ Ext w w' :=
  h.mono fun e w' he => ⟨he.1, he.2 ▸ Ext.refl _⟩
theorem empty_size {s : ByteArray} (h : s.size = 0) : s.toList.isEmpty = true := by
  rw [ByteArray.toList_eq]
  have : s.data.toList = [] := List.eq_nil_of_length_eq_zero (by simpa using h)
  rw [this]; rfl
theorem full_size {s : ByteArray} (h : ¬ s.size = 0) : s.toList.isEmpty = false := by
  rw [ByteArray.toList_eq]
  cases e : s.data.toList with
  | nil => exact (h (by have := congrArg List.length e; simpa using this)).elim
  | cons _ _ => rfl
set_option maxRecDepth 20000 in
set_option maxHeartbeats 4000000 in
theorem refMayX_any (B : Nat) (x : X) : ∀ (w : World) (cs : List Value), RX w B x cs → B ≤ w.heap.size → sizeX x ≤ 1000000000 → VX x →
    Calls Tryz.prog 113 #[.agg cs.toArray] w fun e w' => e = .returned (.bool (yes (MayX x))) ∧ Ext w w' := by
  induction x using X.ind with
  | h x ih =>
  intro w cs hR hB hsz hvx
  obtain ⟨a5, rfl, hS⟩ := RX_iff.1 hR
  obtain ⟨hv1, hv2, hv3, hvl⟩ := VX_iff.1 hvx
  have hs0 : 1 + msize sizeX x.l ≤ 1000000000 := by rw [← sizeX_eq]; exact hsz
  have hmem := hide (fun z (hz : z ∈ x.l) => msize_mem sizeX x.l z hz)
  have hln := length_le_msize sizeX x.l sizeX_pos
  rw [yes_congr (MayX_iff (x := x))]
  unfold ownX
  have IH := hide ih
  have HS := hide hS
  have HVL := hide hvl
  have o5 := hS.oneCell
  obtain ⟨sa, scap, rfl, hsc, hsr⟩ := hS
  generalize x.op = op at *
  generalize x.name = nm at *
  generalize x.n = n at *
  generalize x.w = wd at *
  generalize x.v = xv at *
  generalize x.l = l at *
  clear hR hsz ih hsc hsr hvx hvl
  obtain ⟨r, hr⟩ : ∃ r, r = yes ((partsOk op l.length ∧ numOk op n ∧ valOk op wd xv ∧ nmOk op nm) ∧ ∀ y, y ∈ l → MayX y) := ⟨_, rfl⟩
  rw [← hr]
  have R := hide hr
  clear hr
  obtain ⟨W1, hW1, hx1, hb1⟩ := box6 w (.int .i64 op) (.string nm) (.int .i64 n) (.int .i64 wd) (.int .u64 xv) (.slice sa l.length scap) 49
  have hV1 := hW1.symm
  have hB1 : B ≤ W1.heap.size := Nat.le_trans hB hx1.size
  have HB1 := hide hb1
  obtain ⟨c0, c1, c2, c3, c4, c5⟩ := hb1.later6
  clear hW1 hb1
  have G1 := hide (fun e : Later W1 => calls_still (refnamed_any op e.w))
  have G2 := hide (fun e : Later W1 => refName_any nm e.w hv3)
  have G3 := hide (fun e : Later W1 => calls_still (refparts_any op l.length e.w))
  have G4 := hide (fun e : Later W1 => calls_still (refnumber_any op n e.w))
  have G5 := hide (fun e : Later W1 => refvalue_any op n wd xv nm (.slice sa l.length scap) hv1 hv2 o5 e.w)
  go_enter Tryz.func113, Tryz.ntmps113
  by_cases hG1 : isNamed op
  · have KG1 := hide (fun e : Later W1 => (show yes (isNamed op) = true from yes_iff.2 hG1) ▸ G1.out e)
    clear G1
    by_cases h0 : nm.size = 0
    · have hem := empty_size h0
      have hr : r = false := by rw [R.out]; exact yes_no.2 (fun ⟨⟨q1, q2, q3, q4⟩, q5⟩ => (by unfold nmOk nameP at q4; rcases q4 with q4 | q4; (· omega); exact q4.1 hG1))
      subst hr
      go_wp2_with fail
      refine wp_region_later (W := W1) (by kernel_rfl) (by kernel_rfl) (Ext.refl _) ?_
      repeat (go_big_quiet_step (first | (go_at_call 130; exact Later.calls (KG1.out _))))
      refine wpQuiet_nil ?_
      rintro _ ⟨e, rfl⟩
      go_wp2_with fail
      go_ret
      exact ⟨rfl, hx1.trans e.ext⟩
    · have hem := full_size h0
      by_cases hG2 : nameP nm
      · have KG2 := hide (fun e : Later W1 => (show nameOk nm = true from nameOk_iff.2 hG2) ▸ G2.out e)
        clear G2
        by_cases hG3 : partsOk op l.length
        · have KG3 := hide (fun e : Later W1 => (show yes (partsOk op l.length) = true from yes_iff.2 hG3) ▸ G3.out e)
          clear G3
          by_cases hG4 : numOk op n
          · have KG4 := hide (fun e : Later W1 => (show yes (numOk op n) = true from yes_iff.2 hG4) ▸ G4.out e)
            clear G4
            by_cases hG5 : valOk op wd xv
            · have KG5 := hide (fun e : Later W1 => (show yes (valOk op wd xv) = true from yes_iff.2 hG5) ▸ G5.out e)
              clear G5
              have hr := hide (R.out.trans (yes_congr (show _ ↔ (∀ y, y ∈ l → MayX y) from ⟨fun h => h.2, fun h => ⟨⟨hG3, hG4, hG5, .inl ⟨hG1, hG2⟩⟩, h⟩⟩)))
              go_wp2_with fail
              refine wp_region_later (W := W1) (by kernel_rfl) (by kernel_rfl) (Ext.refl _) ?_
              repeat (go_big_quiet_step (first | (go_at_call 130; exact Later.calls (KG1.out _)) | (go_at_call 112; exact Later.calls (KG2.out _)) | (go_at_call 131; exact Later.calls (KG3.out _)) | (go_at_call 132; exact Later.calls (KG4.out _)) | (go_at_call 133; exact Later.calls (KG5.out _))))
              refine wpQuiet_nil ?_
              rintro _ ⟨e, rfl⟩
              have c5' := c5 e
              go_wp2_with fail
              refine (refmayL_of B l (fun z hz w cs h1 h2 => IH.out z hz w cs h1 h2 (by have := hmem.out z hz; omega) (HVL.out z hz)) _ _ (HS.out.extRX (hx1.trans e.ext) hB) (Nat.le_trans hB1 e.ext.size) (by omega)).mono ?_
              rintro e2 w2 ⟨rfl, hy⟩
              rw [← hr.out]
              go_wp2_with fail
              go_ret
              exact ⟨rfl, (hx1.trans e.ext).trans hy⟩
            · have KG5 := hide (fun e : Later W1 => (show yes (valOk op wd xv) = false from yes_no.2 hG5) ▸ G5.out e)
              clear G5
              have hr : r = false := by rw [R.out]; exact yes_no.2 (fun ⟨⟨q1, q2, q3, q4⟩, q5⟩ => hG5 q3)
              subst hr
              go_wp2_with fail
              refine wp_region_later (W := W1) (by kernel_rfl) (by kernel_rfl) (Ext.refl _) ?_
              repeat (go_big_quiet_step (first | (go_at_call 130; exact Later.calls (KG1.out _)) | (go_at_call 112; exact Later.calls (KG2.out _)) | (go_at_call 131; exact Later.calls (KG3.out _)) | (go_at_call 132; exact Later.calls (KG4.out _)) | (go_at_call 133; exact Later.calls (KG5.out _))))
              refine wpQuiet_nil ?_
              rintro _ ⟨e, rfl⟩
              go_wp2_with fail
              go_ret
              exact ⟨rfl, hx1.trans e.ext⟩
          · have KG4 := hide (fun e : Later W1 => (show yes (numOk op n) = false from yes_no.2 hG4) ▸ G4.out e)
            clear G4
            have hr : r = false := by rw [R.out]; exact yes_no.2 (fun ⟨⟨q1, q2, q3, q4⟩, q5⟩ => hG4 q2)
            subst hr
            go_wp2_with fail
            refine wp_region_later (W := W1) (by kernel_rfl) (by kernel_rfl) (Ext.refl _) ?_
            repeat (go_big_quiet_step (first | (go_at_call 130; exact Later.calls (KG1.out _)) | (go_at_call 112; exact Later.calls (KG2.out _)) | (go_at_call 131; exact Later.calls (KG3.out _)) | (go_at_call 132; exact Later.calls (KG4.out _))))
            refine wpQuiet_nil ?_
            rintro _ ⟨e, rfl⟩
            go_wp2_with fail
            go_ret
            exact ⟨rfl, hx1.trans e.ext⟩
        · have KG3 := hide (fun e : Later W1 => (show yes (partsOk op l.length) = false from yes_no.2 hG3) ▸ G3.out e)
          clear G3
          have hr : r = false := by rw [R.out]; exact yes_no.2 (fun ⟨⟨q1, q2, q3, q4⟩, q5⟩ => hG3 q1)
          subst hr
          go_wp2_with fail
          refine wp_region_later (W := W1) (by kernel_rfl) (by kernel_rfl) (Ext.refl _) ?_
          repeat (go_big_quiet_step (first | (go_at_call 130; exact Later.calls (KG1.out _)) | (go_at_call 112; exact Later.calls (KG2.out _)) | (go_at_call 131; exact Later.calls (KG3.out _))))
          refine wpQuiet_nil ?_
          rintro _ ⟨e, rfl⟩
          go_wp2_with fail
          go_ret
          exact ⟨rfl, hx1.trans e.ext⟩
      · have KG2 := hide (fun e : Later W1 => (show nameOk nm = false from nameOk_no hG2) ▸ G2.out e)
        clear G2
        have hr : r = false := by rw [R.out]; exact yes_no.2 (fun ⟨⟨q1, q2, q3, q4⟩, q5⟩ => (by rcases q4 with q4 | q4; exact hG2 q4.2; exact q4.1 hG1))
        subst hr
        go_wp2_with fail
        refine wp_region_later (W := W1) (by kernel_rfl) (by kernel_rfl) (Ext.refl _) ?_
        repeat (go_big_quiet_step (first | (go_at_call 130; exact Later.calls (KG1.out _)) | (go_at_call 112; exact Later.calls (KG2.out _))))
        refine wpQuiet_nil ?_
        rintro _ ⟨e, rfl⟩
        go_wp2_with fail
        go_ret
        exact ⟨rfl, hx1.trans e.ext⟩
  · have KG1 := hide (fun e : Later W1 => (show yes (isNamed op) = false from yes_no.2 hG1) ▸ G1.out e)
    clear G1
    by_cases h0 : nm.size = 0
    · have hem := empty_size h0
      by_cases hG3 : partsOk op l.length
      · have KG3 := hide (fun e : Later W1 => (show yes (partsOk op l.length) = true from yes_iff.2 hG3) ▸ G3.out e)
        clear G3
        by_cases hG4 : numOk op n
        · have KG4 := hide (fun e : Later W1 => (show yes (numOk op n) = true from yes_iff.2 hG4) ▸ G4.out e)
          clear G4
          by_cases hG5 : valOk op wd xv
          · have KG5 := hide (fun e : Later W1 => (show yes (valOk op wd xv) = true from yes_iff.2 hG5) ▸ G5.out e)
            clear G5
            have hr := hide (R.out.trans (yes_congr (show _ ↔ (∀ y, y ∈ l → MayX y) from ⟨fun h => h.2, fun h => ⟨⟨hG3, hG4, hG5, .inr ⟨hG1, h0⟩⟩, h⟩⟩)))
            go_wp2_with fail
            refine wp_region_later (W := W1) (by kernel_rfl) (by kernel_rfl) (Ext.refl _) ?_
            repeat (go_big_quiet_step (first | (go_at_call 130; exact Later.calls (KG1.out _)) | (go_at_call 131; exact Later.calls (KG3.out _)) | (go_at_call 132; exact Later.calls (KG4.out _)) | (go_at_call 133; exact Later.calls (KG5.out _))))
            refine wpQuiet_nil ?_
            rintro _ ⟨e, rfl⟩
            have c5' := c5 e
            go_wp2_with fail
            refine (refmayL_of B l (fun z hz w cs h1 h2 => IH.out z hz w cs h1 h2 (by have := hmem.out z hz; omega) (HVL.out z hz)) _ _ (HS.out.extRX (hx1.trans e.ext) hB) (Nat.le_trans hB1 e.ext.size) (by omega)).mono ?_
            rintro e2 w2 ⟨rfl, hy⟩
            rw [← hr.out]
            go_wp2_with fail
            go_ret
            exact ⟨rfl, (hx1.trans e.ext).trans hy⟩
          · have KG5 := hide (fun e : Later W1 => (show yes (valOk op wd xv) = false from yes_no.2 hG5) ▸ G5.out e)
            clear G5
            have hr : r = false := by rw [R.out]; exact yes_no.2 (fun ⟨⟨q1, q2, q3, q4⟩, q5⟩ => hG5 q3)
            subst hr
            go_wp2_with fail
            refine wp_region_later (W := W1) (by kernel_rfl) (by kernel_rfl) (Ext.refl _) ?_
            repeat (go_big_quiet_step (first | (go_at_call 130; exact Later.calls (KG1.out _)) | (go_at_call 131; exact Later.calls (KG3.out _)) | (go_at_call 132; exact Later.calls (KG4.out _)) | (go_at_call 133; exact Later.calls (KG5.out _))))
            refine wpQuiet_nil ?_
            rintro _ ⟨e, rfl⟩
            go_wp2_with fail
            go_ret
            exact ⟨rfl, hx1.trans e.ext⟩
        · have KG4 := hide (fun e : Later W1 => (show yes (numOk op n) = false from yes_no.2 hG4) ▸ G4.out e)
          clear G4
          have hr : r = false := by rw [R.out]; exact yes_no.2 (fun ⟨⟨q1, q2, q3, q4⟩, q5⟩ => hG4 q2)
          subst hr
          go_wp2_with fail
          refine wp_region_later (W := W1) (by kernel_rfl) (by kernel_rfl) (Ext.refl _) ?_
          repeat (go_big_quiet_step (first | (go_at_call 130; exact Later.calls (KG1.out _)) | (go_at_call 131; exact Later.calls (KG3.out _)) | (go_at_call 132; exact Later.calls (KG4.out _))))
          refine wpQuiet_nil ?_
          rintro _ ⟨e, rfl⟩
          go_wp2_with fail
          go_ret
          exact ⟨rfl, hx1.trans e.ext⟩
      · have KG3 := hide (fun e : Later W1 => (show yes (partsOk op l.length) = false from yes_no.2 hG3) ▸ G3.out e)
        clear G3
        have hr : r = false := by rw [R.out]; exact yes_no.2 (fun ⟨⟨q1, q2, q3, q4⟩, q5⟩ => hG3 q1)
        subst hr
        go_wp2_with fail
        refine wp_region_later (W := W1) (by kernel_rfl) (by kernel_rfl) (Ext.refl _) ?_
        repeat (go_big_quiet_step (first | (go_at_call 130; exact Later.calls (KG1.out _)) | (go_at_call 131; exact Later.calls (KG3.out _))))
        refine wpQuiet_nil ?_
        rintro _ ⟨e, rfl⟩
        go_wp2_with fail
        go_ret
        exact ⟨rfl, hx1.trans e.ext⟩
    · have hem := full_size h0
      have hr : r = false := by rw [R.out]; exact yes_no.2 (fun ⟨⟨q1, q2, q3, q4⟩, q5⟩ => (by rcases q4 with q4 | q4; exact hG1 q4.1; exact h0 q4.2))
      subst hr
      go_wp2_with fail
      refine wp_region_later (W := W1) (by kernel_rfl) (by kernel_rfl) (Ext.refl _) ?_
      repeat (go_big_quiet_step (first | (go_at_call 130; exact Later.calls (KG1.out _))))
      refine wpQuiet_nil ?_
      rintro _ ⟨e, rfl⟩
      go_wp2_with fail
      go_ret
      exact ⟨rfl, hx1.trans e.ext⟩
end Go.Proofs.YtjoglnjpgkobeaaGreatDoor

/-
  THE CONTRACTS OF THE REFERENCE's CHECKING OF STATEMENTS.
-/
namespace Go.Proofs.YtjoglnjpgkobeaaGreatDoor
open Go Go.RowKit
set_option linter.all false
set_option linter.unusedVariables false
set_option linter.unusedSimpArgs false
set_option linter.unusedVariables false
set_option linter.unusedSimpArgs false
attribute [local go_sem] run_store_one
set_option maxRecDepth 20000 in
set_option maxHeartbeats 1000000 in
theorem reftarget_any (B : Nat) (l : List X) (w : World) (v : Value) (hS : Sl (RX w B) w B 6 l v) (hln : l.length ≤ 1000000000) :
    Calls Tryz.prog 139 #[v] w fun e w' => e = .returned (.bool (yes (isTargets l))) ∧ w' = w := by
  obtain ⟨a, cap, rfl, hcap, hrow⟩ := hS
  cases l with
  | nil =>
    have hr : yes (isTargets []) = false := yes_no.2 (fun h => h)
    rw [hr]
    go_enter Tryz.func139, Tryz.ntmps139
    go_wp2_with fail
    go_ret
    exact ⟨rfl, rfl⟩
  | cons x r =>
    have hlt : 0 < (x :: r).length := by simp
    have hp : (0 : Int) < (x :: r).length := by omega
    obtain ⟨b, o, v0, v1, v2, v3, v4, v5, rfl, hbB, hR, hC, o0, o1, o2, o3, o4, o5⟩ := hrow.open6 hlt
    obtain ⟨a5, hEq, hS5⟩ := RX_iff.1 hR
    cases hEq
    obtain ⟨d0, d1, d2, d3, d4, d5⟩ := hC.get6
    have hr : yes (isTargets (x :: r)) = yes (isNamed x.op) := rfl
    rw [hr]
    simp only [List.getElem_cons_zero, Nat.zero_mul, Nat.add_zero] at *
    generalize x.op = op at *
    clear hR hC hrow hS5 hr
    generalize (x :: r).length = len at *
    go_enter Tryz.func139, Tryz.ntmps139
    go_wp2_with fail
    refine (refnamed_any op w).mono ?_
    rintro e w1 ⟨rfl, rfl⟩
    obtain ⟨q, hq⟩ : ∃ q, q = yes (isNamed op) := ⟨_, rfl⟩
    rw [← hq]
    have HQ := hide hq
    clear hq
    go_wp2_with fail
    go_ret
    exact ⟨by rw [← HQ.out]; rfl, rfl⟩
set_option maxRecDepth 20000 in
set_option maxHeartbeats 1000000 in
theorem refMayAll_of (B : Nat) (l : List S) (hf : ∀ x, x ∈ l → ∀ (w : World) (cs : List Value), RS w B x cs → B ≤ w.heap.size →
      Calls Tryz.prog 142 #[.agg cs.toArray] w fun e w' => e = .returned (.bool (yes (MayS x))) ∧ Ext w w')
    (w : World) (v : Value) (hS : Sl (RS w B) w B 4 l v) (hB : B ≤ w.heap.size) (hsz : l.length ≤ 1000000000) :
    Calls Tryz.prog 140 #[v] w fun e w' => e = .returned (.bool (yes (∀ x, x ∈ l → MayS x))) ∧ Ext w w' := by
  obtain ⟨a, cap, rfl, hcap, hrow⟩ := hS
  have HF := hide hf
  clear hf
  go_enter Tryz.func140, Tryz.ntmps140
  go_wp2_with fail
  go_loopw [3] (fun i wr => ∃ k : Nat, k ≤ l.length ∧ i = .int .i64 k ∧ (∀ y, y ∈ l.take k → MayS y) ∧ Ext w wr) (fun i _ => l.length - (intOf i).toNat)
  case atStart => exact ⟨0, Nat.zero_le _, rfl, fun y hy => by simp at hy, Ext.refl _⟩
  case round =>
    obtain ⟨k, hk, rfl, hpre, hx⟩ := hrel
    by_cases hlt : k < l.length
    · have hfk := hide (HF.out l[k] (List.getElem_mem hlt))
      obtain ⟨b, o, v0, v1, v2, v3, rfl, hbB, hR, hC, o0, o1, o2, o3⟩ := hrow.open4 hlt
      obtain ⟨d0, d1, d2, d3⟩ := (hC.ext hx).get4
      have hyes := hide (fun h => all_take hlt hpre h)
      have hno := hide (fun (h : ¬ MayS l[k]) => yes_no.2 (fun (ha : ∀ x, x ∈ l → MayS x) => h (ha _ (List.getElem_mem hlt))))
      have hRx := hide (hR.ext hx hB)
      clear hC hrow hR hpre
      generalize l[k] = y at *
      go_wp2_with fail
      refine (hfk.out _ _ hRx.out (by have := hx.size; omega)).mono ?_
      rintro e w1 ⟨rfl, hy⟩
      have hx9 := hx.trans hy
      by_cases hq : MayS y
      · rw [yes_iff.2 hq]
        have hn := hide (hyes.out hq)
        go_wp2_with fail
        go_roundw
        case rel => exact ⟨k + 1, by omega, by go_num, hn.out, hx9⟩
        case measure => simp [intOf]; omega
      · rw [yes_no.2 hq]
        have hn := hide (hno.out hq)
        go_wp2_with fail
        go_ret
        exact ⟨by rw [hn.out]; rfl, hx9⟩
    · have : k = l.length := by omega
      subst this
      have hfull := hide (yes_iff.2 (show ∀ x, x ∈ l → MayS x by rw [List.take_length] at hpre; exact hpre))
      clear hpre
      go_wp2_with fail
      go_ret
      exact ⟨by rw [hfull.out]; rfl, hx⟩
end Go.Proofs.YtjoglnjpgkobeaaGreatDoor

/-
  THE CONTRACT OF THE REFERENCE's CHECKING OF A CASE's ARMS.
-/
namespace Go.Proofs.YtjoglnjpgkobeaaGreatDoor
open Go Go.RowKit
set_option linter.all false
set_option linter.unusedVariables false
set_option linter.unusedSimpArgs false
set_option linter.unusedVariables false
set_option linter.unusedSimpArgs false
attribute [local go_sem] run_store_one
set_option maxRecDepth 20000 in
set_option maxHeartbeats 4000000 in
theorem refarms_of (B : Nat) (l : List S) (hf : ∀ x, x ∈ l → ∀ (w : World) (v : Value), Sl (RS w B) w B 4 x.l v → B ≤ w.heap.size →
      Calls Tryz.prog 140 #[v] w fun e w' => e = .returned (.bool (yes (∀ z, z ∈ x.l → MayS z))) ∧ Ext w w') (hvx : ∀ x, x ∈ l → ∀ z, z ∈ x.x → VX z)
    (w : World) (v : Value) (hS : Sl (RS w B) w B 4 l v) (hB : B ≤ w.heap.size) (hsz : msize sizeS l ≤ 1000000000) (htx : ∀ x, x ∈ l → x.name.size < 4294967281) :
    Calls Tryz.prog 144 #[v] w fun e w' => e = .returned (.bool (yes (MayArms l))) ∧ Ext w w' := by
  obtain ⟨a, cap, rfl, hcap, hrow⟩ := hS
  have HF := hide hf
  have HVXA := hide hvx
  have hln := length_le_msize sizeS l sizeS_pos
  clear hf hvx htx
  go_enter Tryz.func144, Tryz.ntmps144
  go_wp2_with fail
  go_loopw [3] (fun i wr => ∃ k : Nat, k ≤ l.length ∧ i = .int .i64 k ∧ (∀ (i : Nat) (hi : i < l.length), i < k → MayArm (i + 1 = l.length) l[i]) ∧ Ext w wr) (fun i _ => l.length - (intOf i).toNat)
  case atStart => exact ⟨0, Nat.zero_le _, rfl, fun i _ h => by omega, Ext.refl _⟩
  case round =>
    obtain ⟨k, hk, rfl, hpre, hx⟩ := hrel
    by_cases hlt : k < l.length
    · have hfk := hide (HF.out l[k] (List.getElem_mem hlt))
      have HVX := hide (HVXA.out l[k] (List.getElem_mem hlt))
      have hmm := msize_mem sizeS l l[k] (List.getElem_mem hlt)
      have hsy := sizeS_eq l[k]
      have hyes := fun (h : MayArm (k + 1 = l.length) l[k]) (i : Nat) (hi : i < l.length) (hik : i < k + 1) => show MayArm (i + 1 = l.length) l[i] by
        by_cases e : i = k
        · subst e; exact h
        · exact hpre i hi (by omega)
      have hno := fun (h : ¬ MayArm (k + 1 = l.length) l[k]) => yes_no.2 (fun (hm : MayArms l) => h (hm.2 k hlt))
      obtain ⟨b, o, v0, v1, v2, v3, rfl, hbB, hR, hC, o0, o1, o2, o3⟩ := hrow.open4 hlt
      obtain ⟨a2, a3, hEq, hS2, hS3⟩ := RS_iff.1 hR
      cases hEq
      have hmemx := hide (fun z (hz : z ∈ l[k].x) => msize_mem sizeX l[k].x z hz)
      have hln2 := length_le_msize sizeX l[k].x sizeX_pos
      have YES := hide (fun h => hyes (MayArm_iff.2 h))
      have NO := hide (fun (h : ¬ _) => hno (fun hm => h (MayArm_iff.1 hm)))
      have HS2 := hide hS2
      have HS3 := hide hS3
      have t3 := hS3.oneCell
      obtain ⟨sa, scap, rfl, hsc, hsr⟩ := hS2
      clear hyes hno hpre hR hS3 hrow hsc hsr
      generalize l[k].op = f0 at *
      generalize l[k].name = f1 at *
      generalize l[k].x = f2 at *
      generalize l[k].l = f3 at *
      generalize sizeS l[k] = sy at *
      obtain ⟨W1, hW1, hx1, hb1⟩ := box4 wr (.int .i64 f0) (.string f1) (.slice sa f2.length scap) v3 140
      have hz1 := size_box hW1
      have hV1 := hW1.symm
      have HB1 := hide hb1
      have hxw := hx.trans hx1
      have hb0 := hxw.size
      obtain ⟨i0, i1, i2, i3⟩ := (hC.ext hx).get4
      obtain ⟨c0, c1, c2, c3⟩ := HB1.out.get4
      clear hW1 hb1 hC
      by_cases h0 : f0 = 4
      · subst h0
        by_cases h1 : f1.size = 0
        · have hem := empty_size h1
          by_cases ha : f2.length = 0
          · have hab : ((f2.length : Int) == 0) = true := by simp [ha]
            have HA := hide ha
            clear ha
            by_cases hb : k + 1 = l.length
            · have hbb : ((k : Int) == (l.length : Int) - 1) = true := by simp; omega
              go_wp2_with fail
              refine (refmayL_of B f2 (fun z hz w cs h1 h2 => refMayX_any B z w cs h1 h2 (by have := hmemx.out z hz; omega) (HVX.out z hz)) _ _ (HS2.out.extRX hxw hB) (by omega) (by omega)).mono ?_
              rintro e w1 ⟨rfl, hy1⟩
              have hxw1 := hxw.trans hy1
              have hb1' := hxw1.size
              clear c0 c1 c2 c3
              obtain ⟨c0, c1, c2, c3⟩ := (HB1.out.ext hy1).get4
              by_cases h3 : ∀ z, z ∈ f2 → MayX z
              · rw [yes_iff.2 h3]
                go_wp2_with fail
                refine (hfk.out _ _ (HS3.out.extRS hxw1 hB) (by omega)).mono ?_
                rintro e w2 ⟨rfl, hy2⟩
                have hxw2 := hxw1.trans hy2
                by_cases h4 : ∀ z, z ∈ f3 → MayS z
                · rw [yes_iff.2 h4]
                  have hn := hide (YES.out ⟨trivial, h1, ⟨fun _ => hb, fun _ => HA.out⟩, h3, h4⟩)
                  go_wp2_with fail
                  go_roundw
                  case rel => exact ⟨k + 1, by omega, by go_num, hn.out, hxw2⟩
                  case measure => simp [intOf]; omega
                · rw [yes_no.2 h4]
                  have hr := hide (NO.out (fun h => h4 h.2.2.2.2))
                  go_wp2_with fail
                  go_ret
                  exact ⟨by rw [hr.out]; rfl, hxw2⟩
              · rw [yes_no.2 h3]
                have hr := hide (NO.out (fun h => h3 h.2.2.2.1))
                go_wp2_with fail
                go_ret
                exact ⟨by rw [hr.out]; rfl, hxw1⟩
            · have hbb : ((k : Int) == (l.length : Int) - 1) = false := by simp; omega
              have hr := hide (NO.out (fun h => hb (h.2.2.1.1 HA.out)))
              go_wp2_with fail
              go_ret
              exact ⟨by rw [hr.out]; rfl, hxw⟩
          · have hab : ((f2.length : Int) == 0) = false := beq_eq_false_iff_ne.2 (by omega)
            by_cases hb : k + 1 = l.length
            · have hbb : ((k : Int) == (l.length : Int) - 1) = true := by simp; omega
              have hr := hide (NO.out (fun h => ha (h.2.2.1.2 hb)))
              go_wp2_with fail
              go_ret
              exact ⟨by rw [hr.out]; rfl, hxw⟩
            · have hbb : ((k : Int) == (l.length : Int) - 1) = false := by simp; omega
              go_wp2_with fail
              refine (refmayL_of B f2 (fun z hz w cs h1 h2 => refMayX_any B z w cs h1 h2 (by have := hmemx.out z hz; omega) (HVX.out z hz)) _ _ (HS2.out.extRX hxw hB) (by omega) (by omega)).mono ?_
              rintro e w1 ⟨rfl, hy1⟩
              have hxw1 := hxw.trans hy1
              have hb1' := hxw1.size
              clear c0 c1 c2 c3
              obtain ⟨c0, c1, c2, c3⟩ := (HB1.out.ext hy1).get4
              by_cases h3 : ∀ z, z ∈ f2 → MayX z
              · rw [yes_iff.2 h3]
                go_wp2_with fail
                refine (hfk.out _ _ (HS3.out.extRS hxw1 hB) (by omega)).mono ?_
                rintro e w2 ⟨rfl, hy2⟩
                have hxw2 := hxw1.trans hy2
                by_cases h4 : ∀ z, z ∈ f3 → MayS z
                · rw [yes_iff.2 h4]
                  have hn := hide (YES.out ⟨trivial, h1, ⟨fun h => (ha h).elim, fun h => (hb h).elim⟩, h3, h4⟩)
                  go_wp2_with fail
                  go_roundw
                  case rel => exact ⟨k + 1, by omega, by go_num, hn.out, hxw2⟩
                  case measure => simp [intOf]; omega
                · rw [yes_no.2 h4]
                  have hr := hide (NO.out (fun h => h4 h.2.2.2.2))
                  go_wp2_with fail
                  go_ret
                  exact ⟨by rw [hr.out]; rfl, hxw2⟩
              · rw [yes_no.2 h3]
                have hr := hide (NO.out (fun h => h3 h.2.2.2.1))
                go_wp2_with fail
                go_ret
                exact ⟨by rw [hr.out]; rfl, hxw1⟩
        · have hem := full_size h1
          have hr := hide (NO.out (fun h => h1 h.2.1))
          go_wp2_with fail
          go_ret
          exact ⟨by rw [hr.out]; rfl, hxw⟩
      · have h0b : (f0 == 4) = false := by simpa using h0
        have hr := hide (NO.out (fun h => h0 h.1))
        go_wp2_with fail
        go_ret
        exact ⟨by rw [hr.out]; rfl, hxw⟩
    · have hkl : k = l.length := by omega
      subst hkl
      by_cases hl : l.length = 0
      · have hr := hide (yes_no.2 (fun (hm : MayArms l) => by have := hm.1; omega))
        have hlz : (l.length : Int) = 0 := by omega
        clear hpre
        go_wp2_with fail
        go_ret
        exact ⟨by rw [hr.out]; rfl, hx⟩
      · have hr := hide (yes_iff.2 (show MayArms l from ⟨by omega, fun i hi => hpre i hi hi⟩))
        have hlz : (1 : Int) ≤ l.length := by omega
        clear hpre
        go_wp2_with fail
        go_ret
        exact ⟨by rw [hr.out]; rfl, hx⟩
end Go.Proofs.YtjoglnjpgkobeaaGreatDoor
