import Derived.Test.YtjoglnjpgkobeaaGreatDoorProg
import Derived.Test.YtjoglnjpgkobeaaGreatDoorS33
import Derived.Test.YtjoglnjpgkobeaaGreatDoorS24
import Derived.Test.YtjoglnjpgkobeaaGreatDoorS32
import Derived.Test.YtjoglnjpgkobeaaGreatDoorS3
import Derived.Test.YtjoglnjpgkobeaaGreatDoorS11
import Derived.Test.YtjoglnjpgkobeaaGreatDoorS12
import Derived.Test.YtjoglnjpgkobeaaGreatDoorS7
import Derived.Test.YtjoglnjpgkobeaaGreatDoorS27
import Derived.Test.YtjoglnjpgkobeaaGreatDoorS4
import Derived.Test.YtjoglnjpgkobeaaGreatDoorS29
import Derived.Test.YtjoglnjpgkobeaaGreatDoorS18
import Derived.Test.YtjoglnjpgkobeaaGreatDoorS30
import Derived.Test.YtjoglnjpgkobeaaGreatDoorS31
import Derived.Test.YtjoglnjpgkobeaaGreatDoorS1
set_option linter.all false
set_option linter.unusedVariables false
set_option linter.unusedSimpArgs false
namespace Go.Proofs.YtjoglnjpgkobeaaGreatDoor
open Go Go.RowKit
def putM (f : List Mdl) (k : Nat) (l : List Itm) : List Mdl := f.mapIdx fun i m => if i = k then ⟨m.name, m.params, m.ports, m.items ++ l⟩ else m
def under (s : ByteArray) : ByteArray := s ++ ⟨#[95]⟩
end Go.Proofs.YtjoglnjpgkobeaaGreatDoor
namespace Go.Proofs.YtjoglnjpgkobeaaGreatDoor
open Go Go.RowKit
attribute [local go_sem] run_store_one
theorem oper_append_flat {P : Program} {w : World} {o : Oper} {a : Act} {K : Act → World → Prop} {Q : Exit → Act → World → Prop} (s x : Operand) (t : TypeId)
   (ho : o.op = .call { callee := .builtin .append, args := #[s, x], argTypes := #[t, t] })
   (base : Nat) (e : TypeId) (i : TypeInfo) (z : Value) (size bytes : Nat) (ht : P.underlying t = some (.slice e)) (hi : P.info? e = some i) (hz : i.zero = some z)
   (hsize : i.size = size) (hby : i.bytes = bytes) (hzs : z.cells.size = size) (hsz : 0 < size) (hb : bytes ≤ 1000)
   (v : Value) (n : Nat) (xs : List Value) (hs : a.eval s = v) (hown : w.ownsRow base e size v n xs)
   (A : Option Addr) (m c : Nat) (news : List Value) (hx : a.eval x = .slice A m c) (hr : Flat w size A m news)
   (hn : n ≤ 1000000000) (hm : m ≤ 1000000000) (hbase : base ≤ w.heap.size)
   (h : ∀ v' w', w'.ownsRow base e size v' (n + m) (xs ++ news) → w.grownBy w' v.ownBlock → (∀ g, v'.ownBlock = some g → v.ownBlock = some g ∨ w.heap.size ≤ g) → K (a.put o.dst v') w') : o.wp P a w K Q := by
 obtain ⟨v', w', hrun, h2, h3, h4⟩ := run_append_flat (P := P) w base t o.type e i z size bytes ht hi hz hsize hby hzs hsz hb v n xs hown A m c news hr hn hm hbase
 unfold Oper.wp execOp
 simp only [ho, resolve, invoke, builtin, Sem.run_bind, Sem.run_pure, Result.andThen_ok, List.map_toArray, List.map_cons, List.map_nil, hs, hx, hrun]
 exact h v' w' h2 h3 h4
theorem OwnL.kept {α : Type} {R : α → List Value → Prop} {base : Nat} {e : TypeId} {sz : Nat} {l : List α} {v : Value} {X Y : World} {r : Option Nat} (h : OwnL R base e sz l v X) (hg : X.grownBy Y r) (hr : ∀ b, r = some b → v.ownBlock ≠ some b) : OwnL R base e sz l v Y := by
 obtain ⟨xs, h1, h2⟩ := h.ex
 refine ⟨xs, h1.kept hg ?_, h2⟩
 cases hv : v.ownBlock with
 | none => exact .inl rfl
 | some b => exact .inr fun e => hr b e.symm hv
def RPut (w : World) (B : Nat) (d : Prop) (x : Mdl) (l : List Itm) (v1 v2 vi : Value) (m : Mdl) (cs : List Value) : Prop := RM w B m cs ∨ d ∧ m = ⟨x.name, x.params, x.ports, x.items ++ l⟩ ∧ cs = [.string x.name, v1, v2, vi] ∧ Sl (RB w B) w B 7 x.params v1 ∧ Sl (RP w B) w B 8 x.ports v2
structure PutI (w : World) (B : Nat) (f : List Mdl) (k : Nat) (l : List Itm) (x : Mdl) (i : Nat) (X : World) : Prop where
 ext : Ext w X
 ex : ∃ v v1 v2 vi, Blk X (w.heap.size) 24 [v] ∧ OwnL (RPut w B (k < i) x l v1 v2 vi) (w.heap.size + 1) 33 4 ((putM f k l).take i) v X ∧
   (k < i → OwnL (RI w B) (w.heap.size + 1) 53 9 (x.items ++ l) vi X ∧ ∀ b, vi.ownBlock = some b → v.ownBlock ≠ some b)
theorem OwnL.lower {α : Type} {R : α → List Value → Prop} {base base' : Nat} {e : TypeId} {sz : Nat} {l : List α} {v : Value} {X : World} (h : OwnL R base e sz l v X) (hb : base' ≤ base) : OwnL R base' e sz l v X := by
 obtain ⟨xs, h1, h2⟩ := h.ex
 refine ⟨xs, ⟨h1.1, ?_⟩, h2⟩
 rcases h1.2 with h3 | ⟨g, cap, cur, h3, h4, h5⟩
 · exact .inl h3
 · exact .inr ⟨g, cap, cur, h3, Nat.le_trans hb h4, h5⟩
theorem RPut.turn {w : World} {B : Nat} {d d' : Prop} {x : Mdl} {l : List Itm} {v1 v2 vi v1' v2' vi' : Value} {m : Mdl} {cs : List Value} (h : RPut w B d x l v1 v2 vi m cs) (hd : ¬ d) : RPut w B d' x l v1' v2' vi' m cs := by
 rcases h with h | h
 · exact .inl h
 · exact absurd h.1 hd
theorem RPut.on {w : World} {B : Nat} {d d' : Prop} {x : Mdl} {l : List Itm} {v1 v2 vi : Value} {m : Mdl} {cs : List Value} (h : RPut w B d x l v1 v2 vi m cs) (hd : d → d') : RPut w B d' x l v1 v2 vi m cs := by
 rcases h with h | h
 · exact .inl h
 · exact .inr ⟨hd h.1, h.2⟩
structure PutB (w : World) (B : Nat) (f : List Mdl) (k : Nat) (l : List Itm) (x : Mdl) (i : Nat) (v v1 v2 vi : Value) (X : World) : Prop where
 ext : Ext w X
 box : Blk X (w.heap.size) 24 [v]
 row : OwnL (RPut w B (k < i + 1) x l v1 v2 vi) (w.heap.size + 1) 33 4 ((putM f k l).take i) v X
 itm : k < i + 1 → OwnL (RI w B) (w.heap.size + 1) 53 9 (x.items ++ l) vi X ∧ ∀ b, vi.ownBlock = some b → v.ownBlock ≠ some b
 big : w.heap.size + 1 ≤ X.heap.size
theorem PutB.later {w : World} {B : Nat} {f : List Mdl} {k : Nat} {l : List Itm} {x : Mdl} {i : Nat} {v v1 v2 vi : Value} {X Y : World} (h : PutB w B f k l x i v v1 v2 vi X) (hx : Ext X Y) : PutB w B f k l x i v v1 v2 vi Y :=
 ⟨h.ext.trans hx, h.box.ext hx, h.row.later hx, fun hk => ⟨(h.itm hk).1.later hx, (h.itm hk).2⟩, Nat.le_trans h.big hx.size⟩
theorem PutB.push {w : World} {B : Nat} {f : List Mdl} {k : Nat} {l : List Itm} {x : Mdl} {i : Nat} {v v1 v2 vi v' : Value} {X Y : World} {m : Mdl} (h : PutB w B f k l x i v v1 v2 vi X) (hm : (putM f k l).take (i + 1) = (putM f k l).take i ++ [m])
   (hown : OwnL (RPut w B (k < i + 1) x l v1 v2 vi) (w.heap.size + 1) 33 4 ((putM f k l).take i ++ [m]) v' Y) (hg : X.grownBy Y v.ownBlock) (hf : ∀ g, v'.ownBlock = some g → v.ownBlock = some g ∨ X.heap.size ≤ g) :
   (Y.cell? ⟨w.heap.size, 0, none⟩ = some v ∧ Y.frozen? ⟨w.heap.size, 0, none⟩ = false) ∧ PutI w B f k l x (i + 1) (Y.setCell ⟨w.heap.size, 0, none⟩ v') := by
 have hge : ∀ b, v.ownBlock = some b → w.heap.size + 1 ≤ b := fun b hb => (h.row.lt b hb).1
 have hbx := blk_beside h.box hg (fun b hb => by have := hge b hb; omega)
 refine ⟨⟨hbx.get1, hbx.free1⟩, ?_, v', v1, v2, vi, hbx.store1 v', ?_, fun hk => ?_⟩
 · exact (h.ext.grown hg (fun b hb => by have := hge b hb; omega)).setCell (Nat.le_refl _) _
 · rw [hm]
   exact hown.beside (setCell_grown _ _ _ _) (fun b hb => by cases hb; omega)
 · obtain ⟨h1, h2⟩ := h.itm hk
   have h3 := h1.kept hg (fun b hb e => h2 b e hb)
   refine ⟨h3.beside (setCell_grown _ _ _ _) (fun b hb => by cases hb; omega), fun b hb e => ?_⟩
   rcases hf b e with hf | hf
   · exact h2 b hb hf
   · have := (h1.lt b hb).2
     omega
theorem OwnL.same {α : Type} {R : α → List Value → Prop} {base : Nat} {e : TypeId} {sz : Nat} {l : List α} {v : Value} {X Y : World} (h : OwnL R base e sz l v X) (hY : ∀ b, v.ownBlock = some b → Y.heap[b]? = X.heap[b]?) : OwnL R base e sz l v Y := by
 obtain ⟨xs, h1, h2⟩ := h.ex
 refine ⟨xs, ⟨h1.1, ?_⟩, h2⟩
 rcases h1.2 with h3 | ⟨g, cap, cur, rfl, h4, h5, h6⟩
 · exact .inl h3
 · exact .inr ⟨g, cap, cur, rfl, h4, (hY g rfl).trans h5, h6⟩
def Held (Q : World → Prop) (B s e : Nat) (w : World) : Prop := e ≤ w.heap.size ∧ ∀ Y : World, w.heap.size ≤ Y.heap.size → (∀ b, b < B → Y.heap[b]? = w.heap[b]?) → (∀ b, s ≤ b → b < e → Y.heap[b]? = w.heap[b]?) → Q Y
theorem Held.ext {Q : World → Prop} {B s e : Nat} {w w' : World} (h : Held Q B s e w) (hx : Ext w w') (hB : B ≤ w.heap.size) : Held Q B s e w' :=
 ⟨Nat.le_trans h.1 hx.size, fun Y h0 h1 h2 => h.2 Y (Nat.le_trans hx.size h0) (fun b hb => (h1 b hb).trans (hx.heap (by omega))) (fun b hb he => (h2 b hb he).trans (hx.heap (Nat.lt_of_lt_of_le he h.1)))⟩
theorem Held.beside {Q : World → Prop} {B s e g : Nat} {w w' : World} (h : Held Q B s e w) (hg : w.grownBy w' (some g)) (hB : B ≤ g) (hBw : B ≤ w.heap.size) (hse : g < s ∨ e ≤ g) : Held Q B s e w' :=
 ⟨Nat.le_trans h.1 hg.size, fun Y h0 h1 h2 => h.2 Y (Nat.le_trans hg.size h0) (fun b hb => (h1 b hb).trans (hg.block b (by omega) (fun e => by injection e with e; omega))) (fun b hb he => (h2 b hb he).trans (hg.block b (Nat.lt_of_lt_of_le he h.1) (fun e => by injection e with e; omega)))⟩
theorem oper_append_own2 {α : Type} {R : α → List Value → Prop} {P : Program} {w : World} {o : Oper} {a : Act} {K : Act → World → Prop} {Q : Exit → Act → World → Prop} (s x : Operand) (t : TypeId)
   (ho : o.op = .call { callee := .builtin .append, args := #[s, x], argTypes := #[t, t] })
   (base : Nat) (e : TypeId) (z : Value) (size bytes : Nat) (hi : (P.info? e).map (fun i => (i.zero, i.size, i.bytes)) = some (some z, size, bytes)) (ht : P.underlying t = some (.slice e))
   (hzs : z.cells.size = size) (hsz : 0 < size) (hb : bytes ≤ 1000)
   (l r : List α) (v : Value) (hs : a.eval s = v) (hown : OwnL R base e size l v w)
   (A : Option Addr) (c : Nat) (ys : List Value) (hx : a.eval x = .slice A r.length c) (hr : Flat w size A r.length ys) (hy : Fl R size r ys)
   (hn : l.length ≤ 1000000000) (hm : r.length ≤ 1000000000) (hbase : base ≤ w.heap.size)
   (h : ∀ v' w', OwnL R base e size (l ++ r) v' w' → w.grownBy w' v.ownBlock → (∀ g, v.ownBlock = some g → base ≤ g ∧ g < w.heap.size) → (∀ g, v'.ownBlock = some g → v.ownBlock = some g ∨ w.heap.size ≤ g) → K (a.put o.dst v') w') : o.wp P a w K Q := by
 obtain ⟨xs, h1, h2⟩ := hown.ex
 obtain ⟨ti, hti, htz, hts, htb⟩ := info_parts hi
 refine oper_append_flat s x t ho base e ti z size bytes ht hti htz hts htb hzs hsz hb v l.length xs hs h1 A r.length c ys hx hr hn hm hbase ?_
 intro v' w' hown' hg hf
 exact h v' w' ⟨xs ++ ys, by rw [List.length_append]; exact hown', h2.append hy⟩ hg (fun g hg => h1.lt g hg) hf
theorem orb_ne {L : Nat → Bool} (i j : Nat) (h : (i == j) = false) : (L i || i == j) = L i := by rw [h, Bool.or_false]
theorem orb_eq {L : Nat → Bool} (i : Nat) : (L i || i == i) = true := by simp
section
variable {R : Mdl → List Value → Prop} {N0 : Nat} {f : List Mdl} {nm : ByteArray} {L : Nat → Bool} {A : Act} {w w' : World}
end
set_option maxRecDepth 20000 in
set_option maxHeartbeats 1000000 in
theorem rapart_any (a b : List ByteArray) (w : World) (va vb : Value) (hA : SStr w a va) (hB : SStr w b vb) (hla : a.length ≤ 1000000000) (hlb : b.length ≤ 1000000000) :
   Calls Tryz.prog 119 #[va, vb] w fun e w' => e = .returned (.bool (yes (∀ s, s ∈ a → ¬ s ∈ b))) ∧ w' = w := by
 obtain ⟨la, lc, rfl, -, hr⟩ := hA
 have HB := hide hB
 have HR := hide hr
 clear hB hr
 go_enter Tryz.func119, Tryz.ntmps119
 go_wp2_with fail
 go_loop [5] (fun i => ∃ k : Nat, k ≤ a.length ∧ i = .int .i64 k ∧ ∀ j, ∀ h : j < a.length, j < k → ¬ a[j] ∈ b) (fun i => a.length - (intOf i).toNat)
 case atStart => exact ⟨0, Nat.zero_le _, rfl, fun j h hj => absurd hj (by omega)⟩
 case round =>
   obtain ⟨k, hk, rfl, hpre⟩ := hrel
   have HP := hide hpre
   clear hpre
   by_cases hlt : k < a.length
   · obtain ⟨bl, ol, rfl, hcell⟩ := HR.out k hlt
     have KA := hide (refAmong_any b a[k] w vb HB.out hlb)
     by_cases hin : a[k] ∈ b
     · have HF := hide (show yes (∀ s, s ∈ a → ¬ s ∈ b) = false from yes_no.2 fun h => h _ (List.getElem_mem hlt) hin)
       rw [yes_iff.2 hin] at KA
       clear hin
       generalize a[k] = s at *
       go_wp2_with (go_at_call 26; refine KA.out.mono ?_; rintro _ _ ⟨rfl, rfl⟩)
       go_ret
       exact ⟨by rw [HF.out]; rfl, rfl⟩
     · have HN := hide (show ∀ j, ∀ h : j < a.length, j < k + 1 → ¬ a[j] ∈ b from fun j h hj => if e : j = k then by subst e; exact hin else HP.out j h (by omega))
       rw [yes_no.2 hin] at KA
       clear hin
       generalize a[k] = s at *
       go_wp2_with (go_at_call 26; refine KA.out.mono ?_; rintro _ _ ⟨rfl, rfl⟩)
       go_round
       case rel => exact ⟨k + 1, by omega, by go_num, HN.out⟩
       case measure => simp [intOf]; omega
   · have hkl : k = a.length := by omega
     subst hkl
     have HF := hide (show yes (∀ s, s ∈ a → ¬ s ∈ b) = true from yes_iff.2 fun s hs => by
       obtain ⟨j, hj, rfl⟩ := List.getElem_of_mem hs
       exact HP.out j hj hj)
     go_wp2_with fail
     go_ret
     exact ⟨by rw [HF.out]; rfl, rfl⟩
set_option maxRecDepth 20000 in
set_option maxHeartbeats 1000000 in
theorem rbehind_any (a b : List ByteArray) (w : World) (va vb : Value) (hA : SStr w a va) (hB : SStr w b vb) (hla : a.length ≤ 1000000000) (hlb : b.length ≤ 1000000000) :
   Calls Tryz.prog 40 #[va, vb] w fun e w' => e = .returned (.bool (yes (∀ s, s ∈ a → s ∈ b))) ∧ w' = w := by
 obtain ⟨la, lc, rfl, -, hr⟩ := hA
 have HB := hide hB
 have HR := hide hr
 clear hB hr
 go_enter Tryz.func40, Tryz.ntmps40
 go_wp2_with fail
 go_loop [5] (fun i => ∃ k : Nat, k ≤ a.length ∧ i = .int .i64 k ∧ ∀ j, ∀ h : j < a.length, j < k → a[j] ∈ b) (fun i => a.length - (intOf i).toNat)
 case atStart => exact ⟨0, Nat.zero_le _, rfl, fun j h hj => absurd hj (by omega)⟩
 case round =>
   obtain ⟨k, hk, rfl, hpre⟩ := hrel
   have HP := hide hpre
   clear hpre
   by_cases hlt : k < a.length
   · obtain ⟨bl, ol, rfl, hcell⟩ := HR.out k hlt
     have KA := hide (refAmong_any b a[k] w vb HB.out hlb)
     by_cases hin : a[k] ∈ b
     · have HN := hide (show ∀ j, ∀ h : j < a.length, j < k + 1 → a[j] ∈ b from fun j h hj => if e : j = k then by subst e; exact hin else HP.out j h (by omega))
       rw [yes_iff.2 hin] at KA
       clear hin
       generalize a[k] = s at *
       go_wp2_with (go_at_call 26; refine KA.out.mono ?_; rintro _ _ ⟨rfl, rfl⟩)
       go_round
       case rel => exact ⟨k + 1, by omega, by go_num, HN.out⟩
       case measure => simp [intOf]; omega
     · have HF := hide (show yes (∀ s, s ∈ a → s ∈ b) = false from yes_no.2 fun h => hin (h _ (List.getElem_mem hlt)))
       rw [yes_no.2 hin] at KA
       clear hin
       generalize a[k] = s at *
       go_wp2_with (go_at_call 26; refine KA.out.mono ?_; rintro _ _ ⟨rfl, rfl⟩)
       go_ret
       exact ⟨by rw [HF.out]; rfl, rfl⟩
   · have hkl : k = a.length := by omega
     subst hkl
     have HF := hide (show yes (∀ s, s ∈ a → s ∈ b) = true from yes_iff.2 fun s hs => by
       obtain ⟨j, hj, rfl⟩ := List.getElem_of_mem hs
       exact HP.out j hj hj)
     go_wp2_with fail
     go_ret
     exact ⟨by rw [HF.out]; rfl, rfl⟩
theorem lpSs_iff {C : ByteArray → Prop} {l : List S} : lpSs C l ↔ ∀ x, x ∈ l → lpS C x := by
 induction l with
 | nil => simp [lpSs]
 | cons x l ih => simp [lpSs, ih]
theorem inIs_iff {C : ByteArray → Prop} {l : List Itm} : inIs C l ↔ ∀ x, x ∈ l → inI C x := by
 induction l with
 | nil => simp [inIs]
 | cons x l ih => simp [inIs, ih]
set_option maxRecDepth 20000 in
set_option maxHeartbeats 2000000 in
theorem rloops_lt (B : Nat) (m : Nat) : ∀ (l : List S) (w : World) (v va : Value) (ar : List ByteArray), Sl (RS w B) w B 4 l v → B ≤ w.heap.size → SStr w ar va → ar.length + msize sizeS l ≤ 400000000 → msize sizeS l < m →
   Calls Tryz.prog 118 #[v, va] w fun e w' => e = .returned (.bool (yes (lpSs (fun s => s ∈ ar) l))) ∧ Ext w w' := by
 induction m with
 | zero => intro l w v va ar _ _ _ _ h; omega
 | succ m ih =>
 intro l w v va ar hS hB hO hsz hm
 obtain ⟨a, cap, rfl, hcap, hrow⟩ := hS
 have hln := length_le_msize sizeS l sizeS_pos
 have IH := hide ih
 have HO := hide hO
 clear ih hO
 go_enter Tryz.func118, Tryz.ntmps118
 go_wp2_with fail
 go_loopw [5] (fun i wr => ∃ k : Nat, k ≤ l.length ∧ i = .int .i64 k ∧ (∀ j, ∀ h : j < l.length, j < k → lpS (fun s => s ∈ ar) l[j]) ∧ Ext w wr) (fun i _ => l.length - (intOf i).toNat)
 case atStart => exact ⟨0, Nat.zero_le _, rfl, fun j h hj => absurd hj (by omega), Ext.refl _⟩
 case round =>
   obtain ⟨k, hk, rfl, hpre, hx⟩ := hrel
   have HP := hide hpre
   clear hpre
   by_cases hlt : k < l.length
   · have hs2 := msize_mem sizeS l l[k] (List.getElem_mem hlt)
     have HMEM := hide (List.getElem_mem hlt)
     have HNEXT := hide (show lpS (fun s => s ∈ ar) l[k] → ∀ j, ∀ h : j < l.length, j < k + 1 → lpS (fun s => s ∈ ar) l[j] from fun hin j h hj => if e : j = k then by subst e; exact hin else HP.out j h (by omega))
     have HFALSE := hide (show ¬ lpS (fun s => s ∈ ar) l[k] → yes (lpSs (fun s => s ∈ ar) l) = false from fun hin => yes_no.2 fun h => hin (lpSs_iff.1 h _ (List.getElem_mem hlt)))
     obtain ⟨b, o, v0, v1, v2, v3, rfl, hbB, hE, hC, o0, o1, o2, o3⟩ := hrow.open4 hlt
     generalize l[k] = y at *
     obtain ⟨_, _, he, hX, hL⟩ := RS_iff.1 hE
     simp only [List.cons.injEq, and_true] at he
     obtain ⟨rfl, rfl, rfl, rfl⟩ := he
     obtain ⟨d0, d1, d2, d3⟩ := (hC.ext hx).get4
     have HC := hide (hC.ext hx)
     have hdef := sizeS_eq y
     have hB' : B ≤ wr.heap.size := Nat.le_trans hB hx.size
     have HL := hide (fun (w' : World) (hw : Ext wr w') => hL.extRS (hx.trans hw) hB)
     have m1 : msize sizeS y.l < m := by omega
     have hlen : ar.length + 1 + msize sizeS y.l ≤ 400000000 := by omega
     have HX := hide hx
     have HS := hide (HO.out.ext hx)
     clear hC hrow hE hX hL hs2 hx
     by_cases h6 : y.op = 6
     · rw [h6] at d0
       have KA := hide (refAmong_any ar y.name wr va HS.out (by omega))
       by_cases hin : y.name ∈ ar
       · have HF := hide (HFALSE.out fun h => ((lpS_eq _ _).1 h).1 h6 hin)
         rw [yes_iff.2 hin] at KA
         clear hin h6
         go_wp2_with (go_at_call 26; refine KA.out.mono ?_; rintro _ _ ⟨rfl, rfl⟩)
         go_ret
         exact ⟨by rw [HF.out]; rfl, HX.out⟩
       · rw [yes_no.2 hin] at KA
         have HM := hide (rmore_any ar y.name wr va HS.out (by omega))
         have hal := addAll_le [y.name] ar
         have HQ := hide (show lpSs (fun s => s ∈ addOne ar y.name) y.l ↔ lpS (fun s => s ∈ ar) y from by
           rw [lpS_eq]
           have hc : ∀ s, s ∈ addOne ar y.name ↔ s ∈ ar ∨ y.op = 6 ∧ s = y.name := fun s => by rw [memA_one]; simp [h6]
           rw [lps_congr hc]
           exact ⟨fun h => ⟨fun _ => hin, h⟩, fun h => h.2⟩)
         have hal2 : (addOne ar y.name).length ≤ ar.length + 1 := hal
         clear hin h6 hal
         go_wp2_with (go_at_call 26; refine KA.out.mono ?_; rintro _ _ ⟨rfl, rfl⟩)
         go_at_call 53
         refine HM.out.mono ?_
         rintro _ w1 ⟨x1, rfl, hs1, hx1⟩
         obtain ⟨d0, d1, d2, d3⟩ := (HC.out.ext hx1).get4
         have KL := hide (IH.out y.l w1 _ x1 _ (HL.out w1 hx1) (Nat.le_trans hB' hx1.size) hs1 (by omega) m1)
         have HX1 := hide (HX.out.trans hx1)
         clear hs1 hx1 HM KA
         by_cases hq : lpSs (fun s => s ∈ addOne ar y.name) y.l
         · rw [yes_iff.2 hq] at KL
           have HN := hide (HNEXT.out (HQ.out.1 hq))
           clear hq
           go_wp2_with fail
           go_at_call 118
           refine KL.out.mono ?_
           rintro _ w2 ⟨rfl, hx2⟩
           have HX2 := hide (HX1.out.trans hx2)
           clear hx2
           go_wp2_with fail
           go_roundw
           case rel => exact ⟨k + 1, by omega, by go_num, HN.out, HX2.out⟩
           case measure => simp [intOf]; omega
         · rw [yes_no.2 hq] at KL
           have HF := hide (HFALSE.out fun h => hq (HQ.out.2 h))
           clear hq
           go_wp2_with fail
           go_at_call 118
           refine KL.out.mono ?_
           rintro _ w2 ⟨rfl, hx2⟩
           have HX2 := hide (HX1.out.trans hx2)
           clear hx2
           go_wp2_with fail
           go_ret
           exact ⟨by rw [HF.out]; rfl, HX2.out⟩
     · have h6' : ((y.op : Int) == 6) = false := by simpa using h6
       have HQ := hide (show lpSs (fun s => s ∈ ar) y.l ↔ lpS (fun s => s ∈ ar) y from by
         rw [lpS_eq]
         have hc : ∀ s, s ∈ ar ↔ s ∈ ar ∨ y.op = 6 ∧ s = y.name := fun s => by simp [h6]
         rw [lps_congr hc]
         exact ⟨fun h => ⟨fun h' => absurd h' h6, h⟩, fun h => h.2⟩)
       have KL := hide (IH.out y.l wr _ va _ (HL.out wr (Ext.refl _)) hB' HS.out (by omega) m1)
       generalize y.op = yo at *
       clear h6
       by_cases hq : lpSs (fun s => s ∈ ar) y.l
       · rw [yes_iff.2 hq] at KL
         have HN := hide (HNEXT.out (HQ.out.1 hq))
         clear hq
         go_wp2_with fail
         go_at_call 118
         refine KL.out.mono ?_
         rintro _ w2 ⟨rfl, hx2⟩
         have HX2 := hide (HX.out.trans hx2)
         clear hx2
         go_wp2_with fail
         go_roundw
         case rel => exact ⟨k + 1, by omega, by go_num, HN.out, HX2.out⟩
         case measure => simp [intOf]; omega
       · rw [yes_no.2 hq] at KL
         have HF := hide (HFALSE.out fun h => hq (HQ.out.2 h))
         clear hq
         go_wp2_with fail
         go_at_call 118
         refine KL.out.mono ?_
         rintro _ w2 ⟨rfl, hx2⟩
         have HX2 := hide (HX.out.trans hx2)
         clear hx2
         go_wp2_with fail
         go_ret
         exact ⟨by rw [HF.out]; rfl, HX2.out⟩
   · have hkl : k = l.length := by omega
     subst hkl
     have HF := hide (show yes (lpSs (fun s => s ∈ ar) l) = true from yes_iff.2 (lpSs_iff.2 fun x hx => by
       obtain ⟨j, hj, rfl⟩ := List.getElem_of_mem hx
       exact HP.out j hj hj))
     go_wp2_with fail
     go_ret
     exact ⟨by rw [HF.out]; rfl, hx⟩
set_option maxRecDepth 20000 in
set_option maxHeartbeats 1000000 in
theorem rnames_any (B : Nat) (f : List Mdl) (w : World) (vf : Value) (hS : Sl (RM w B) w B 4 f vf) (hB : B ≤ w.heap.size) (hsz : f.length ≤ 1000000) :
   Calls Tryz.prog 38 #[.agg #[vf]] w fun e w' => ∃ v, e = .returned v ∧ w'.ownsRow w.heap.size 9 1 v (namesF f).length ((namesF f).map .string) ∧ Ext w w' := by
 obtain ⟨a, cap, rfl, hcap, hrow⟩ := hS
 have HROW := hide hrow
 obtain ⟨ti, hti, htz, hts, htb⟩ := info_parts infoT
 obtain ⟨W1, hW1, hx1, hb1⟩ := box1 w (.slice a f.length cap) 24
 have hV1 := hW1.symm
 have BX := hide hb1
 have X1 := hide hx1
 have hb0 : w.heap.size ≤ W1.heap.size := hx1.size
 clear hcap hrow hW1 hx1 hb1
 go_enter Tryz.func38, Tryz.ntmps38
 go_wp2_with fail
 clear hV1
 go_loopw [3, 4] (fun vr i wr => ∃ k : Nat, k ≤ f.length ∧ i = .int .i64 k ∧ wr.ownsRow W1.heap.size 9 1 vr k ((namesF (f.take k)).map .string) ∧ Ext W1 wr) (fun _ i _ => f.length - (intOf i).toNat)
 case atStart => exact ⟨0, Nat.zero_le _, rfl, World.ownsRow_nil _ _ _ _, Ext.refl _⟩
 case round =>
   obtain ⟨k, hk, rfl, how, hx⟩ := hrel
   have HO := hide how
   have hfb := (BX.out.ext hx).get1
   by_cases hlt : k < f.length
   · obtain ⟨b, o, v0, v1, v2, v3, rfl, hbB, hR, hC, o0, o1, o2, o3⟩ := HROW.out.open4 hlt
     have HNM := hide (show (namesF (f.take (k + 1))).map Value.string = (namesF (f.take k)).map .string ++ [.string f[k].name] from by rw [names_take hlt]; simp)
     obtain ⟨v1', v2', v3', hcs, -, -, -⟩ := hR
     simp only [List.cons.injEq, and_true] at hcs
     obtain ⟨rfl, rfl, rfl, rfl⟩ := hcs
     obtain ⟨d0, -, -, -⟩ := (hC.ext (X1.out.trans hx)).get4
     have HX := hide hx
     have hbw := hx.size
     obtain ⟨va, vc, rfl⟩ := row_shape how
     obtain ⟨W2, hW2, hx2, hb2⟩ := box1 wr (.string f[k].name) 9
     have hV2 := hW2.symm
     have HO2 := hide (row_kept_ext HO.out hx2)
     have HF2 := hide (show Flat W2 1 (some ⟨wr.heap.size, 0, none⟩) 1 [.string f[k].name] from ⟨rfl, (by intro u hu; simp at hu; subst hu; rfl), fun _ => ⟨_, _, rfl, hb2.cells⟩⟩)
     have HX2 := hide (hx.trans hx2)
     have hbw2 : W1.heap.size ≤ W2.heap.size := HX2.out.size
     clear hC hx how hW2 hx2 hb2
     generalize f[k].name = nm at *
     go_wp2_with (first
       | (at_builtin; refine wpList_append_flat rfl _ _ 38 rfl W1.heap.size 9 ti _ 1 16 Tryz.underlying38 hti htz hts htb rfl (by decide) (by decide) (.slice va k vc) k ((namesF (f.take k)).map .string) rfl HO2.out (some ⟨wr.heap.size, 0, none⟩) 1 1 [.string nm] rfl HF2.out (by omega) (by omega) hbw2 ?_; intro v5 w5 hown5 hg5 hf5
          have hx5 := HX2.out.grown hg5 (fun r hr => (HO2.out.lt r hr).1)
          have H5 := hide (And.intro hown5 hx5)
          clear hown5 hg5 hf5 hx5 hV2))
     go_roundw
     case rel => exact ⟨k + 1, by omega, by go_num, by rw [HNM.out]; exact H5.out.1, H5.out.2⟩
     case measure => simp [intOf]; omega
   · have hkl : k = f.length := by omega
     subst hkl
     rw [List.take_length] at HO
     have HZ := hide (row_lower HO.out hb0)
     have HXZ := hide (X1.out.trans hx)
     have hln : (namesF f).length = f.length := by simp [namesF]
     clear how hx
     go_wp2_with fail
     go_ret
     exact ⟨_, rfl, by rw [hln]; exact HZ.out, HXZ.out⟩
theorem fl_str {l : List ByteArray} {xs : List Value} (h : Fl RStr 1 l xs) : xs = l.map .string := by
 have hl := h.len
 apply List.ext_getElem
 · simpa using hl
 · intro i h1 h2
   have hi : i < l.length := by simpa using h2
   have hr := h.rel i hi
   unfold RStr at hr
   rw [Nat.mul_one, List.drop_eq_getElem_cons h1, List.take_succ_cons, List.take_zero] at hr
   simp at hr
   simp [hr]
theorem str_fl (l : List ByteArray) : Fl RStr 1 l (l.map .string) := by
 refine ⟨by simp, one_strs l, fun k hk => ?_⟩
 unfold RStr
 rw [Nat.mul_one, List.drop_eq_getElem_cons (by simpa using hk), List.take_succ_cons, List.take_zero]
 simp
theorem OwnL.str {base : Nat} {l : List ByteArray} {v : Value} {X : World} (h : OwnL RStr base 9 1 l v X) : SStr X l v := by
 obtain ⟨xs, h1, h2⟩ := h.ex
 exact SStr.of_own h1 rfl (fl_str h2)
structure InJ (N0 : Nat) (ar own : List ByteArray) (L : Nat → Bool) (τ : Tmp → Value) (w : World) : Prop where
 new : L 13 = true → L 15 = false → ∃ g, τ 68 = .slice (some ⟨g, 0, none⟩) 0 0 ∧ OwnL RStr N0 9 1 ([] : List ByteArray) (.slice (some ⟨g, 0, none⟩) 0 0) w
 row15 : L 15 = true → L 18 = false → OwnL RStr N0 9 1 ar (τ 70) w
 row18 : L 18 = true → OwnL RStr N0 9 1 (ar ++ own) (τ 73) w
 o15 : L 15 = true → L 13 = true
 o18 : L 18 = true → L 15 = true
 big : N0 ≤ w.heap.size
section
variable {N0 : Nat} {ar own : List ByteArray} {L : Nat → Bool} {A : Act} {w w' : World}
theorem inJ_looks : Looks (InJ N0 ar own) [13, 15, 18] [68, 70, 73] := by
 intro L L' τ τ' w w' hL hτ hx h
 have e13 : L' 13 = L 13 := hL 13 (by simp)
 have e15 : L' 15 = L 15 := hL 15 (by simp)
 have e18 : L' 18 = L 18 := hL 18 (by simp)
 have t68 : τ' 68 = τ 68 := hτ 68 (by simp)
 have t70 : τ' 70 = τ 70 := hτ 70 (by simp)
 have t73 : τ' 73 = τ 73 := hτ 73 (by simp)
 refine ⟨?_, ?_, ?_, ?_, ?_, Nat.le_trans h.big hx.size⟩
 · rw [e13, e15, t68]; exact fun a b => by obtain ⟨g, h1, h2⟩ := h.new a b; exact ⟨g, h1, h2.later hx⟩
 · rw [e15, e18, t70]; exact fun a b => (h.row15 a b).later hx
 · rw [e18, t73]; exact fun a => (h.row18 a).later hx
 · rw [e15, e13]; exact h.o15
 · rw [e18, e15]; exact h.o18
theorem inJ_no15 (h : InJ N0 ar own L (tau A) w) (h13 : L 13 = false) : L 15 = false := by
 cases e : L 15 with
 | false => rfl
 | true => rw [h.o15 e] at h13; cases h13
theorem inJ_no18 (h : InJ N0 ar own L (tau A) w) (h15 : L 15 = false) : L 18 = false := by
 cases e : L 18 with
 | false => rfl
 | true => rw [h.o18 e] at h15; cases h15
theorem inJ_13 (hz : 68 < A.tmps.size) (h13 : L 13 = false) (h : InJ N0 ar own L (tau A) w) :
   InJ N0 ar own (fun j => L j || j == 13) (tau (A.put (some 68) (.slice (some ⟨w.heap.size, 0, none⟩) 0 0))) (w.alloc (.cells #[] 9)) := by
 have h15 := inJ_no15 h h13
 have h18 := inJ_no18 h h15
 refine ⟨fun _ _ => ⟨w.heap.size, by rw [tau_here hz], (OwnL.new w _).lower h.big⟩, ?_, ?_, ?_, ?_, Nat.le_trans h.big (Ext.new w _).size⟩
 · simp only [orb_ne 15 13 rfl, h15]; intro h; cases h
 · simp only [orb_ne 18 13 rfl, h18]; intro h; cases h
 · simp only [orb_ne 15 13 rfl, h15]; intro h; cases h
 · simp only [orb_ne 18 13 rfl, h18]; intro h; cases h
theorem inJ_15 {v : Value} (hz : 70 < A.tmps.size) (h15 : L 15 = false) (h13 : L 13 = true) (h : InJ N0 ar own L (tau A) w) (ho : OwnL RStr N0 9 1 ar v w') (hs : w.heap.size ≤ w'.heap.size) : InJ N0 ar own (fun j => L j || j == 15) (tau (A.put (some 70) v)) w' := by
 have h18 := inJ_no18 h h15
 refine ⟨?_, fun _ _ => by rw [tau_here hz]; exact ho, ?_, ?_, ?_, Nat.le_trans h.big hs⟩
 · simp only [orb_eq]; intro _ h; cases h
 · simp only [orb_ne 18 15 rfl, h18]; intro h; cases h
 · simp only [orb_ne 13 15 rfl]; exact fun _ => h13
 · simp only [orb_ne 18 15 rfl, h18]; intro h; cases h
theorem inJ_18 {v : Value} (hz : 73 < A.tmps.size) (h15 : L 15 = true) (h : InJ N0 ar own L (tau A) w) (ho : OwnL RStr N0 9 1 (ar ++ own) v w') (hs : w.heap.size ≤ w'.heap.size) : InJ N0 ar own (fun j => L j || j == 18) (tau (A.put (some 73) v)) w' := by
 refine ⟨?_, ?_, fun _ => by rw [tau_here hz]; exact ho, ?_, ?_, Nat.le_trans h.big hs⟩
 · simp only [orb_ne 15 18 rfl, h15]; intro _ h; cases h
 · simp only [orb_eq]; intro _ h; cases h
 · simp only [orb_ne 15 18 rfl, orb_ne 13 18 rfl]; exact h.o15
 · simp only [orb_ne 15 18 rfl]; exact fun _ => h15
end
def inF (ar own : List ByteArray) (vals : List Value) (b : Bool) (i : Nat) (v : Value) (_ : World) : Prop := match i with
 | 13 => ∃ g, v = .slice (some ⟨g, 0, none⟩) 0 0
 | 15 => ∃ a c, v = .slice a ar.length c
 | 18 => ∃ a c, v = .slice a (ar.length + own.length) c
 | 19 => v = .bool b
 | 20 => v = .bool (!b)
 | 21 => v = .bool (!b)
 | i => v = vals.getD i undef
end Go.Proofs.YtjoglnjpgkobeaaGreatDoor
namespace Go.Proofs.YtjoglnjpgkobeaaGreatDoor
open Go Go.RowKit
theorem nodup_inj {l : List ByteArray} (h : l.Nodup) {i j : Nat} {hi : i < l.length} {hj : j < l.length} (he : l[i] = l[j]) : i = j := by
 have hp := List.pairwise_iff_getElem.1 h
 rcases Nat.lt_trichotomy i j with hlt | rfl | hlt
 · exact absurd he (hp i j hi hj hlt)
 · rfl
 · exact absurd he.symm (hp j i hj hi hlt)
structure ScanI (f : List Mdl) (top : ByteArray) (s inn out : List ByteArray) : Prop where
 out : out = s.filter fun t => yes (Reach f top t)
 inR : ∀ t, t ∈ inn → Reach f top t
 tin : top ∈ inn
 uses : ∀ b, b ∈ s → Reach f top b → ∀ m, findM f b = some m → ∀ u, u ∈ usesM m → u ∈ inn
theorem scan_start (f : List Mdl) (top : ByteArray) : ScanI f top [] [top] [] :=
 ⟨rfl, fun t h => by rw [List.mem_singleton.1 h]; exact .refl, List.mem_singleton.2 rfl, fun b h => by cases h⟩
theorem scan_inn {f : List Mdl} {top : ByteArray} (h : checkN f = 0) (ht : (findM f top).isSome = true) {i : Nat} (hi : i < (orderF f).length) {inn out : List ByteArray} (hS : ScanI f top ((orderF f).drop (i + 1)) inn out) : (orderF f)[i] ∈ inn ↔ Reach f top (orderF f)[i] := by
 refine ⟨hS.inR _, fun hr => ?_⟩
 have hnd := (orderF_end f).1.nodup
 generalize hx : (orderF f)[i] = x at hr
 cases hr with
 | refl => exact hS.tin
 | step hb hm hc hs =>
   rename_i b m
   have hbo : b ∈ orderF f := (order_all h b).2 (find_isSome.1 (hb.isIn ht))
   obtain ⟨j, hj, hjb⟩ := List.getElem_of_mem hbo
   obtain ⟨m', h1, -, -, h2⟩ := order_law h j hj
   rw [hjb, hm] at h1
   cases h1
   obtain ⟨i', hi', hie⟩ := List.getElem_of_mem (h2 x hc)
   rw [List.length_take] at hi'
   rw [List.getElem_take] at hie
   have hii : i' = i := nodup_inj hnd (hie.trans hx.symm)
   refine hS.uses b ?_ hb m hm x hc
   rw [← hjb]
   have hlt : i < j := by omega
   have : ((orderF f).drop (i + 1))[j - (i + 1)]'(by rw [List.length_drop]; omega) = (orderF f)[j] := by
     rw [List.getElem_drop]
     congr 1
     omega
   rw [← this]
   exact List.getElem_mem _
theorem scan_yes {f : List Mdl} {top : ByteArray} (h : checkN f = 0) (ht : (findM f top).isSome = true) {i : Nat} (hi : i < (orderF f).length) {inn out : List ByteArray} (hS : ScanI f top ((orderF f).drop (i + 1)) inn out) {m : Mdl} (hm : findM f (orderF f)[i] = some m) (hin : (orderF f)[i] ∈ inn) :
   ScanI f top ((orderF f).drop i) (addAll inn (usesM m)) ((orderF f)[i] :: out) := by
 have hr := (scan_inn h ht hi hS).1 hin
 rw [List.drop_eq_getElem_cons hi]
 refine ⟨?_, fun t ht' => ?_, (memA_all _ _).2 (.inl hS.tin), fun b hb hrb m' hm' u hu => (memA_all _ _).2 ?_⟩
 · rw [List.filter_cons, if_pos (yes_iff.2 hr), hS.out]
 · rcases (memA_all _ _).1 ht' with h' | h'
   · exact hS.inR t h'
   · exact reach_uses h hr hm h'
 · rcases List.mem_cons.1 hb with rfl | hb
   · rw [hm] at hm'; cases hm'; exact .inr hu
   · exact .inl (hS.uses b hb hrb m' hm' u hu)
theorem scan_no {f : List Mdl} {top : ByteArray} (h : checkN f = 0) (ht : (findM f top).isSome = true) {i : Nat} (hi : i < (orderF f).length) {inn out : List ByteArray} (hS : ScanI f top ((orderF f).drop (i + 1)) inn out) (hin : ¬ (orderF f)[i] ∈ inn) :
   ScanI f top ((orderF f).drop i) inn out := by
 have hr : ¬ Reach f top (orderF f)[i] := fun h' => hin ((scan_inn h ht hi hS).2 h')
 rw [List.drop_eq_getElem_cons hi]
 refine ⟨?_, hS.inR, hS.tin, fun b hb hrb m' hm' u hu => ?_⟩
 · rw [List.filter_cons, if_neg (by rw [yes_no.2 hr]; decide), hS.out]
 · rcases List.mem_cons.1 hb with rfl | hb
   · exact absurd hrb hr
   · exact hS.uses b hb hrb m' hm' u hu
theorem scan_end {f : List Mdl} {top : ByteArray} {inn out : List ByteArray} (hS : ScanI f top ((orderF f).drop 0) inn out) : out = belowN f top := hS.out
end Go.Proofs.YtjoglnjpgkobeaaGreatDoor
namespace Go.Proofs.YtjoglnjpgkobeaaGreatDoor
open Go Go.RowKit
attribute [local go_sem] run_store_one
def eqF (vals : List Value) (i : Nat) (v : Value) (_ : World) : Prop := v = vals.getD i undef
theorem eqF_ext {vals : List Value} {i : Nat} {v : Value} {w w' : World} (h : eqF vals i v w) (hx : Ext w w') : eqF vals i v w' := h
end Go.Proofs.YtjoglnjpgkobeaaGreatDoor
