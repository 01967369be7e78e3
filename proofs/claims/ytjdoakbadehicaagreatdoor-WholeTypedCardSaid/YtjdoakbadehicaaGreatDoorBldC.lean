/-
  The builder's own check, walked. No condition but the ones that each states.
-/
import Derived.Test.YtjdoakbadehicaaGreatDoorProg
import Derived.Test.YtjdoakbadehicaaGreatDoorMem
import Derived.Test.YtjdoakbadehicaaGreatDoorRow
import Derived.WalkKit
import Derived.Lib.Builder
import Derived.KernelRfl
import Derived.Test.YtjdoakbadehicaaGreatDoorF
import Derived.Test.YtjdoakbadehicaaGreatDoorShelf
import Derived.Laws.Externs
import Derived.Lib.AppendStr
import Derived.Shelf.RegionOpenPlain
namespace Go.Proofs.YtjdoakbadehicaaGreatDoor
open Go Go.Sh Go.RowKit
set_option maxRecDepth 100000
theorem copyCheck_used (b : Nat) (w : World) (h0 : w.cell? ⟨b, 0, none⟩ = some (.pointer (some ⟨b, 0, none⟩))) :
    Calls Tryz.prog 100 #[.pointer (some ⟨b, 0, none⟩)] w fun e w' => e = .returned (.tuple #[]) ∧ w' = w := by
  obtain ⟨j, hj, hjs⟩ : ∃ j, Tryz.prog.info? 108 = some j ∧ j.size = 2 := by
    have h : (Tryz.prog.info? 108).map (·.size) = some 2 := by kernel_rfl
    obtain ⟨j, hj, hjs⟩ := Option.map_eq_some_iff.1 h
    exact ⟨j, hj, hjs⟩
  go_enter Tryz.func100, Tryz.ntmps100
  go_wp2
  rw [Lib.run_neq_ptr_same w _ Tryz.underlying106 hj]
  go_wp2
  go_end0
  exact ⟨rfl, rfl⟩
theorem copyCheck_fresh (b : Nat) (w : World) (h0 : w.cell? ⟨b, 0, none⟩ = some (.pointer none)) (hsh : w.shape? b = some (108, 2)) (hfz : w.frozen? ⟨b, 0, none⟩ = false) :
    Calls Tryz.prog 100 #[.pointer (some ⟨b, 0, none⟩)] w fun e w' => e = .returned (.tuple #[]) ∧ w' = w.setCell ⟨b, 0, none⟩ (.pointer (some ⟨b, 0, none⟩)) := by
  obtain ⟨j, hj, hjs⟩ : ∃ j, Tryz.prog.info? 108 = some j ∧ j.size = 2 := by
    have h : (Tryz.prog.info? 108).map (·.size) = some 2 := by kernel_rfl
    obtain ⟨j, hj, hjs⟩ := Option.map_eq_some_iff.1 h
    exact ⟨j, hj, hjs⟩
  go_enter Tryz.func100, Tryz.ntmps100
  go_wp2
  rw [Lib.run_to_unsafe w ⟨b, 0, none⟩ Tryz.underlying106 Tryz.underlying197 hj (by rw [hjs]; decide) hsh (Nat.zero_lt_succ 1)]
  simp only [Result.andThen]
  rw [Oper.upon_value]
  go_wp2
  rw [run_callFunc_extern Tryz.func143 (by kernel_rfl) (by kernel_rfl) (by kernel_rfl) (e := Extern.AbiNoEscape.same) (by kernel_rfl)]
  rw [Lib.run_noEscape]
  simp only [Result.andThen]
  rw [Oper.upon_value]
  go_wp2
  rw [Lib.run_from_unsafe w ⟨b, 0, none⟩ Tryz.underlying197 Tryz.underlying106 hj hsh (by kernel_rfl)]
  simp only [Result.andThen]
  rw [Oper.upon_value]
  go_wp2
  go_end0
  exact ⟨rfl, rfl⟩
/-- A builder: its own place, or none; its row. -/
def Bld (B : Nat) (w : World) (b : Nat) (v : Value) (l : List Value) : Prop :=
  (∃ p, (p = .pointer none ∨ p = .pointer (some ⟨b, 0, none⟩)) ∧ w.heap[b]? = some (.cells #[p, v] 108 (0, 0))) ∧ Own B w 5 1 v l ∧ ∀ k, ownS v k → k ≠ b
def bldS (b : Nat) (v : Value) : Nat → Prop := fun k => k = b ∨ ownS v k
theorem Bld.lt {B b : Nat} {w : World} {v : Value} {l : List Value} (h : Bld B w b v l) : b < w.heap.size := by obtain ⟨⟨p, _, hb⟩, _⟩ := h; exact lt_get hb
theorem Bld.ge {B b : Nat} {w : World} {v : Value} {l : List Value} (h : Bld B w b v l) {k : Nat} (hk : ownS v k) : B ≤ k := (h.2.1.ge hk).1
theorem Bld.updS {S : Nat → Prop} {B b : Nat} {w w' : World} {v : Value} {l : List Value} (h : Bld B w b v l) (u : Upd S w w') (hs : ∀ k, bldS b v k → ¬ S k) : Bld B w' b v l := by
  obtain ⟨⟨p, hp, hb⟩, ho, hn⟩ := h
  exact ⟨⟨p, hp, u.get hb (hs b (.inl rfl))⟩, ho.updS u (fun k hk => hs k (.inr hk)), hn⟩
theorem Bld.upd0 {B b : Nat} {w w' : World} {v : Value} {l : List Value} (h : Bld B w b v l) (u : Upd no w w') : Bld B w' b v l := h.updS u (fun _ _ => id)
theorem Bld.upd1 {B b g : Nat} {w w' : World} {v : Value} {l : List Value} (h : Bld B w b v l) (u : Upd (· = g) w w') (hs : ∀ k, bldS b v k → k ≠ g) : Bld B w' b v l := h.updS u hs
theorem Bld.new {w : World} {b : Nat} (hb : w.heap[b]? = some (.cells #[.pointer none, .slice none 0 0] 108 (0, 0))) (B : Nat) : Bld B w b (.slice none 0 0) [] :=
  ⟨⟨_, .inl rfl, hb⟩, Own.nil _ _ _ _, fun k hk => by cases hk⟩
theorem setCell_upd {w : World} {b o : Nat} {v : Value} : Upd (· = b) w (w.setCell ⟨b, o, none⟩ v) :=
  ⟨rfl, rfl, rfl, by simp [World.setCell], fun k _ hs => by simp only [World.setCell, Array.getElem?_modify]; rw [if_neg (fun e => hs e.symm)]⟩
theorem c_copyCheck {B b : Nat} {w : World} {v : Value} {l : List Value} (h : Bld B w b v l) :
    Calls Tryz.prog 100 #[.pointer (some ⟨b, 0, none⟩)] w fun e w' => e = .returned (.tuple #[]) ∧ w'.heap[b]? = some (.cells #[.pointer (some ⟨b, 0, none⟩), v] 108 (0, 0)) ∧ w'.heap.size = w.heap.size ∧ Upd (· = b) w w' := by
  obtain ⟨⟨p, rfl | rfl, hb⟩, _⟩ := h
  · refine (copyCheck_fresh b w (by simp [World.cell?, hb]) (by simp [World.shape?, hb]) (by simp [World.frozen?, hb])).mono ?_
    rintro e w' ⟨rfl, rfl⟩
    exact ⟨rfl, by simp [World.setCell, Array.getElem?_modify, hb], by simp [World.setCell], setCell_upd⟩
  · refine (copyCheck_used b w (by simp [World.cell?, hb])).mono ?_
    rintro e w' ⟨rfl, rfl⟩
    exact ⟨rfl, hb, rfl, Fr.refl _ _ _⟩
/-- (*strings.Builder).String -/
theorem c_String {B b : Nat} {w : World} {v : Value} {l : List UInt8} (h : Bld B w b v (Lib.byteCells l)) (hB : B ≤ b) :
    Calls Tryz.prog 60 #[.pointer (some ⟨b, 0, none⟩)] w fun e w' => e = .returned (.string ⟨l.toArray⟩) ∧ Fr no B w w' := by
  have hlt := h.lt
  refine (Tryz.Builder_String_any B b l w ?_ (by omega)).mono fun e w' he => ⟨he.1, Fr.of_below he.2⟩
  obtain ⟨⟨p, hp, hb⟩, ⟨n, ho⟩, hn⟩ := h
  have hn1 : n = (Lib.byteCells l).length := by have := ho.1; omega
  subst hn1
  have hne : v.ownBlock ≠ some b := fun e => hn b e.symm rfl
  rcases hp with rfl | rfl
  · exact .inl ⟨hB, v, hb, ho, hne⟩
  · exact .inr ⟨hB, v, hb, ho, hne⟩
theorem strCells_eq (s : ByteArray) : Lib.strCells s = Lib.byteCells s.data.toList := by
  simp [Lib.strCells, Lib.byteCells]
/-- (*strings.Builder).WriteString -/
theorem c_WriteString {B b : Nat} {s : ByteArray} {w : World} {v : Value} {l : List UInt8} (h : Bld B w b v (Lib.byteCells l)) (hl : l.length ≤ 17592186044416) (hs : s.size ≤ 17592186044416) (hB : B ≤ w.heap.size) :
    Calls Tryz.prog 76 #[.pointer (some ⟨b, 0, none⟩), .string s] w fun e w' => ∃ x, e = .returned x ∧ ∃ v', Bld B w' b v' (Lib.byteCells (l ++ s.data.toList)) ∧ Upd (bldS b v) w w' := by
  refine F76.calls ?_
  unfold F76
  obtain ⟨_, ho, hn⟩ := id h
  refine callF_val (c_copyCheck h) fun w1 ⟨h1, s1, u1⟩ => ?_
  refine nilckp ?_
  refine opv_run (fieldAt_eq (off := 1) (by kernel_rfl)) ?_
  refine opv_run (ldC (by kernel_rfl) h1 (by rfl)) ?_
  have ho1 := ho.upd1 u1 hn
  obtain ⟨n, hr⟩ := id ho1
  have hn1 : n = l.length := by have := hr.1; simp [Lib.byteCells] at this; omega
  subst hn1
  obtain ⟨i, hi, hi1, hi2, hi3⟩ : ∃ i, (Tryz.prog).info? 5 = some i ∧ i.zero = some (.int .u8 0) ∧ i.size = 1 ∧ i.bytes = 1 := by
    have h : (match (Tryz.prog).info? 5 with | some i => (match i.zero with | some (.int .u8 0) => true | _ => false) && i.size == 1 && i.bytes == 1 | none => false) = true := by kernel_rfl
    split at h
    · rename_i i hi
      simp only [Bool.and_eq_true, beq_iff_eq] at h
      refine ⟨i, hi, ?_, h.1.2, h.2⟩
      have h2 := h.1.1
      split at h2
      · assumption
      · cases h2
    · cases h
  obtain ⟨v3, w3, r1, r2, r3, _⟩ := Lib.run_append_own_string (P := Tryz.prog) w1 B 24 9 24 5 i Tryz.underlying24 Tryz.underlying9 hi hi1 hi2 hi3 v l.length _ hr s (by simp only [maxLen]; omega) (by omega) (by omega)
  refine opv_run r1 ?_
  have u3 : Upd (ownS v) w1 w3 := ⟨r3.os, r3.tape, r3.output, r3.size, fun k hk hs => r3.block k hk (fun e => hs e)⟩
  have N3 : Own B w3 5 1 v3 (Lib.byteCells (l ++ s.data.toList)) := ⟨_, by rw [strCells_eq] at r2; simpa [Lib.byteCells] using r2⟩
  have h13 := u3.get h1 (fun hk => hn b hk rfl)
  refine nilckp ?_
  refine opv_run (fieldAt_eq (off := 1) (by kernel_rfl)) ?_
  have hlt := h.lt
  have hn3 : ∀ k, ownS v3 k → k ≠ b := by
    intro k hk e
    subst e
    rcases h13' : N3 with ⟨n, _, h' | ⟨g, cap, cur, hv, _, hg, _⟩⟩
    · rw [h'.1] at hk; cases hk
    · rw [hv] at hk
      cases hk
      rw [h13] at hg
      have := (Option.some.inj hg)
      cases this
  have hsz : (Value.cells v3) = #[v3] ∧ v3.oneCell' = true := by
    rcases N3 with ⟨n, _, h' | ⟨g, cap, cur, hv, _⟩⟩
    · rw [h'.1]; exact ⟨rfl, rfl⟩
    · rw [hv]; exact ⟨rfl, rfl⟩
  refine store1_intro (by kernel_rfl) hsz.1 hsz.2 h13 (by simp) rfl (fun w4 h4 s4 u4 => ?_)
  refine opv_run (len_str (by kernel_rfl) _) ?_
  refine ⟨_, rfl, v3, ⟨⟨_, .inr rfl, h4⟩, N3.upd1 u4 hn3, hn3⟩, ?_⟩
  have a := (Fr.refl (bldS b v) _ w).go u1 (fun i _ h => .inl h)
  have a := a.go u3 (fun i _ h => .inr h)
  exact a.go u4 (fun i _ h => .inl h)
theorem Bld.apart {B b g : Nat} {w : World} {v : Value} {l : List Value} (h : Bld B w b v l) (e : g = w.heap.size) : ∀ k, bldS b v k → k ≠ g := fun k hk he => by
  rcases hk with hk | hk
  · have := h.lt; omega
  · have := (h.2.1.ge hk).2; omega
theorem Bld.not_loop {B b g : Nat} {w : World} {v : Value} {l : List Value} {o : Obj} (h : Bld B w b v l) (hl : w.heap[g]? = some o) (lp : lpB o = true) : ∀ k, bldS b v k → k ≠ g := fun k hk he => by
  rcases hk with hk | hk
  · obtain ⟨⟨p, _, hb⟩, _⟩ := h
    exact blk_not_loop hb hl lp (by omega)
  · exact Own.not_loop h.2.1 hl lp k hk he
theorem Bld.not_def {B b g : Nat} {w : World} {v : Value} {l : List Value} {d : Option (List Deferred)} (h : Bld B w b v l) (hl : w.heap[g]? = some (.deferred d)) : ∀ k, bldS b v k → k ≠ g := fun k hk he => by
  rcases hk with hk | hk
  · obtain ⟨⟨p, _, hb⟩, _⟩ := h
    exact blk_not_def hb hl (by omega)
  · exact Own.not_def h.2.1 hl k hk he
theorem upd_alloc (w : World) (o : Obj) : Upd no w (w.alloc o) := ⟨rfl, rfl, rfl, by simp, fun k hk _ => heap_alloc_old w o hk⟩
theorem upd_freeze (w : World) (g n : Nat) : Upd (fun k => some k = some g) w (w.freeze ⟨g, 0, none⟩ n) := by
  unfold World.freeze
  split
  · exact Fr.refl _ _ _
  · exact ⟨rfl, rfl, rfl, by simp, fun k hk hs => by
      simp only [Array.getElem?_modify]
      rw [if_neg (fun e => hs (by rw [← e]))]⟩
/-- (*strings.Builder).String: only the builder's own row is looked at again. -/
theorem c_StringU {B b : Nat} {w : World} {v : Value} {l : List UInt8} (h : Bld B w b v (Lib.byteCells l)) (hl : l.length ≤ 17592186044416) :
    Calls Tryz.prog 60 #[.pointer (some ⟨b, 0, none⟩)] w fun e w' => e = .returned (.string ⟨l.toArray⟩) ∧ Upd (ownS v) w w' := by
  refine F60.calls ?_
  unfold F60
  obtain ⟨⟨p, hp, hb⟩, ho, hn⟩ := h
  have hF : Upd (ownS v) w w := Fr.refl _ _ _
  refine drawn_S (S := ownS v) (fun w1 U1 => ?_)
  have hb1 := U1.get0 hb
  have ho1 := ho.upd0 U1
  replace hF := hF.go0 U1
  refine qnilckp ?_
  refine qop_run (fun w' hw' => fieldAt_eq (off := 1) (by kernel_rfl)) ?_
  refine qop_run (fun w' hw' => ldC (by kernel_rfl) (hw'.get hb1 (fun hk => hn b hk rfl)) (by rfl)) ?_
  refine qnilckp ?_
  refine qop_run (fun w' hw' => fieldAt_eq (off := 1) (by kernel_rfl)) ?_
  refine qop_run (fun w' hw' => ldC (by kernel_rfl) (hw'.get hb1 (fun hk => hn b hk rfl)) (by rfl)) ?_
  obtain ⟨n, hln, hor⟩ := id ho1
  rw [Lib.byteCells_length, Nat.mul_one] at hln
  subst hln
  rcases hor with ⟨rfl, h0⟩ | ⟨g, cap, cur, rfl, hbg, hg, hnc, hcm, hcs, htk⟩
  · have hl0 : l = [] := List.length_eq_zero_iff.1 h0
    subst hl0
    refine qop_run (fun w' hw' => len_sl (by kernel_rfl) _ _ _) ?_
    refine ext_intro (fun w2 U2 => ?_)
    refine lop_i (opv_run (Lib.run_unsafeSliceData_nil _ _ _ _ _) ⟨Fr.refl _ _ _, ?_⟩)
    refine ext_intro (fun w3 U3 => ?_)
    refine lop_i (opv_run (Lib.run_unsafeString_none _ _ _ _ _) ⟨Fr.refl _ _ _, ?_⟩)
    refine ext_intro (fun w4 U4 => ?_)
    exact ⟨rfl, ((hF.go0 U2).go0 U3).go0 U4⟩
  · by_cases hl0 : l = []
    · subst hl0
      refine qop_run (fun w' hw' => len_sl (by kernel_rfl) _ _ _) ?_
      refine ext_intro (fun w2 U2 => ?_)
      by_cases hc0 : cap = 0
      · subst hc0
        have hg2 := U2.get0 hg
        refine lop_i (opv_run (Lib.run_unsafeSliceData_zero _ _ _ 5 (by kernel_rfl) ⟨g, 0, none⟩ _ (5, cur.size) (by simp [World.shape?, hg2])) ⟨(upd_alloc _ _).any, ?_⟩)
        refine ext_intro (fun w3 U3 => ?_)
        refine lop_i (opv_run (Lib.run_unsafeString_none _ _ _ _ _) ⟨Fr.refl _ _ _, ?_⟩)
        refine ext_intro (fun w4 U4 => ?_)
        exact ⟨rfl, (((hF.go0 U2).go0 (upd_alloc _ _)).go0 U3).go0 U4⟩
      · refine lop_i (opv_run (Lib.run_unsafeSliceData_row _ _ _ _ _ _ hc0) ⟨Fr.refl _ _ _, ?_⟩)
        refine ext_intro (fun w3 U3 => ?_)
        refine lop_i (opv_run (Lib.run_unsafeString_none _ _ _ _ _) ⟨Fr.refl _ _ _, ?_⟩)
        refine ext_intro (fun w4 U4 => ?_)
        exact ⟨rfl, ((hF.go0 U2).go0 U3).go0 U4⟩
    · have hlp : 0 < l.length := List.length_pos_iff.2 hl0
      refine qop_run (fun w' hw' => len_sl (by kernel_rfl) _ _ _) ?_
      refine ext_intro (fun w2 U2 => ?_)
      refine lop_i (opv_run (Lib.run_unsafeSliceData_row _ _ _ _ _ _ (by omega)) ⟨Fr.refl _ _ _, ?_⟩)
      refine ext_intro (fun w3 U3 => ?_)
      have hg3 := U3.get0 (U2.get0 hg)
      have ho3 := (ho1.upd0 U2).upd0 U3
      refine lop_i (opv_run (Lib.run_unsafeString_row w3 _ _ _ 5 (by kernel_rfl) (by kernel_rfl) g cur.size (by simp [World.shape?, hg3]) l hl0 (by omega) (by omega) (fun j x hx => ?_)) ⟨upd_freeze _ _ _, ?_⟩)
      · obtain ⟨n', _, hor'⟩ := ho3
        rcases hor' with ⟨hv, _⟩ | ⟨g', cap', cur', hv, _, hg', _, _, _, htk'⟩
        · cases hv
        · cases hv
          have e : (⟨g, 0, none⟩ : Addr).add j = ⟨g, j, none⟩ := by
            unfold Addr.add; split
            · rename_i h; subst h; rfl
            · simp
          have h2 : (Lib.byteCells l)[j]? = some (.int .u8 x.toNat) := by simp [Lib.byteCells, hx]
          rw [← htk', List.getElem?_take] at h2
          split at h2
          · rw [e, Lib.cell_of_heap hg']; simpa using h2
          · cases h2
      · refine ext_intro (fun w4 U4 => ?_)
        exact ⟨rfl, (((hF.go0 U2).go0 U3).go (upd_freeze _ _ _) (fun i _ h => h)).go0 U4⟩
end Go.Proofs.YtjdoakbadehicaaGreatDoor
