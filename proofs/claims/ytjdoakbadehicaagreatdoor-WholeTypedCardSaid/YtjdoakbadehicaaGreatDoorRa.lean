/-
  Contracts of functions of the program, walked over their shallow forms. No condition but the ones that each states.
-/
import Derived.Test.YtjdoakbadehicaaGreatDoorPF
import Derived.Test.YtjdoakbadehicaaGreatDoorGb
import Derived.Test.YtjdoakbadehicaaGreatDoorGramReadsA
namespace Go.Proofs.YtjdoakbadehicaaGreatDoor
open Go Go.Sh
set_option linter.unusedVariables false
set_option maxRecDepth 100000


/-- greenscreen/keyboard.Short -/
theorem c_kb_Short {b : Int} {w : World} :
    Calls Tryz.prog 10 #[.int .u8 b] w fun e w' => e = .returned (.bool (decide (b = 109 ∨ b = 108 ∨ b = 110 ∨ b = 107))) ∧ Upd no w w' := by
  refine F10.calls ?_
  unfold F10
  have hF : Upd no w w := Fr.refl _ _ _
  refine callF_val (c_keyboard_plain) (fun w1 U1 => ?_)
  replace hF := hF.go0 U1
  refine opv_dec (neS _ _ _ _) (fun h2 => ?_) (fun h2 => ?_)
  · refine gdtt ?_
    refine gdtt ?_
    refine opv_run (neI _ _ _ _ _) ?_
    refine pickt ?_
    first | exact ⟨(congrArg (fun q => Ending.returned (Value.bool q)) (Gs.short_1 (by assumption))), hF⟩ | exact ⟨(congrArg (fun q => Ending.returned (Value.bool q)) (Gs.short_0 (by assumption))), hF⟩
  · refine gdft ?_
    refine gdft ?_
    refine pickf ?_
    first | exact ⟨(congrArg (fun q => Ending.returned (Value.bool q)) (Gs.short_1 (by assumption))), hF⟩ | exact ⟨(congrArg (fun q => Ending.returned (Value.bool q)) (Gs.short_0 (by assumption))), hF⟩

/-- greenscreen/reply.empty -/
theorem c_rp_empty {c : Gs.Cell} {w : World} :
    Calls Tryz.prog 142 #[.agg (Gs.cv c).toArray] w fun e w' => e = .returned (.bool (Gs.emptyB c)) ∧ Upd no w w' := by
  refine F142.calls ?_
  unfold F142
  have hF : Upd no w w := Fr.refl _ _ _
  refine box_intro (cs := (Gs.cv c).toArray) (by rfl) (fun b1 w1 e1 h_b1 _ U1 => ?_)
  have ge_b1 : w.heap.size ≤ b1 := by have := hF.size; omega
  replace hF := hF.go0 U1
  clear e1
  refine opv_run (fieldAt_eq (off := 0) (by kernel_rfl)) ?_
  refine opv_run (ldC (by kernel_rfl) h_b1 (by rfl)) ?_
  refine opv_dec (eqI _ _ _ _ _) (fun h2 => ?_) (fun h2 => ?_)
  · refine gdtt ?_
    refine opv_run (fieldAt_eq (off := 1) (by kernel_rfl)) ?_
    refine gdtt ?_
    refine opv_run (ldC (by kernel_rfl) h_b1 (by rfl)) ?_
    refine gdtt ?_
    refine opv_run (notB _) ?_
    refine pickt ?_
    first | exact ⟨(congrArg (fun q => Ending.returned (Value.bool q)) (Gs.empty_1 (by assumption))), hF⟩ | exact ⟨(congrArg (fun q => Ending.returned (Value.bool q)) (Gs.empty_0 (by assumption))), hF⟩
  · refine gdft ?_
    refine gdft ?_
    refine gdft ?_
    refine pickf ?_
    first | exact ⟨(congrArg (fun q => Ending.returned (Value.bool q)) (Gs.empty_1 (by assumption))), hF⟩ | exact ⟨(congrArg (fun q => Ending.returned (Value.bool q)) (Gs.empty_0 (by assumption))), hF⟩

/-- greenscreen/reply.bytes -/
theorem c_rp_bytes {c : Gs.Cell} {w : World} :
    Calls Tryz.prog 69 #[.agg (Gs.cv c).toArray] w fun e w' => ∃ v, e = .returned v ∧ Own w.heap.size w' 5 1 v (vals .u8 (Gs.bytesM c)) ∧ Upd no w w' := by
  refine F69.calls ?_
  unfold F69
  have hF : Upd no w w := Fr.refl _ _ _
  refine box_intro (cs := (Gs.cv c).toArray) (by rfl) (fun b1 w1 e1 h_b1 _ U1 => ?_)
  have ge_b1 : w.heap.size ≤ b1 := by have := hF.size; omega
  replace hF := hF.go0 U1
  clear e1
  refine opv_run (fieldAt_eq (off := 1) (by kernel_rfl)) ?_
  refine opv_b (ldC (by kernel_rfl) h_b1 (by rfl)) (fun h2 => ?_) (fun h2 => ?_)
  · refine gdtt ?_
    refine opv_run (fieldAt_eq (off := 0) (by kernel_rfl)) ?_
    refine gdtt ?_
    refine opv_run (ldC (by kernel_rfl) h_b1 (by rfl)) ?_
    refine gdtt ?_
    refine opv_dec (lss _ _ _ _) (fun h3 => ?_) (fun h3 => ?_)
    · refine pickt ?_
      refine condt ?_
      refine buildSlice_intro (e := 5) (m := 1) (z := #[.int .u8 0]) (by kernel_rfl) (by kernel_rfl) (by rfl) (by decide) (by first | (simp [fillL, splice, repL, Value.cells, Gs.cv, Gs.fv, Gs.ie]; done) | (simp [fillL, splice, repL, Value.cells, Gs.cv, Gs.fv, Gs.ie]; rfl)) (fun b4 w4 e4 h_b4 _ U4 => ?_)
      have ne_b1_b4 : b1 ≠ b4 := by have := lt_get h_b1; omega
      have ge_b4 : w.heap.size ≤ b4 := by have := hF.size; omega
      replace h_b1 := U4.get0 h_b1
      replace hF := hF.go0 U4
      clear e4
      first | exact ⟨_, rfl, by rw [Gs.bytes_g1 (by assumption) (by assumption)]; exact Own.of_block (n := 2) (xs := [_, _]) (by assumption) (by omega) rfl (by decide), hF⟩ | exact ⟨_, rfl, by rw [Gs.bytes_g2 (by assumption) (by assumption)]; exact Own.of_block (n := 2) (xs := [_, _]) (by assumption) (by omega) rfl (by decide), hF⟩ | exact ⟨_, rfl, by rw [Gs.bytes_n1 (by assumption) (by simp_all)]; exact Own.of_block (n := 1) (xs := [_]) (by assumption) (by omega) rfl (by decide), hF⟩ | exact ⟨_, rfl, by rw [Gs.bytes_n2 (by assumption) (by simp_all)]; exact Own.of_block (n := 1) (xs := [_]) (by assumption) (by omega) rfl (by decide), hF⟩ | exact absurd (Eq.trans (Eq.symm (show c.ge = true by assumption)) (show c.ge = false by assumption)) (by decide)
    · refine pickt ?_
      refine condf ?_
      refine opv_run (fieldAt_eq (off := 1) (by kernel_rfl)) ?_
      refine opv_b (ldC (by kernel_rfl) h_b1 (by rfl)) (fun h6 => ?_) (fun h6 => ?_)
      · refine condt ?_
        refine opv_run (fieldAt_eq (off := 0) (by kernel_rfl)) ?_
        refine opv_run (ldC (by kernel_rfl) h_b1 (by rfl)) ?_
        refine buildSlice_intro (e := 5) (m := 1) (z := #[.int .u8 0]) (by kernel_rfl) (by kernel_rfl) (by rfl) (by decide) (by first | (simp [fillL, splice, repL, Value.cells, Gs.cv, Gs.fv, Gs.ie]; done) | (simp [fillL, splice, repL, Value.cells, Gs.cv, Gs.fv, Gs.ie]; rfl)) (fun b7 w7 e7 h_b7 _ U7 => ?_)
        have ne_b1_b7 : b1 ≠ b7 := by have := lt_get h_b1; omega
        have ge_b7 : w.heap.size ≤ b7 := by have := hF.size; omega
        replace h_b1 := U7.get0 h_b1
        replace hF := hF.go0 U7
        clear e7
        first | exact ⟨_, rfl, by rw [Gs.bytes_g1 (by assumption) (by assumption)]; exact Own.of_block (n := 2) (xs := [_, _]) (by assumption) (by omega) rfl (by decide), hF⟩ | exact ⟨_, rfl, by rw [Gs.bytes_g2 (by assumption) (by assumption)]; exact Own.of_block (n := 2) (xs := [_, _]) (by assumption) (by omega) rfl (by decide), hF⟩ | exact ⟨_, rfl, by rw [Gs.bytes_n1 (by assumption) (by simp_all)]; exact Own.of_block (n := 1) (xs := [_]) (by assumption) (by omega) rfl (by decide), hF⟩ | exact ⟨_, rfl, by rw [Gs.bytes_n2 (by assumption) (by simp_all)]; exact Own.of_block (n := 1) (xs := [_]) (by assumption) (by omega) rfl (by decide), hF⟩ | exact absurd (Eq.trans (Eq.symm (show c.ge = true by assumption)) (show c.ge = false by assumption)) (by decide)
      · refine condf ?_
        refine opv_run (fieldAt_eq (off := 0) (by kernel_rfl)) ?_
        refine opv_run (ldC (by kernel_rfl) h_b1 (by rfl)) ?_
        refine callF_bool (c_order_Plain) (fun w9 U9 h9 => ?_) (fun w9 U9 h9 => ?_)
        · replace h_b1 := U9.get0 h_b1
          replace hF := hF.go0 U9
          try simp only [decide_eq_true_eq, decide_eq_false_iff_not] at h9
          refine opv_run (notT) ?_
          refine condf ?_
          refine opv_run (fieldAt_eq (off := 0) (by kernel_rfl)) ?_
          refine opv_run (ldC (by kernel_rfl) h_b1 (by rfl)) ?_
          refine buildSlice_intro (e := 5) (m := 1) (z := #[.int .u8 0]) (by kernel_rfl) (by kernel_rfl) (by rfl) (by decide) (by first | (simp [fillL, splice, repL, Value.cells, Gs.cv, Gs.fv, Gs.ie]; done) | (simp [fillL, splice, repL, Value.cells, Gs.cv, Gs.fv, Gs.ie]; rfl)) (fun b10 w10 e10 h_b10 _ U10 => ?_)
          have ne_b1_b10 : b1 ≠ b10 := by have := lt_get h_b1; omega
          have ge_b10 : w.heap.size ≤ b10 := by have := hF.size; omega
          replace h_b1 := U10.get0 h_b1
          replace hF := hF.go0 U10
          clear e10
          first | exact ⟨_, rfl, by rw [Gs.bytes_g1 (by assumption) (by assumption)]; exact Own.of_block (n := 2) (xs := [_, _]) (by assumption) (by omega) rfl (by decide), hF⟩ | exact ⟨_, rfl, by rw [Gs.bytes_g2 (by assumption) (by assumption)]; exact Own.of_block (n := 2) (xs := [_, _]) (by assumption) (by omega) rfl (by decide), hF⟩ | exact ⟨_, rfl, by rw [Gs.bytes_n1 (by assumption) (by simp_all)]; exact Own.of_block (n := 1) (xs := [_]) (by assumption) (by omega) rfl (by decide), hF⟩ | exact ⟨_, rfl, by rw [Gs.bytes_n2 (by assumption) (by simp_all)]; exact Own.of_block (n := 1) (xs := [_]) (by assumption) (by omega) rfl (by decide), hF⟩ | exact absurd (Eq.trans (Eq.symm (show c.ge = true by assumption)) (show c.ge = false by assumption)) (by decide)
        · replace h_b1 := U9.get0 h_b1
          replace hF := hF.go0 U9
          try simp only [decide_eq_true_eq, decide_eq_false_iff_not] at h9
          refine opv_run (notF) ?_
          refine condt ?_
          refine buildSlice_intro (e := 5) (m := 1) (z := #[.int .u8 0]) (by kernel_rfl) (by kernel_rfl) (by rfl) (by decide) (by first | (simp [fillL, splice, repL, Value.cells, Gs.cv, Gs.fv, Gs.ie]; done) | (simp [fillL, splice, repL, Value.cells, Gs.cv, Gs.fv, Gs.ie]; rfl)) (fun b12 w12 e12 h_b12 _ U12 => ?_)
          have ne_b1_b12 : b1 ≠ b12 := by have := lt_get h_b1; omega
          have ge_b12 : w.heap.size ≤ b12 := by have := hF.size; omega
          replace h_b1 := U12.get0 h_b1
          replace hF := hF.go0 U12
          clear e12
          first | exact ⟨_, rfl, by rw [Gs.bytes_g1 (by assumption) (by assumption)]; exact Own.of_block (n := 2) (xs := [_, _]) (by assumption) (by omega) rfl (by decide), hF⟩ | exact ⟨_, rfl, by rw [Gs.bytes_g2 (by assumption) (by assumption)]; exact Own.of_block (n := 2) (xs := [_, _]) (by assumption) (by omega) rfl (by decide), hF⟩ | exact ⟨_, rfl, by rw [Gs.bytes_n1 (by assumption) (by simp_all)]; exact Own.of_block (n := 1) (xs := [_]) (by assumption) (by omega) rfl (by decide), hF⟩ | exact ⟨_, rfl, by rw [Gs.bytes_n2 (by assumption) (by simp_all)]; exact Own.of_block (n := 1) (xs := [_]) (by assumption) (by omega) rfl (by decide), hF⟩ | exact absurd (Eq.trans (Eq.symm (show c.ge = true by assumption)) (show c.ge = false by assumption)) (by decide)
  · refine gdft ?_
    refine gdft ?_
    refine gdft ?_
    refine pickf ?_
    refine condf ?_
    refine opv_run (fieldAt_eq (off := 1) (by kernel_rfl)) ?_
    refine opv_b (ldC (by kernel_rfl) h_b1 (by rfl)) (fun h14 => ?_) (fun h14 => ?_)
    · refine condt ?_
      refine opv_run (fieldAt_eq (off := 0) (by kernel_rfl)) ?_
      refine opv_run (ldC (by kernel_rfl) h_b1 (by rfl)) ?_
      refine buildSlice_intro (e := 5) (m := 1) (z := #[.int .u8 0]) (by kernel_rfl) (by kernel_rfl) (by rfl) (by decide) (by first | (simp [fillL, splice, repL, Value.cells, Gs.cv, Gs.fv, Gs.ie]; done) | (simp [fillL, splice, repL, Value.cells, Gs.cv, Gs.fv, Gs.ie]; rfl)) (fun b15 w15 e15 h_b15 _ U15 => ?_)
      have ne_b1_b15 : b1 ≠ b15 := by have := lt_get h_b1; omega
      have ge_b15 : w.heap.size ≤ b15 := by have := hF.size; omega
      replace h_b1 := U15.get0 h_b1
      replace hF := hF.go0 U15
      clear e15
      first | exact ⟨_, rfl, by rw [Gs.bytes_g1 (by assumption) (by assumption)]; exact Own.of_block (n := 2) (xs := [_, _]) (by assumption) (by omega) rfl (by decide), hF⟩ | exact ⟨_, rfl, by rw [Gs.bytes_g2 (by assumption) (by assumption)]; exact Own.of_block (n := 2) (xs := [_, _]) (by assumption) (by omega) rfl (by decide), hF⟩ | exact ⟨_, rfl, by rw [Gs.bytes_n1 (by assumption) (by simp_all)]; exact Own.of_block (n := 1) (xs := [_]) (by assumption) (by omega) rfl (by decide), hF⟩ | exact ⟨_, rfl, by rw [Gs.bytes_n2 (by assumption) (by simp_all)]; exact Own.of_block (n := 1) (xs := [_]) (by assumption) (by omega) rfl (by decide), hF⟩ | exact absurd (Eq.trans (Eq.symm (show c.ge = true by assumption)) (show c.ge = false by assumption)) (by decide)
    · refine condf ?_
      refine opv_run (fieldAt_eq (off := 0) (by kernel_rfl)) ?_
      refine opv_run (ldC (by kernel_rfl) h_b1 (by rfl)) ?_
      refine callF_bool (c_order_Plain) (fun w17 U17 h17 => ?_) (fun w17 U17 h17 => ?_)
      · replace h_b1 := U17.get0 h_b1
        replace hF := hF.go0 U17
        try simp only [decide_eq_true_eq, decide_eq_false_iff_not] at h17
        refine opv_run (notT) ?_
        refine condf ?_
        refine opv_run (fieldAt_eq (off := 0) (by kernel_rfl)) ?_
        refine opv_run (ldC (by kernel_rfl) h_b1 (by rfl)) ?_
        refine buildSlice_intro (e := 5) (m := 1) (z := #[.int .u8 0]) (by kernel_rfl) (by kernel_rfl) (by rfl) (by decide) (by first | (simp [fillL, splice, repL, Value.cells, Gs.cv, Gs.fv, Gs.ie]; done) | (simp [fillL, splice, repL, Value.cells, Gs.cv, Gs.fv, Gs.ie]; rfl)) (fun b18 w18 e18 h_b18 _ U18 => ?_)
        have ne_b1_b18 : b1 ≠ b18 := by have := lt_get h_b1; omega
        have ge_b18 : w.heap.size ≤ b18 := by have := hF.size; omega
        replace h_b1 := U18.get0 h_b1
        replace hF := hF.go0 U18
        clear e18
        first | exact ⟨_, rfl, by rw [Gs.bytes_g1 (by assumption) (by assumption)]; exact Own.of_block (n := 2) (xs := [_, _]) (by assumption) (by omega) rfl (by decide), hF⟩ | exact ⟨_, rfl, by rw [Gs.bytes_g2 (by assumption) (by assumption)]; exact Own.of_block (n := 2) (xs := [_, _]) (by assumption) (by omega) rfl (by decide), hF⟩ | exact ⟨_, rfl, by rw [Gs.bytes_n1 (by assumption) (by simp_all)]; exact Own.of_block (n := 1) (xs := [_]) (by assumption) (by omega) rfl (by decide), hF⟩ | exact ⟨_, rfl, by rw [Gs.bytes_n2 (by assumption) (by simp_all)]; exact Own.of_block (n := 1) (xs := [_]) (by assumption) (by omega) rfl (by decide), hF⟩ | exact absurd (Eq.trans (Eq.symm (show c.ge = true by assumption)) (show c.ge = false by assumption)) (by decide)
      · replace h_b1 := U17.get0 h_b1
        replace hF := hF.go0 U17
        try simp only [decide_eq_true_eq, decide_eq_false_iff_not] at h17
        refine opv_run (notF) ?_
        refine condt ?_
        refine buildSlice_intro (e := 5) (m := 1) (z := #[.int .u8 0]) (by kernel_rfl) (by kernel_rfl) (by rfl) (by decide) (by first | (simp [fillL, splice, repL, Value.cells, Gs.cv, Gs.fv, Gs.ie]; done) | (simp [fillL, splice, repL, Value.cells, Gs.cv, Gs.fv, Gs.ie]; rfl)) (fun b20 w20 e20 h_b20 _ U20 => ?_)
        have ne_b1_b20 : b1 ≠ b20 := by have := lt_get h_b1; omega
        have ge_b20 : w.heap.size ≤ b20 := by have := hF.size; omega
        replace h_b1 := U20.get0 h_b1
        replace hF := hF.go0 U20
        clear e20
        first | exact ⟨_, rfl, by rw [Gs.bytes_g1 (by assumption) (by assumption)]; exact Own.of_block (n := 2) (xs := [_, _]) (by assumption) (by omega) rfl (by decide), hF⟩ | exact ⟨_, rfl, by rw [Gs.bytes_g2 (by assumption) (by assumption)]; exact Own.of_block (n := 2) (xs := [_, _]) (by assumption) (by omega) rfl (by decide), hF⟩ | exact ⟨_, rfl, by rw [Gs.bytes_n1 (by assumption) (by simp_all)]; exact Own.of_block (n := 1) (xs := [_]) (by assumption) (by omega) rfl (by decide), hF⟩ | exact ⟨_, rfl, by rw [Gs.bytes_n2 (by assumption) (by simp_all)]; exact Own.of_block (n := 1) (xs := [_]) (by assumption) (by omega) rfl (by decide), hF⟩ | exact absurd (Eq.trans (Eq.symm (show c.ge = true by assumption)) (show c.ge = false by assumption)) (by decide)

/-- greenscreen/attr.Byte -/
theorem c_attr_Byte {b : Int} {w : World} (hb : 0 ≤ b ∧ b ≤ 255) :
    Calls Tryz.prog 68 #[.int .u8 b] w fun e w' => e = .returned (.int .u8 (Gs.digitM b)) ∧ Upd no w w' := by
  refine F68.calls ?_
  unfold F68
  have hF : Upd no w w := Fr.refl _ _ _
  first | refine opv_run (conv_i64 (by kernel_rfl) (by kernel_rfl) (by omega)) ?_ | refine opv_run (convII (k := .i64) (by kernel_rfl) (by kernel_rfl)) ?_
  refine callF_val (c_addr_Digit (v := b)) (fun w1 U1 => ?_)
  replace hF := hF.go0 U1
  exact ⟨rfl, hF⟩

/-- greenscreen/reply.place -/
theorem c_rp_place {r c cur : Int} {A : Option Addr} {n cp bp B0 : Nat} {cs : List Gs.Cell} {w : World} (h_bp : w.heap[bp]? = some (.cells #[.int .i64 r, .int .i64 c, .slice A n cp, .int .i64 cur] 91 (0, 0))) (own_p : Own B0 w 37 5 (.slice A n cp) (rows Gs.cv cs)) (hn : n = cs.length) {i : Int} :
    Calls Tryz.prog 67 #[.pointer (some ⟨bp, 0, none⟩), .int .i64 i] w fun e w' => ∃ v, e = .returned v ∧ ∃ A' c', v = .slice A' 2 c' ∧ Rd w' A' (vals .u8 [(Gs.encP i n).1, (Gs.encP i n).2.1]) ∧ GeA A' (vals .u8 [(Gs.encP i n).1, (Gs.encP i n).2.1]) w.heap.size ∧ Upd no w w' := by
  refine F67.calls ?_
  unfold F67
  have lt_h_bp := lt_get h_bp
  have lt_own_p := Own.lt own_p
  have hF : Upd no w w := Fr.refl _ _ _
  refine callF_val (c_Plane_Len h_bp own_p hn) (fun w1 U1 => ?_)
  replace own_p := own_p.upd0 U1
  replace h_bp := U1.get0 h_bp
  replace hF := hF.go0 U1
  refine callF_val (c_addr_Encode (p := i) (n := n)) (fun w2 U2 => ?_)
  replace own_p := own_p.upd0 U2
  replace h_bp := U2.get0 h_bp
  replace hF := hF.go0 U2
  refine opv_run (ext_t (by rfl)) ?_
  refine opv_run (ext_t (by rfl)) ?_
  refine alloc_intro (cs := #[.int .u8 0, .int .u8 0]) (by kernel_rfl) (fun b3 w3 e3 h_b3 _ U3 => ?_)
  have ne_bp_b3 : bp ≠ b3 := by have := lt_get h_bp; omega
  have na_own_p_b3 := own_p.apart e3
  have ge_b3 : w.heap.size ≤ b3 := by have := hF.size; omega
  replace own_p := own_p.upd0 U3
  replace h_bp := U3.get0 h_bp
  replace hF := hF.go0 U3
  clear e3
  refine store_intro (n := 2) (cs' := #[.int .u8 (Gs.encP i n).1, .int .u8 (Gs.encP i n).2.1]) (by kernel_rfl) (by rfl) (by first | rfl | (simp [Value.cells, Value.oneCell', Gs.cv, Gs.fv, Gs.ie]; done)) h_b3 (by first | exact Nat.le_of_ble_eq_true rfl | (simp; done) | omega) (by rfl) (fun w4 N4 _ U4 => ?_)
  replace own_p := own_p.upd1 U4 na_own_p_b3
  replace h_bp := U4.get1 h_bp ne_bp_b3
  replace h_b3 := N4
  replace hF := hF.go1 U4 ge_b3
  refine opv_run (sliceArr (n := 2) (m := 1) (by kernel_rfl)) ?_
  exact ⟨_, rfl, _, _, rfl, Rd.of_blockL (xs := vals .u8 [(Gs.encP i n).1, (Gs.encP i n).2.1]) h_b3, .inr (fun k ⟨a, ea, ek⟩ => by cases ea; subst ek; show _ ≤ _; omega), hF⟩

/-- greenscreen/reply.whole -/
theorem c_rp_whole {r c cur : Int} {A : Option Addr} {n cp bp B0 : Nat} {cs : List Gs.Cell} {w : World} (h_bp : w.heap[bp]? = some (.cells #[.int .i64 r, .int .i64 c, .slice A n cp, .int .i64 cur] 91 (0, 0))) (own_p : Own B0 w 37 5 (.slice A n cp) (rows Gs.cv cs)) (hn : n = cs.length) (hb : n ≤ 4096)  :
    Calls Tryz.prog 99 #[.pointer (some ⟨bp, 0, none⟩)] w fun e w' => ∃ v, e = .returned v ∧ Own w.heap.size w' 5 1 v (vals .u8 (Gs.fullM cs (Gs.placesA cs))) ∧ Upd no w w' := by
  refine F99.calls ?_
  unfold F99
  subst hn
  have lt_h_bp := lt_get h_bp
  have lt_own_p := Own.lt own_p
  have hF : Upd no w w := Fr.refl _ _ _
  refine join_cut (fun g w' => ∃ (v3 : Value), (g 3 = v3) ∧ (Own w.heap.size w' 5 1 v3 (vals .u8 (Gs.fullM cs (Gs.placesA cs)))) ∧ (Upd no w w')) (fun J1 hJ1 => ?_) (fun gJ1 wJ1 hI => ?_)
  · refine callF_val (c_Plane_Len h_bp own_p rfl) (fun w1 U1 => ?_)
    replace own_p := own_p.upd0 U1
    replace h_bp := U1.get0 h_bp
    replace hF := hF.go0 U1
    refine loop_intro (fun g w' => ∃ (k : Nat) (v3 : Value), (g 8 = .int .i64 (k : Int)) ∧ (k ≤ cs.length) ∧ (g 3 = v3) ∧ (Own w.heap.size w' 5 1 v3 (vals .u8 (Gs.fullM cs ((Gs.placesA cs).take k)))) ∧ (w'.heap[bp]? = some (.cells #[.int .i64 r, .int .i64 c, .slice A cs.length cp, .int .i64 cur] 91 (0, 0))) ∧ (Own B0 w' 37 5 (.slice A cs.length cp) (rows Gs.cv cs)) ∧ (Upd no w w')) (fun g w' => cs.length - (RowKit.intOf (g 8)).toNat) ?_ (fun g2 wl2 hI => ?_)
    · exact ⟨0, _, (by first | exact g8 | rfl), Nat.zero_le _, rfl, (Own.nil _ _ _ _), h_bp, own_p, hF⟩
    · obtain ⟨k, v3, g8, hk, g3, own3, h_bp, own_p, hF⟩ := hI
      try rw [g8]
      try rw [g3]
      have hfl := Gs.full_len cs ((Gs.placesA cs).take k)
      rw [List.length_take, Gs.placesA_len] at hfl
      refine opv_dec (lss _ _ _ _) (fun h2 => ?_) (fun h2 => ?_)
      · refine condt ?_
        refine join_cut (fun g w' => ∃ (v3 : Value), (g 3 = v3) ∧ (Own w.heap.size w' 5 1 v3 (vals .u8 (Gs.fullM cs ((Gs.placesA cs).take (k + 1))))) ∧ (w'.heap[bp]? = some (.cells #[.int .i64 r, .int .i64 c, .slice A cs.length cp, .int .i64 cur] 91 (0, 0))) ∧ (Own B0 w' 37 5 (.slice A cs.length cp) (rows Gs.cv cs)) ∧ (Upd no w w')) (fun J3 hJ3 => ?_) (fun gJ3 wJ3 hI => ?_)
        · refine callF_val (c_Plane_At h_bp own_p rfl (i := (k : Int))) (fun w3 U3 => ?_)
          replace own3 := own3.upd0 U3
          replace own_p := own_p.upd0 U3
          replace h_bp := U3.get0 h_bp
          replace hF := hF.go0 U3
          refine alloc_intro (cs := (Gs.cv Gs.zc).toArray) (by kernel_rfl) (fun b4 w4 e4 h_b4 _ U4 => ?_)
          have na_own3_b4 := own3.apart e4
          have ne_bp_b4 : bp ≠ b4 := by have := lt_get h_bp; omega
          have na_own_p_b4 := own_p.apart e4
          have ge_b4 : w.heap.size ≤ b4 := by have := hF.size; omega
          replace own3 := own3.upd0 U4
          replace own_p := own_p.upd0 U4
          replace h_bp := U4.get0 h_bp
          replace hF := hF.go0 U4
          clear e4
          refine store_intro (n := 5) (cs' := (Gs.cv (Gs.getC cs k)).toArray) (by kernel_rfl) (by rfl) (by first | rfl | (simp [Value.cells, Value.oneCell', Gs.cv, Gs.fv, Gs.ie]; done)) h_b4 (by first | exact Nat.le_of_ble_eq_true rfl | (simp; done) | omega) (by rfl) (fun w5 N5 _ U5 => ?_)
          replace own3 := own3.upd1 U5 na_own3_b4
          replace own_p := own_p.upd1 U5 na_own_p_b4
          replace h_bp := U5.get1 h_bp ne_bp_b4
          replace h_b4 := N5
          replace hF := hF.go1 U5 ge_b4
          refine opv_run (ldA (n := 5) (cs' := (Gs.cv (Gs.getC cs k)).toArray) (by kernel_rfl) h_b4 (by first | exact Nat.le_of_ble_eq_true rfl | (simp; done) | omega) (by rfl)) ?_
          refine callF_bool (c_rp_empty) (fun w6 U6 h6 => ?_) (fun w6 U6 h6 => ?_)
          · replace own3 := own3.upd0 U6
            replace own_p := own_p.upd0 U6
            replace h_bp := U6.get0 h_bp
            replace h_b4 := U6.get0 h_b4
            replace hF := hF.go0 U6
            try simp only [decide_eq_true_eq, decide_eq_false_iff_not] at h6
            refine opv_run (notT) ?_
            refine condf ?_
            refine hJ3 _ _ ?_
            exact ⟨_, (by first | exact g3 | rfl), (by first | (rw [← Gs.fullA_F (by omega) (by assumption), ← vals_append]; exact own3) | (rw [← Gs.fullA_T (by omega) (by assumption)]; exact own3)), h_bp, own_p, hF⟩
          · replace own3 := own3.upd0 U6
            replace own_p := own_p.upd0 U6
            replace h_bp := U6.get0 h_bp
            replace h_b4 := U6.get0 h_b4
            replace hF := hF.go0 U6
            try simp only [decide_eq_true_eq, decide_eq_false_iff_not] at h6
            refine opv_run (notF) ?_
            refine condt ?_
            refine opv_run (ldA (n := 5) (cs' := (Gs.cv (Gs.getC cs k)).toArray) (by kernel_rfl) h_b4 (by first | exact Nat.le_of_ble_eq_true rfl | (simp; done) | omega) (by rfl)) ?_
            refine callF_ex (c_rp_bytes) (fun v7 w7 D7 => ?_)
            obtain ⟨own19, U7⟩ := D7
            obtain ⟨A19, c19, rfl, _⟩ := own19.rd1
            have nx7_own3_own19 : ∀ k, ownS _ k → ¬ ownS _ k := fun k hk hs => by have := (Own.ge own3 hk).2; have := (Own.ge own19 hs).1; omega
            have nx7_h_bp_own19 : ¬ ownS _ bp := fun h => by have := (Own.ge own19 h).1; have := lt_get h_bp; omega
            have nx7_own_p_own19 : ∀ k, ownS _ k → ¬ ownS _ k := fun k hk hs => by have := (Own.ge own_p hk).2; have := (Own.ge own19 hs).1; omega
            have nx7_h_b4_own19 : ¬ ownS _ b4 := fun h => by have := (Own.ge own19 h).1; have := lt_get h_b4; omega
            replace own19 := own19.mono (B' := w.heap.size) hF.size
            replace own3 := own3.upd0 U7
            replace own_p := own_p.upd0 U7
            replace h_bp := U7.get0 h_bp
            replace h_b4 := U7.get0 h_b4
            replace hF := hF.go0 U7
            have hbl := Gs.bytes_len (Gs.getC cs k)
            refine app_introA (e := 5) (size := 1) (bytes := 1) (by kernel_rfl) own3 own19.rdS (by first | (simp [vals_length]; done) | (simp [vals_length]; omega)) vals_one (by simp only [vals_length, List.length_take, List.length_cons, List.length_nil, List.length_append, List.length_map, List.length_range]; omega) (by have := hF.size; omega) (fun v8 w8 N8 hA8 U8 => ?_)
            have own3_o := own3
            have nb8_own19 := ap_own (S' := w7) (fun k hk hs => nx7_own3_own19 k hs hk) own19 hA8
            have nc8_b4 : ∀ k, ownS v8 k → k ≠ b4 := fun k hk e => Or.elim (hA8 k hk) (fun h => na_own3_b4 k h e) (fun h => by have := lt_get h_b4; omega)
            replace own3 := N8
            replace h_bp := U8.get h_bp (fun h => by first | (have := Own.ge own3_o h; omega) | exact Own.ne_blk own3_o h_bp (by decide) _ h rfl | exact Own.not_loop own3_o h_bp (by assumption) _ h rfl | exact Own.not_def own3_o h_bp _ h rfl | simp_all)
            replace own_p := own_p.updS U8 (fun k hk hs => by have := lt_own_p k hk; have := (Own.ge own3_o hs).1; omega)
            replace h_b4 := U8.get h_b4 (fun h => na_own3_b4 _ h rfl)
            replace own19 := own19.updS U8 (fun k hk hs => nx7_own3_own19 k hs hk)
            replace hF := hF.go U8 (fun i h hs => by first | exact hs | exact .inl hs | exact .inr hs | (have := (Own.ge own3_o hs).1; omega))
            clear own3_o
            refine hJ3 _ _ ?_
            exact ⟨_, (by first | exact g3 | rfl), (by first | (rw [← Gs.fullA_F (by omega) (by assumption), ← vals_append]; exact own3) | (rw [← Gs.fullA_T (by omega) (by assumption)]; exact own3)), h_bp, own_p, hF⟩
        · obtain ⟨v3, g3, own3, h_bp, own_p, hF⟩ := hI
          try rw [g3]
          first | refine opv_run (add_i64 _ (by omega)) ?_ | refine opv_run (addI _ _ _ _) ?_
          exact ⟨⟨k + 1, _, (by first | exact g8 | rfl), by omega, (by first | exact g3 | rfl), own3, h_bp, own_p, hF⟩, cnt_lt (by first | rfl | exact g8) rfl (by omega)⟩
      · refine condf ?_
        refine hJ1 _ _ ?_
        exact ⟨_, (by first | exact g3 | rfl), (by rw [List.take_of_length_le (by rw [Gs.placesA_len]; omega)] at own3; exact own3), hF⟩
  · obtain ⟨v3, g3, own3, hF⟩ := hI
    try rw [g3]
    exact ⟨_, rfl, own3, hF⟩
end Go.Proofs.YtjdoakbadehicaaGreatDoor
