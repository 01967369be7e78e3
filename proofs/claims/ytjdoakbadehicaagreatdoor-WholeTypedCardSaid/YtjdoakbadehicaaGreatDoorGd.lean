/-
  Contracts of functions of the program, walked over their shallow forms. No condition but the ones that each states.
-/
import Derived.Test.YtjdoakbadehicaaGreatDoorGc
import Derived.Test.YtjdoakbadehicaaGreatDoorCaughtB
import Derived.Test.YtjdoakbadehicaaGreatDoorGramMem2
import Derived.Test.YtjdoakbadehicaaGreatDoorFL
namespace Go.Proofs.YtjdoakbadehicaaGreatDoor
open Go Go.Sh
set_option linter.unusedVariables false
set_option maxRecDepth 100000


/-- greenscreen/grammar.Parse -/
theorem c_gr_Parse {A : Option Addr} {n cp : Nat} {bs : List Int} {w : World} (rd1 : Rd w A (vals .u8 bs)) (hn : n = bs.length) (hc : n ≤ cp) (hbs : Bs bs) (hbd : n ≤ 100000) :
    Calls Tryz.prog 19 #[.slice A n cp] w fun e w' => ∃ v, e = .returned v ∧ ∃ (q : Gs.Inb) (l : List Gs.It) (A' : Option Addr) (c' : Nat), q = Gs.inbV bs ∧ q.items = Gs.its l ∧ v = .tuple #[.agg #[.int .u8 q.aid, .bool q.alone, .int .i64 q.cur, .slice A' l.length c'], .int .i64 (Gs.errV (Gs.inbF bs))] ∧ Rd w' A' (rows Gs.ie l) ∧ Gs.Cl w' l ∧ Gs.Iw l ∧ GeA A' (rows Gs.ie l) w.heap.size ∧ Gs.GeC l w.heap.size ∧ (0 ≤ q.aid ∧ q.aid ≤ 255) ∧ Upd no w w' := by
  refine F19.calls ?_
  unfold F19
  have lt_rd1 := rd1.lt
  have hF : Upd no w w := Fr.refl _ _ _
  refine alloc_intro (cs := #[.int .u8 0, .bool false, .int .i64 0, .slice none 0 0]) (by kernel_rfl) (fun b1 w1 e1 h_b1 _ U1 => ?_)
  have na_rd1_b1 := rd1.apart e1
  have ge_b1 : w.heap.size ≤ b1 := by have := hF.size; omega
  replace rd1 := rd1.upd0 U1
  replace hF := hF.go0 U1
  clear e1
  refine callF_ex (c_caught_inb rd1 hn hc hbs hbd) (fun v2 w2 D2 => ?_)
  obtain ⟨q5, l5, A5, c5, hq5, hi5, rfl, rd5, rdc5, hw5, gA5, gC05, ha5, U2⟩ := D2
  have gC5 : Gs.GeC l5 _ := .inr gC05
  have qF5 := hF.size
  have na_rd5_b1 := gA5.ne (lt_get h_b1)
  have na_rdc5_b1 := gC5.ne (lt_get h_b1)
  replace rd1 := rd1.upd0 U2
  replace h_b1 := U2.get0 h_b1
  replace hF := hF.go0 U2
  refine opv_run (ext_t (by rfl)) ?_
  refine opv_run (ext_t (by rfl)) ?_
  refine store_intro (n := 4) (cs' := #[.int .u8 q5.aid, .bool q5.alone, .int .i64 q5.cur, .slice A5 l5.length c5]) (by kernel_rfl) (by rfl) (by first | rfl | (simp [Value.cells, Value.oneCell', Gs.cv, Gs.ie]; done)) h_b1 (by first | exact Nat.le_of_ble_eq_true rfl | (simp; done) | omega) (by rfl) (fun w3 N3 _ U3 => ?_)
  replace rd1 := rd1.upd1 U3 na_rd1_b1
  replace rd5 := rd5.upd1 U3 na_rd5_b1
  replace rdc5 := rdc5.upd1 U3 na_rdc5_b1
  replace h_b1 := N3
  replace hF := hF.go1 U3 ge_b1
  refine ldv_run (ldA (n := 4) (by kernel_rfl) h_b1 (by first | exact Nat.le_of_ble_eq_true rfl | simp | omega) (by rfl)) ?_
  exact ⟨_, rfl, q5, l5, A5, c5, hq5, hi5, rfl, rd5, rdc5, hw5, gA5.mono qF5, gC5.mono qF5, ha5, hF⟩

end Go.Proofs.YtjdoakbadehicaaGreatDoor
