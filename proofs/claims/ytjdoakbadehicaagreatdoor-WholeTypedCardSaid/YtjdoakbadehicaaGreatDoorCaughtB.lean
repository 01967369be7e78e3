/-
  What is read of bytes, or the error's number that the reader gives up with. No condition but the ones that each states.
-/
import Derived.Test.YtjdoakbadehicaaGreatDoorCaught
import Derived.Tactics
import Derived.Tactics2
import Derived.Laws.Pointers
namespace Go.Proofs.YtjdoakbadehicaaGreatDoor
open Go Go.Sh
set_option linter.unusedVariables false
set_option maxRecDepth 100000
theorem newer {w w1 w2 : World} {S : Nat → Prop} (u : Upd no w w1) (v : Upd S w1 w2) (hS : ∀ k, S k → w.heap.size ≤ k) : Upd no w w2 :=
  u.go v fun i hi h => by have := hS i h; omega
theorem wpList_store {P : Program} {ops : Array Oper} {Q : Exit → Act → World → Prop} {a : Act} {w w' : World} {rest : List Oper} {o : Oper} {t : TypeId} {x v : Operand} (hw : Region.wanted o (yielded ops a.tmps) = true) (ho : o.op = .store t x v)
    (hr : (Instr.storeAt t (a.eval x) (a.eval v)).run P w = .ok () w') (k : wpList P ops Q rest (a.put o.dst undef) w') : wpList P ops Q (o :: rest) a w := by
  refine wpList_step fun K hK => ?_
  rw [if_pos hw]
  have h2 : (execOp a.eval o).run P w = .ok .skip w' := by
    unfold execOp; rw [ho]
    rw [Sem.run_bind, hr]; rfl
  unfold Oper.wp; rw [h2]; exact hK _ _ k
theorem results_two {P : Program} {fn : Func} {r4 r5 n T4 T5 : Nat} {tmps : Array Value} {w : World} {cs : Array Value} {x : Value} (hres : fn.results = #[.cell 4 T4, .cell 5 T5]) (hs : tmps.size = fn.ntmps)
    (h4 : tmps.getD 4 undef = .pointer (some ⟨r4, 0, none⟩)) (h5 : tmps.getD 5 undef = .pointer (some ⟨r5, 0, none⟩)) (hk : 6 ≤ fn.ntmps) (hn : aggN P T4 = some n) (ho : isOne P T5 = true)
    (hb4 : w.heap[r4]? = some (.cells cs T4 (0, 0))) (hsz : cs.size = n) (hb5 : w.heap[r5]? = some (.cells #[x] T5 (0, 0))) : (results fn tmps).run P w = .ok (.tuple #[.agg cs, x]) w := by
  have hl4 : (Instr.loadAt T4 (.pointer (some ⟨r4, 0, none⟩))).run P w = .ok (.agg cs) w := ldA hn hb4 (by omega) (by simp [← hsz])
  have hl5 : (Instr.loadAt T5 (.pointer (some ⟨r5, 0, none⟩))).run P w = .ok x w := ldC ho hb5 rfl
  obtain ⟨v, h1, h2⟩ := results_of (P := P) (w := w) (fn := fn) (kp := [4, 5]) (e := fun t => if t = mkS then undef else tmps.getD t undef) (a := { tmps := tmps, defers := [] }) (R := fun e _ => e = .returned (.tuple #[.agg cs, x]))
    ⟨rfl, hs, fun t _ ht => by
      have h3 : t = 4 ∨ t = 5 := by
        rcases ht with ht | ht
        · simpa using (memN_mem _ _).1 ht
        · exact absurd ((memN_mem _ _).1 ht) (by simp)
      have : t ≠ mkS := by unfold mkS; omega
      show tmps.getD t undef = if t = mkS then undef else tmps.getD t undef
      rw [if_neg this]⟩ (by rw [hres]; rfl) (by
      rw [hres]
      show ldv _ _ _
      refine ldv_run (v := .agg cs) ?_ ?_
      · rw [show rd fn.ntmps (fun t => if t = mkS then undef else tmps.getD t undef) 4 = .pointer (some ⟨r4, 0, none⟩) by
          unfold rd; rw [Nat.ble_eq_true_of_le (show 4 + 1 ≤ fn.ntmps by omega) |> fun h => (show Nat.blt 4 fn.ntmps = true from h)]; exact h4]
        exact hl4
      show ldv _ _ _
      refine ldv_run (v := x) ?_ rfl
      · rw [show rd fn.ntmps (fun t => if t = mkS then undef else tmps.getD t undef) 5 = .pointer (some ⟨r5, 0, none⟩) by
          unfold rd; rw [Nat.ble_eq_true_of_le (show 5 + 1 ≤ fn.ntmps by omega) |> fun h => (show Nat.blt 5 fn.ntmps = true from h)]; exact h5]
        exact hl5)
  rw [h1]; cases h2; rfl
theorem c_caught_inb {A : Option Addr} {n cp : Nat} {bs : List Int} {w : World} (rd1 : Rd w A (vals .u8 bs)) (hn : n = bs.length) (hc : n ≤ cp) (hbs : Bs bs) (hbd : n ≤ 100000) :
    Calls Tryz.prog 53 #[.slice A n cp, .func (.func 54) #[] #[]] w fun e w' => ∃ v, e = .returned v ∧ ∃ (q : Gs.Inb) (l : List Gs.It) (A' : Option Addr) (c' : Nat), q = Gs.inbV bs ∧ q.items = Gs.its l ∧ v = .tuple #[.agg #[.int .u8 q.aid, .bool q.alone, .int .i64 q.cur, .slice A' l.length c'], .int .i64 (Gs.errV (Gs.inbF bs))] ∧ Rd w' A' (rows Gs.ie l) ∧ Gs.Cl w' l ∧ Gs.Iw l ∧ GeA A' (rows Gs.ie l) w.heap.size ∧ (∀ k, Gs.clB l k → w.heap.size ≤ k) ∧ (0 ≤ q.aid ∧ q.aid ≤ 255) ∧ Upd no w w' := by
  have hmf : ∀ (fn : Fn) (first cap : Array Value) (w : World), (Instr.makeFunc fn first cap).run Tryz.prog w = .ok (.func fn first cap) w := fun _ _ _ _ => rfl
  subst hn
  go_enter_defers Tryz.func53, Tryz.ntmps53
  go_wp2_with (go_at_fn 54; skip)
  have s1 := alloc_size w (.cells #[.int .u8 0, .bool false, .int .i64 0, .slice none 0 0] 48 (0, 0)); have n1 := alloc_new w (.cells #[.int .u8 0, .bool false, .int .i64 0, .slice none 0 0] 48 (0, 0)); have u1 := alloc_upd w (.cells #[.int .u8 0, .bool false, .int .i64 0, .slice none 0 0] 48 (0, 0))
  generalize w.alloc (.cells #[.int .u8 0, .bool false, .int .i64 0, .slice none 0 0] 48 (0, 0)) = wa at *
  have s2 := alloc_size wa (.cells #[.int .i64 0] 25 (0, 0)); have n2 := alloc_new wa (.cells #[.int .i64 0] 25 (0, 0)); have u2 := alloc_upd wa (.cells #[.int .i64 0] 25 (0, 0))
  generalize wa.alloc (.cells #[.int .i64 0] 25 (0, 0)) = wb at *
  have s3 := alloc_size wb (.cells #[.slice A bs.length cp] 152 (0, 0)); have n3 := alloc_new wb (.cells #[.slice A bs.length cp] 152 (0, 0)); have u3 := alloc_upd wb (.cells #[.slice A bs.length cp] 152 (0, 0))
  generalize wb.alloc (.cells #[.slice A bs.length cp] 152 (0, 0)) = wc at *
  have hU : Upd no w wc := (u1.go0 u2).go0 u3
  rw [s1] at s2 n2
  rw [s2] at s3 n3
  have hrd : Rdr 152 (w.heap.size + 3) wc (w.heap.size + 1 + 1) bs := ⟨A, cp, n3, rd1.upd0 hU, hc, hbs, by omega, by
    rcases rd1.lt with h | h
    · left; exact List.map_eq_nil_iff.1 h
    · right; intro k hk; have := h k hk; omega⟩
  have h4c := u3.get0 (u2.get0 n1)
  have h5c := u3.get0 n2
  refine Calls.mono (c_rd_inbound hrd (by omega) hbd) ?_
  rintro _ w2 (⟨v, rfl, q, l, A2, c2, hq, hi, rfl, rd2, hcl, hiw, hgA, hgC, ha, U2⟩ | ⟨x, rfl, he, U2⟩)
  · have h4 := U2.get h4c (show ¬ _ = _ by omega)
    have h5 := U2.get h5c (show ¬ _ = _ by omega)
    obtain ⟨w3, hs1, h43, U3⟩ := store_eq (P := Tryz.prog) (t := 48) (n := 4) (v := Value.agg #[.int .u8 q.aid, .bool q.alone, .int .i64 q.cur, .slice A2 l.length c2]) (by kernel_rfl) rfl (by simp [Value.cells, Value.oneCell']) h4 rfl
    obtain ⟨w4, hs2, h53, U4⟩ := store_eq (P := Tryz.prog) (t := 25) (n := 1) (v := .int .i64 0) (by kernel_rfl) rfl (by simp [Value.cells, Value.oneCell']) (U3.get h5 (by simp)) rfl
    rename_i hK
    refine hK _ _ (wpList_store rfl rfl hs1 (wpList_store rfl rfl hs2 ?_))
    go_wp2
    have N2 := newer hU U2 (by omega)
    have N3 := newer N2 U3 (by omega)
    have N4 := newer N3 U4 (by omega)
    refine leaves_cons (f := 94) (args := #[.pointer (some ⟨w.heap.size, 0, none⟩), .pointer (some ⟨w.heap.size + 1, 0, none⟩)]) (by simp) rfl ?_
    refine CallsD.mono d_inb_I ?_
    rintro _ _ w5 ⟨rfl, rfl, U5⟩
    show ∃ v, _ ∧ _
    refine ⟨_, results_two rfl rfl rfl rfl (by decide) (by kernel_rfl) (by kernel_rfl) (U5.get0 (U4.get h43 (show ¬ _ = _ by omega))) rfl (U5.get0 h53), ?_⟩
    refine ⟨_, rfl, q, l, A2, c2, by unfold Gs.inbV; rw [hq], hi, by rw [hq]; rfl, ((rd2.upd1 U3 (hgA.ne (by omega))).upd1 U4 (hgA.ne (by omega))).upd0 U5, ((hcl.upd1 U3 (.inr fun k hk => by have := hgC k hk; omega)).upd1 U4 (.inr fun k hk => by have := hgC k hk; omega)).upd0 U5, hiw, hgA.imp_right fun h k hk => by have := h k hk; omega, fun k hk => by have := hgC k hk; omega, ha, N4.go0 U5⟩
  · go_wp2
    have N2 := newer hU U2 (by omega)
    refine leaves_cons (f := 94) (args := #[.pointer (some ⟨w.heap.size, 0, none⟩), .pointer (some ⟨w.heap.size + 1, 0, none⟩)]) (by simp) rfl ?_
    refine CallsD.mono (d_inb_P (x := x) (U2.get h4c (show ¬ _ = _ by omega)) (U2.get h5c (show ¬ _ = _ by omega)) (by omega)) ?_
    rintro _ _ w5 ⟨rfl, rfl, h45, h55, U5⟩
    show ∃ v, _ ∧ _
    refine ⟨_, results_two rfl rfl rfl rfl (by decide) (by kernel_rfl) (by kernel_rfl) h45 rfl h55, ?_⟩
    refine ⟨_, rfl, Gs.zinb, [], none, 0, by unfold Gs.inbV; rw [he], rfl, by rw [he]; rfl, Rd.nil _ _, Gs.Cl.nil _, (fun _ h => nomatch h), .inl rfl, (fun k ⟨_, h, _⟩ => nomatch h), by decide, newer N2 U5 (by omega)⟩
end Go.Proofs.YtjdoakbadehicaaGreatDoor
