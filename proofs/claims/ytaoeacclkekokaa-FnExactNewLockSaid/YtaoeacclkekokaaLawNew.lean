/- The laws on NewSem, NewLock: walks (all slices are empty there). -/
import Derived.Test.YtaoeacclkekokaaLeaf
namespace Go.Proofs.Ytaoeacclkekokaa
open Go.RowKit
theorem L_eqWaiterS_0 (w : World) (a b : Option Addr) (c d : Nat) : Calls Try.prog 50 #[.slice a 0 c, .slice b 0 d] w fun e w' => e = .returned (.bool true) ∧ w = w' := by
  go_enter Try.func50, Try.ntmps50
  go_wp2
  refine wp_loop_rounds 1 ?_
  rw [rounds_succ]
  go_wp2
  go_ret
  exact ⟨rfl, rfl⟩
theorem L_markWaiterS_0 (w : World) (a : Option Addr) (c : Nat) (k : Int) : Calls Try.prog 51 #[.slice a 0 c, .int .i64 k] w fun e w' => e = .returned (.int .i64 k) ∧ w = w' := by
  go_enter Try.func51, Try.ntmps51
  go_wp2
  refine wp_loop_rounds 1 ?_
  rw [rounds_succ]
  go_wp2
  go_ret
  exact ⟨rfl, rfl⟩
theorem L_heldWaiterS_0 (w : World) (a : Option Addr) (c : Nat) (k : Int) : Calls Try.prog 52 #[.slice a 0 c, .int .i64 k] w fun e w' => e = .returned (.int .i64 k) ∧ w = w' := by
  go_enter Try.func52, Try.ntmps52
  go_wp2
  refine wp_loop_rounds 1 ?_
  rw [rounds_succ]
  go_wp2
  go_ret
  exact ⟨rfl, rfl⟩
theorem L_eqWantS_0 (w : World) (a b : Option Addr) (c d : Nat) : Calls Try.prog 53 #[.slice a 0 c, .slice b 0 d] w fun e w' => e = .returned (.bool true) ∧ w = w' := by
  go_enter Try.func53, Try.ntmps53
  go_wp2
  refine wp_loop_rounds 1 ?_
  rw [rounds_succ]
  go_wp2
  go_ret
  exact ⟨rfl, rfl⟩
theorem L_markWantS_0 (w : World) (a : Option Addr) (c : Nat) (k : Int) : Calls Try.prog 54 #[.slice a 0 c, .int .i64 k] w fun e w' => e = .returned (.int .i64 k) ∧ w = w' := by
  go_enter Try.func54, Try.ntmps54
  go_wp2
  refine wp_loop_rounds 1 ?_
  rw [rounds_succ]
  go_wp2
  go_ret
  exact ⟨rfl, rfl⟩
theorem L_heldWantS_0 (w : World) (a : Option Addr) (c : Nat) (k : Int) : Calls Try.prog 55 #[.slice a 0 c, .int .i64 k] w fun e w' => e = .returned (.int .i64 k) ∧ w = w' := by
  go_enter Try.func55, Try.ntmps55
  go_wp2
  refine wp_loop_rounds 1 ?_
  rw [rounds_succ]
  go_wp2
  go_ret
  exact ⟨rfl, rfl⟩
theorem L_eqIntS_0 (w : World) (a b : Option Addr) (c d : Nat) : Calls Try.prog 39 #[.slice a 0 c, .slice b 0 d] w fun e w' => e = .returned (.bool true) ∧ w = w' := by
  go_enter Try.func39, Try.ntmps39
  go_wp2
  refine wp_loop_rounds 1 ?_
  rw [rounds_succ]
  go_wp2
  go_ret
  exact ⟨rfl, rfl⟩
theorem L_markIntS_0 (w : World) (a : Option Addr) (c : Nat) (k : Int) : Calls Try.prog 41 #[.slice a 0 c, .int .i64 k] w fun e w' => e = .returned (.int .i64 k) ∧ w = w' := by
  go_enter Try.func41, Try.ntmps41
  go_wp2
  refine wp_loop_rounds 1 ?_
  rw [rounds_succ]
  go_wp2
  go_ret
  exact ⟨rfl, rfl⟩
theorem L_heldIntS_0 (w : World) (a : Option Addr) (c : Nat) (k : Int) : Calls Try.prog 43 #[.slice a 0 c, .int .i64 k] w fun e w' => e = .returned (.int .i64 k) ∧ w = w' := by
  go_enter Try.func43, Try.ntmps43
  go_wp2
  refine wp_loop_rounds 1 ?_
  rw [rounds_succ]
  go_wp2
  go_ret
  exact ⟨rfl, rfl⟩
set_option maxHeartbeats 1000000 in
theorem L_eqSem_0 (w : World) (p0 p1 : Int) (a2 aq2 : Option Addr) (c2 cq2 : Nat) : Calls Try.prog 15 #[.agg #[.int .i64 p0, .int .i64 p1, .slice a2 0 c2], .agg #[.int .i64 p0, .int .i64 p1, .slice aq2 0 cq2]] w fun e w' => e = .returned (.bool true) ∧ Below w.heap.size w w' := by
  go_enter Try.func15, Try.ntmps15
  go_wp2_with (first | (go_at_call 50; refine (L_eqWaiterS_0 _ _ _ _ _).mono ?_; rintro e w' ⟨rfl, rfl⟩))
  go_ret
  exact ⟨rfl, below_trans (below_alloc _ _) (below_alloc _ _)⟩
set_option maxHeartbeats 1000000 in
theorem L_markSem_0 (w : World) (p0 p1 : Int) (a2 : Option Addr) (c2 : Nat) (k : Int) (_hk : 0 ≤ k) : Calls Try.prog 16 #[.agg #[.int .i64 p0, .int .i64 p1, .slice a2 0 c2], .int .i64 k] w fun e w' => e = .returned (.int .i64 k) ∧ Below w.heap.size w w' := by
  go_enter Try.func16, Try.ntmps16
  go_wp2_with (first | (go_at_call 51; refine (L_markWaiterS_0 _ _ _ _).mono ?_; rintro e w' ⟨rfl, rfl⟩))
  go_ret
  exact ⟨rfl, below_alloc _ _⟩
set_option maxHeartbeats 1000000 in
theorem L_heldSem_0 (w : World) (p0 p1 : Int) (a2 : Option Addr) (c2 : Nat) (k : Int) (hk : 0 ≤ k) : Calls Try.prog 17 #[.agg #[.int .i64 p0, .int .i64 p1, .slice a2 0 c2], .int .i64 k] w fun e w' => e = .returned (.int .i64 k) ∧ Below w.heap.size w w' := by
  go_enter Try.func17, Try.ntmps17
  go_wp2_with (first | (go_at_call 52; refine (L_heldWaiterS_0 _ _ _ _).mono ?_; rintro e w' ⟨rfl, rfl⟩))
  go_ret
  exact ⟨rfl, below_alloc _ _⟩
set_option maxHeartbeats 1000000 in
theorem L_eqLock_0 (w : World) (p1 : Int) (a0 a2 aq0 aq2 : Option Addr) (c0 c2 cq0 cq2 : Nat) : Calls Try.prog 20 #[.agg #[.slice a0 0 c0, .int .i64 p1, .slice a2 0 c2], .agg #[.slice aq0 0 cq0, .int .i64 p1, .slice aq2 0 cq2]] w fun e w' => e = .returned (.bool true) ∧ Below w.heap.size w w' := by
  go_enter Try.func20, Try.ntmps20
  go_wp2_with (first | (go_at_call 39; refine (L_eqIntS_0 _ _ _ _ _).mono ?_; rintro e w' ⟨rfl, rfl⟩) | (go_at_call 53; refine (L_eqWantS_0 _ _ _ _ _).mono ?_; rintro e w' ⟨rfl, rfl⟩))
  go_ret
  exact ⟨rfl, below_trans (below_alloc _ _) (below_alloc _ _)⟩
set_option maxHeartbeats 1000000 in
theorem L_markLock_0 (w : World) (p1 : Int) (a0 a2 : Option Addr) (c0 c2 : Nat) (k : Int) (_hk : 0 ≤ k) : Calls Try.prog 21 #[.agg #[.slice a0 0 c0, .int .i64 p1, .slice a2 0 c2], .int .i64 k] w fun e w' => e = .returned (.int .i64 k) ∧ Below w.heap.size w w' := by
  go_enter Try.func21, Try.ntmps21
  go_wp2_with (first | (go_at_call 41; refine (L_markIntS_0 _ _ _ _).mono ?_; rintro e w' ⟨rfl, rfl⟩) | (go_at_call 54; refine (L_markWantS_0 _ _ _ _).mono ?_; rintro e w' ⟨rfl, rfl⟩))
  go_ret
  exact ⟨rfl, below_alloc _ _⟩
set_option maxHeartbeats 1000000 in
theorem L_heldLock_0 (w : World) (p1 : Int) (a0 a2 : Option Addr) (c0 c2 : Nat) (k : Int) (hk : 0 ≤ k) : Calls Try.prog 22 #[.agg #[.slice a0 0 c0, .int .i64 p1, .slice a2 0 c2], .int .i64 k] w fun e w' => e = .returned (.int .i64 k) ∧ Below w.heap.size w w' := by
  go_enter Try.func22, Try.ntmps22
  go_wp2_with (first | (go_at_call 43; refine (L_heldIntS_0 _ _ _ _).mono ?_; rintro e w' ⟨rfl, rfl⟩) | (go_at_call 55; refine (L_heldWantS_0 _ _ _ _).mono ?_; rintro e w' ⟨rfl, rfl⟩))
  go_ret
  exact ⟨rfl, below_alloc _ _⟩
def nsOk (n : Int) : Bool := decide (1 ≤ n) && decide (n ≤ 9)
def nsN (n : Int) : Int := if nsOk n = true then n else 0
theorem nsOk_iff {n : Int} : nsOk n = true ↔ 1 ≤ n ∧ n ≤ 9 := by simp [nsOk]
set_option maxHeartbeats 1000000 in
theorem I_NewSem (w : World) (n : Int) : Calls Try.prog 14 #[.int .i64 n] w fun e w' => ∃ a cap, e = .returned (.tuple #[.agg #[.int .i64 (nsN n), .int .i64 (nsN n), .slice a 0 cap], .bool (nsOk n)]) ∧ Below w.heap.size w w' := by
  by_cases hk : nsOk n = true
  · have hp : nsN n = n := by simp [nsN, hk]
    have hn := nsOk_iff.1 hk
    rw [hp, hk]
    clear hp hk
    obtain ⟨h1, h2⟩ := hn
    go_enter Try.func14, Try.ntmps14
    go_wp2_with fail
    exact bodyPost_ret (v := .tuple #[.agg #[.int .i64 n, .int .i64 n, .slice none 0 0], .bool true]) (by simp [results, Try.results14, go_sem]) rfl ⟨_, _, rfl, below_alloc _ _⟩
  · have hk' : nsOk n = false := by simpa using hk
    have hp : nsN n = 0 := by simp [nsN, hk']
    have hn : n < 1 ∨ 9 < n := by have := mt nsOk_iff.2 hk; omega
    rw [hp, hk']
    clear hp hk hk'
    rcases hn with hn | hn
    all_goals
      go_enter Try.func14, Try.ntmps14
      go_wp2_with fail
      all_goals exact bodyPost_ret (v := .tuple #[.agg #[.int .i64 0, .int .i64 0, .slice none 0 0], .bool false]) (by simp [results, Try.results14, go_sem]) rfl ⟨_, _, rfl, below_alloc _ _⟩
set_option maxHeartbeats 1000000 in
theorem S_NewSem (w : World) (n : Int) : Calls Try.prog 13 #[.int .i64 n] w fun e w' => ∃ a cap, e = .returned (.tuple #[.agg #[.int .i64 (nsN n), .int .i64 (nsN n), .slice a 0 cap], .bool (nsOk n)]) ∧ Below w.heap.size w w' := by
  by_cases hk : nsOk n = true
  · have hp : nsN n = n := by simp [nsN, hk]
    have hn := nsOk_iff.1 hk
    rw [hp, hk]
    clear hp hk
    obtain ⟨h1, h2⟩ := hn
    go_enter Try.func13, Try.ntmps13
    go_wp2_with fail
    exact bodyPost_ret (v := .tuple #[.agg #[.int .i64 n, .int .i64 n, .slice (some ⟨w.heap.size + 1, 0, none⟩) 0 0], .bool true]) (by simp [results, Try.results13, go_sem]) rfl ⟨_, _, rfl, ((below_alloc _ _).alloc (by simp) _)⟩
  · have hk' : nsOk n = false := by simpa using hk
    have hp : nsN n = 0 := by simp [nsN, hk']
    have hn : n < 1 ∨ 9 < n := by have := mt nsOk_iff.2 hk; omega
    rw [hp, hk']
    clear hp hk hk'
    rcases hn with hn | hn
    all_goals
      go_enter Try.func13, Try.ntmps13
      go_wp2_with fail
      all_goals exact bodyPost_ret (v := .tuple #[.agg #[.int .i64 0, .int .i64 0, .slice none 0 0], .bool false]) (by simp [results, Try.results13, go_sem]) rfl ⟨_, _, rfl, below_alloc _ _⟩
set_option maxHeartbeats 1000000 in
theorem I_NewLock (w : World) : Calls Try.prog 19 #[] w fun e w' => ∃ a cap b cap', e = .returned (.agg #[.slice a 0 cap, .int .i64 (-1), .slice b 0 cap']) ∧ Below w.heap.size w w' := by
  go_enter Try.func19, Try.ntmps19
  go_wp2_with fail
  exact bodyPost_ret (v := .agg #[.slice none 0 0, .int .i64 (-1), .slice none 0 0]) (by simp [results, Try.results19, go_sem]) rfl ⟨_, _, _, _, rfl, below_alloc _ _⟩
set_option maxHeartbeats 1000000 in
theorem S_NewLock (w : World) : Calls Try.prog 18 #[] w fun e w' => ∃ a cap b cap', e = .returned (.agg #[.slice a 0 cap, .int .i64 (-1), .slice b 0 cap']) ∧ Below w.heap.size w w' := by
  go_enter Try.func18, Try.ntmps18
  go_wp2_with fail
  exact bodyPost_ret (v := .agg #[.slice (some ⟨w.heap.size + 1, 0, none⟩) 0 0, .int .i64 (-1), .slice (some ⟨w.heap.size + 1 + 1, 0, none⟩) 0 0]) (by simp [results, Try.results18, go_sem]) rfl ⟨_, _, _, _, rfl, (((below_alloc _ _).alloc (by simp) _).alloc (by simp; try omega) _)⟩
set_option maxHeartbeats 4000000 in
theorem W_FnExactNewSem (w : World) (n : Int) : Calls Try.prog 4 #[.int .i64 n] w fun e w' => e = .returned (.bool true) ∧ Below w.heap.size w w' := by
  go_enter Try.func4, Try.ntmps4
  have T0 := Lib.hid (Below.refl w.heap.size w)
  go_wp2_with fail
  refine (S_NewSem _ n).mono ?_
  rintro e w1 ⟨aW, cW, rfl, hb⟩
  have D1 : Below w.heap.size w w1 := hb
  have T1 := Lib.hid (below_trans T0.out D1)
  have z1 : w.heap.size ≤ w1.heap.size := (by have := hb.size; (try simp at this); omega)
  clear hb D1 T0
  go_wp2_with fail
  refine (I_NewSem _ n).mono ?_
  rintro e w2 ⟨aG, cG, rfl, hb⟩
  have D2 : Below w1.heap.size w1 w2 := below_trans (below_alloc _ _) (hb)
  have T2 := Lib.hid (below_trans T1.out D2)
  have z2 : w1.heap.size + 1 ≤ w2.heap.size := (by have := hb.size; (try simp at this); omega)
  have c_w00_2 := cell_b (p := ⟨w1.heap.size, 0, none⟩) (v := .int .i64 (nsN n)) (by simp) hb
  have c_w01_2 := cell_b (p := ⟨w1.heap.size, 1, none⟩) (v := .int .i64 (nsN n)) (by simp) hb
  have c_w02_2 := cell_b (p := ⟨w1.heap.size, 2, none⟩) (v := .slice aW 0 cW) (by simp) hb
  have ac_w00_2 := fun o => cell_b c_w00_2 (below_alloc _ o)
  have bc_w00_2 := fun o o1 => cell_b (ac_w00_2 o) (below_alloc _ o1)
  have ac_w01_2 := fun o => cell_b c_w01_2 (below_alloc _ o)
  have bc_w01_2 := fun o o1 => cell_b (ac_w01_2 o) (below_alloc _ o1)
  have ac_w02_2 := fun o => cell_b c_w02_2 (below_alloc _ o)
  have bc_w02_2 := fun o o1 => cell_b (ac_w02_2 o) (below_alloc _ o1)
  clear hb D2 T1
  go_wp2_with fail
  refine (L_eqSem_0 _ _ _ _ _ _ _).mono ?_
  rintro e w3 ⟨rfl, hb⟩
  have D3 : Below w2.heap.size w2 w3 := below_trans (below_alloc _ _) (hb)
  have c_w00_3 := cell_b c_w00_2 D3
  have c_w01_3 := cell_b c_w01_2 D3
  have c_w02_3 := cell_b c_w02_2 D3
  have T3 := Lib.hid (below_trans T2.out D3)
  have z3 : w2.heap.size + 1 ≤ w3.heap.size := (by have := hb.size; (try simp at this); omega)
  have c_g00_3 := cell_b (p := ⟨w2.heap.size, 0, none⟩) (v := .int .i64 (nsN n)) (by simp) hb
  have c_g01_3 := cell_b (p := ⟨w2.heap.size, 1, none⟩) (v := .int .i64 (nsN n)) (by simp) hb
  have c_g02_3 := cell_b (p := ⟨w2.heap.size, 2, none⟩) (v := .slice aG 0 cG) (by simp) hb
  have ac_w00_3 := fun o => cell_b c_w00_3 (below_alloc _ o)
  have bc_w00_3 := fun o o1 => cell_b (ac_w00_3 o) (below_alloc _ o1)
  have ac_w01_3 := fun o => cell_b c_w01_3 (below_alloc _ o)
  have bc_w01_3 := fun o o1 => cell_b (ac_w01_3 o) (below_alloc _ o1)
  have ac_w02_3 := fun o => cell_b c_w02_3 (below_alloc _ o)
  have bc_w02_3 := fun o o1 => cell_b (ac_w02_3 o) (below_alloc _ o1)
  have ac_g00_3 := fun o => cell_b c_g00_3 (below_alloc _ o)
  have bc_g00_3 := fun o o1 => cell_b (ac_g00_3 o) (below_alloc _ o1)
  have ac_g01_3 := fun o => cell_b c_g01_3 (below_alloc _ o)
  have bc_g01_3 := fun o o1 => cell_b (ac_g01_3 o) (below_alloc _ o1)
  have ac_g02_3 := fun o => cell_b c_g02_3 (below_alloc _ o)
  have bc_g02_3 := fun o o1 => cell_b (ac_g02_3 o) (below_alloc _ o1)
  clear ac_w00_2 bc_w00_2 ac_w01_2 bc_w01_2 ac_w02_2 bc_w02_2 c_w00_2 c_w01_2 c_w02_2 hb D3 T2
  go_wp2_with fail
  refine (L_markSem_0 _ _ _ _ _ _ (by omega)).mono ?_
  rintro e w4 ⟨rfl, hb⟩
  have D4 : Below w3.heap.size w3 w4 := hb
  have c_w00_4 := cell_b c_w00_3 D4
  have c_w01_4 := cell_b c_w01_3 D4
  have c_w02_4 := cell_b c_w02_3 D4
  have c_g00_4 := cell_b c_g00_3 D4
  have c_g01_4 := cell_b c_g01_3 D4
  have c_g02_4 := cell_b c_g02_3 D4
  have T4 := Lib.hid (below_trans T3.out D4)
  have z4 : w3.heap.size ≤ w4.heap.size := (by have := hb.size; (try simp at this); omega)
  have ac_w00_4 := fun o => cell_b c_w00_4 (below_alloc _ o)
  have bc_w00_4 := fun o o1 => cell_b (ac_w00_4 o) (below_alloc _ o1)
  have ac_w01_4 := fun o => cell_b c_w01_4 (below_alloc _ o)
  have bc_w01_4 := fun o o1 => cell_b (ac_w01_4 o) (below_alloc _ o1)
  have ac_w02_4 := fun o => cell_b c_w02_4 (below_alloc _ o)
  have bc_w02_4 := fun o o1 => cell_b (ac_w02_4 o) (below_alloc _ o1)
  have ac_g00_4 := fun o => cell_b c_g00_4 (below_alloc _ o)
  have bc_g00_4 := fun o o1 => cell_b (ac_g00_4 o) (below_alloc _ o1)
  have ac_g01_4 := fun o => cell_b c_g01_4 (below_alloc _ o)
  have bc_g01_4 := fun o o1 => cell_b (ac_g01_4 o) (below_alloc _ o1)
  have ac_g02_4 := fun o => cell_b c_g02_4 (below_alloc _ o)
  have bc_g02_4 := fun o o1 => cell_b (ac_g02_4 o) (below_alloc _ o1)
  clear ac_w00_3 bc_w00_3 ac_w01_3 bc_w01_3 ac_w02_3 bc_w02_3 ac_g00_3 bc_g00_3 ac_g01_3 bc_g01_3 ac_g02_3 bc_g02_3 c_w00_3 c_w01_3 c_w02_3 c_g00_3 c_g01_3 c_g02_3 hb D4 T3
  go_wp2_with fail
  refine (L_heldSem_0 _ _ _ _ _ _ (by omega)).mono ?_
  rintro e w5 ⟨rfl, hb⟩
  have D5 : Below w4.heap.size w4 w5 := hb
  have c_w00_5 := cell_b c_w00_4 D5
  have c_w01_5 := cell_b c_w01_4 D5
  have c_w02_5 := cell_b c_w02_4 D5
  have c_g00_5 := cell_b c_g00_4 D5
  have c_g01_5 := cell_b c_g01_4 D5
  have c_g02_5 := cell_b c_g02_4 D5
  have T5 := Lib.hid (below_trans T4.out D5)
  have z5 : w4.heap.size ≤ w5.heap.size := (by have := hb.size; (try simp at this); omega)
  have ac_w00_5 := fun o => cell_b c_w00_5 (below_alloc _ o)
  have bc_w00_5 := fun o o1 => cell_b (ac_w00_5 o) (below_alloc _ o1)
  have ac_w01_5 := fun o => cell_b c_w01_5 (below_alloc _ o)
  have bc_w01_5 := fun o o1 => cell_b (ac_w01_5 o) (below_alloc _ o1)
  have ac_w02_5 := fun o => cell_b c_w02_5 (below_alloc _ o)
  have bc_w02_5 := fun o o1 => cell_b (ac_w02_5 o) (below_alloc _ o1)
  have ac_g00_5 := fun o => cell_b c_g00_5 (below_alloc _ o)
  have bc_g00_5 := fun o o1 => cell_b (ac_g00_5 o) (below_alloc _ o1)
  have ac_g01_5 := fun o => cell_b c_g01_5 (below_alloc _ o)
  have bc_g01_5 := fun o o1 => cell_b (ac_g01_5 o) (below_alloc _ o1)
  have ac_g02_5 := fun o => cell_b c_g02_5 (below_alloc _ o)
  have bc_g02_5 := fun o o1 => cell_b (ac_g02_5 o) (below_alloc _ o1)
  clear ac_w00_4 bc_w00_4 ac_w01_4 bc_w01_4 ac_w02_4 bc_w02_4 ac_g00_4 bc_g00_4 ac_g01_4 bc_g01_4 ac_g02_4 bc_g02_4 c_w00_4 c_w01_4 c_w02_4 c_g00_4 c_g01_4 c_g02_4 hb D5 T4
  go_wp2_with fail
  refine (I_NewSem _ n).mono ?_
  rintro e w6 ⟨aH, cH, rfl, hb⟩
  have D6 : Below w5.heap.size w5 w6 := hb
  have c_w00_6 := cell_b c_w00_5 D6
  have c_w01_6 := cell_b c_w01_5 D6
  have c_w02_6 := cell_b c_w02_5 D6
  have c_g00_6 := cell_b c_g00_5 D6
  have c_g01_6 := cell_b c_g01_5 D6
  have c_g02_6 := cell_b c_g02_5 D6
  have T6 := Lib.hid (below_trans T5.out D6)
  have z6 : w5.heap.size ≤ w6.heap.size := (by have := hb.size; (try simp at this); omega)
  have ac_w00_6 := fun o => cell_b c_w00_6 (below_alloc _ o)
  have bc_w00_6 := fun o o1 => cell_b (ac_w00_6 o) (below_alloc _ o1)
  have ac_w01_6 := fun o => cell_b c_w01_6 (below_alloc _ o)
  have bc_w01_6 := fun o o1 => cell_b (ac_w01_6 o) (below_alloc _ o1)
  have ac_w02_6 := fun o => cell_b c_w02_6 (below_alloc _ o)
  have bc_w02_6 := fun o o1 => cell_b (ac_w02_6 o) (below_alloc _ o1)
  have ac_g00_6 := fun o => cell_b c_g00_6 (below_alloc _ o)
  have bc_g00_6 := fun o o1 => cell_b (ac_g00_6 o) (below_alloc _ o1)
  have ac_g01_6 := fun o => cell_b c_g01_6 (below_alloc _ o)
  have bc_g01_6 := fun o o1 => cell_b (ac_g01_6 o) (below_alloc _ o1)
  have ac_g02_6 := fun o => cell_b c_g02_6 (below_alloc _ o)
  have bc_g02_6 := fun o o1 => cell_b (ac_g02_6 o) (below_alloc _ o1)
  clear ac_w00_5 bc_w00_5 ac_w01_5 bc_w01_5 ac_w02_5 bc_w02_5 ac_g00_5 bc_g00_5 ac_g01_5 bc_g01_5 ac_g02_5 bc_g02_5 c_w00_5 c_w01_5 c_w02_5 c_g00_5 c_g01_5 c_g02_5 hb D6 T5
  go_wp2_with fail
  refine (L_eqSem_0 _ _ _ _ _ _ _).mono ?_
  rintro e w7 ⟨rfl, hb⟩
  have D7 : Below w6.heap.size w6 w7 := below_trans (below_alloc _ _) (hb)
  have c_w00_7 := cell_b c_w00_6 D7
  have c_w01_7 := cell_b c_w01_6 D7
  have c_w02_7 := cell_b c_w02_6 D7
  have c_g00_7 := cell_b c_g00_6 D7
  have c_g01_7 := cell_b c_g01_6 D7
  have c_g02_7 := cell_b c_g02_6 D7
  have T7 := Lib.hid (below_trans T6.out D7)
  have z7 : w6.heap.size + 1 ≤ w7.heap.size := (by have := hb.size; (try simp at this); omega)
  have c_h00_7 := cell_b (p := ⟨w6.heap.size, 0, none⟩) (v := .int .i64 (nsN n)) (by simp) hb
  have c_h01_7 := cell_b (p := ⟨w6.heap.size, 1, none⟩) (v := .int .i64 (nsN n)) (by simp) hb
  have c_h02_7 := cell_b (p := ⟨w6.heap.size, 2, none⟩) (v := .slice aH 0 cH) (by simp) hb
  have ac_w00_7 := fun o => cell_b c_w00_7 (below_alloc _ o)
  have bc_w00_7 := fun o o1 => cell_b (ac_w00_7 o) (below_alloc _ o1)
  have ac_w01_7 := fun o => cell_b c_w01_7 (below_alloc _ o)
  have bc_w01_7 := fun o o1 => cell_b (ac_w01_7 o) (below_alloc _ o1)
  have ac_w02_7 := fun o => cell_b c_w02_7 (below_alloc _ o)
  have bc_w02_7 := fun o o1 => cell_b (ac_w02_7 o) (below_alloc _ o1)
  have ac_g00_7 := fun o => cell_b c_g00_7 (below_alloc _ o)
  have bc_g00_7 := fun o o1 => cell_b (ac_g00_7 o) (below_alloc _ o1)
  have ac_g01_7 := fun o => cell_b c_g01_7 (below_alloc _ o)
  have bc_g01_7 := fun o o1 => cell_b (ac_g01_7 o) (below_alloc _ o1)
  have ac_g02_7 := fun o => cell_b c_g02_7 (below_alloc _ o)
  have bc_g02_7 := fun o o1 => cell_b (ac_g02_7 o) (below_alloc _ o1)
  have ac_h00_7 := fun o => cell_b c_h00_7 (below_alloc _ o)
  have bc_h00_7 := fun o o1 => cell_b (ac_h00_7 o) (below_alloc _ o1)
  have ac_h01_7 := fun o => cell_b c_h01_7 (below_alloc _ o)
  have bc_h01_7 := fun o o1 => cell_b (ac_h01_7 o) (below_alloc _ o1)
  have ac_h02_7 := fun o => cell_b c_h02_7 (below_alloc _ o)
  have bc_h02_7 := fun o o1 => cell_b (ac_h02_7 o) (below_alloc _ o1)
  clear ac_w00_6 bc_w00_6 ac_w01_6 bc_w01_6 ac_w02_6 bc_w02_6 ac_g00_6 bc_g00_6 ac_g01_6 bc_g01_6 ac_g02_6 bc_g02_6 c_w00_6 c_w01_6 c_w02_6 c_g00_6 c_g01_6 c_g02_6 hb D7 T6
  go_wp2_with fail
  refine (L_heldSem_0 _ _ _ _ _ _ (by omega)).mono ?_
  rintro e w8 ⟨rfl, hb⟩
  have D8 : Below w7.heap.size w7 w8 := hb
  have c_w00_8 := cell_b c_w00_7 D8
  have c_w01_8 := cell_b c_w01_7 D8
  have c_w02_8 := cell_b c_w02_7 D8
  have c_g00_8 := cell_b c_g00_7 D8
  have c_g01_8 := cell_b c_g01_7 D8
  have c_g02_8 := cell_b c_g02_7 D8
  have c_h00_8 := cell_b c_h00_7 D8
  have c_h01_8 := cell_b c_h01_7 D8
  have c_h02_8 := cell_b c_h02_7 D8
  have T8 := Lib.hid (below_trans T7.out D8)
  have z8 : w7.heap.size ≤ w8.heap.size := (by have := hb.size; (try simp at this); omega)
  have ac_w00_8 := fun o => cell_b c_w00_8 (below_alloc _ o)
  have bc_w00_8 := fun o o1 => cell_b (ac_w00_8 o) (below_alloc _ o1)
  have ac_w01_8 := fun o => cell_b c_w01_8 (below_alloc _ o)
  have bc_w01_8 := fun o o1 => cell_b (ac_w01_8 o) (below_alloc _ o1)
  have ac_w02_8 := fun o => cell_b c_w02_8 (below_alloc _ o)
  have bc_w02_8 := fun o o1 => cell_b (ac_w02_8 o) (below_alloc _ o1)
  have ac_g00_8 := fun o => cell_b c_g00_8 (below_alloc _ o)
  have bc_g00_8 := fun o o1 => cell_b (ac_g00_8 o) (below_alloc _ o1)
  have ac_g01_8 := fun o => cell_b c_g01_8 (below_alloc _ o)
  have bc_g01_8 := fun o o1 => cell_b (ac_g01_8 o) (below_alloc _ o1)
  have ac_g02_8 := fun o => cell_b c_g02_8 (below_alloc _ o)
  have bc_g02_8 := fun o o1 => cell_b (ac_g02_8 o) (below_alloc _ o1)
  have ac_h00_8 := fun o => cell_b c_h00_8 (below_alloc _ o)
  have bc_h00_8 := fun o o1 => cell_b (ac_h00_8 o) (below_alloc _ o1)
  have ac_h01_8 := fun o => cell_b c_h01_8 (below_alloc _ o)
  have bc_h01_8 := fun o o1 => cell_b (ac_h01_8 o) (below_alloc _ o1)
  have ac_h02_8 := fun o => cell_b c_h02_8 (below_alloc _ o)
  have bc_h02_8 := fun o o1 => cell_b (ac_h02_8 o) (below_alloc _ o1)
  clear ac_w00_7 bc_w00_7 ac_w01_7 bc_w01_7 ac_w02_7 bc_w02_7 ac_g00_7 bc_g00_7 ac_g01_7 bc_g01_7 ac_g02_7 bc_g02_7 ac_h00_7 bc_h00_7 ac_h01_7 bc_h01_7 ac_h02_7 bc_h02_7 c_w00_7 c_w01_7 c_w02_7 c_g00_7 c_g01_7 c_g02_7 c_h00_7 c_h01_7 c_h02_7 hb D8 T7
  go_wp2_with fail
  go_ret
  exact ⟨rfl, T8.out⟩
set_option maxHeartbeats 4000000 in
theorem W_FnExactNewLock (w : World) : Calls Try.prog 5 #[] w fun e w' => e = .returned (.bool true) ∧ Below w.heap.size w w' := by
  go_enter Try.func5, Try.ntmps5
  have T0 := Lib.hid (Below.refl w.heap.size w)
  go_wp2_with fail
  refine (S_NewLock _).mono ?_
  rintro e w1 ⟨aW, cW, bW, dW, rfl, hb⟩
  have D1 : Below w.heap.size w w1 := hb
  have T1 := Lib.hid (below_trans T0.out D1)
  have z1 : w.heap.size ≤ w1.heap.size := (by have := hb.size; (try simp at this); omega)
  clear hb D1 T0
  go_wp2_with fail
  refine (I_NewLock _).mono ?_
  rintro e w2 ⟨aG, cG, bG, dG, rfl, hb⟩
  have D2 : Below w1.heap.size w1 w2 := below_trans (below_alloc _ _) (hb)
  have T2 := Lib.hid (below_trans T1.out D2)
  have z2 : w1.heap.size + 1 ≤ w2.heap.size := (by have := hb.size; (try simp at this); omega)
  have c_w00_2 := cell_b (p := ⟨w1.heap.size, 0, none⟩) (v := .slice aW 0 cW) (by simp) hb
  have c_w01_2 := cell_b (p := ⟨w1.heap.size, 1, none⟩) (v := .int .i64 (-1)) (by simp) hb
  have c_w02_2 := cell_b (p := ⟨w1.heap.size, 2, none⟩) (v := .slice bW 0 dW) (by simp) hb
  have ac_w00_2 := fun o => cell_b c_w00_2 (below_alloc _ o)
  have bc_w00_2 := fun o o1 => cell_b (ac_w00_2 o) (below_alloc _ o1)
  have ac_w01_2 := fun o => cell_b c_w01_2 (below_alloc _ o)
  have bc_w01_2 := fun o o1 => cell_b (ac_w01_2 o) (below_alloc _ o1)
  have ac_w02_2 := fun o => cell_b c_w02_2 (below_alloc _ o)
  have bc_w02_2 := fun o o1 => cell_b (ac_w02_2 o) (below_alloc _ o1)
  clear hb D2 T1
  go_wp2_with fail
  refine (L_eqLock_0 _ _ _ _ _ _ _ _ _ _).mono ?_
  rintro e w3 ⟨rfl, hb⟩
  have D3 : Below w2.heap.size w2 w3 := below_trans (below_alloc _ _) (hb)
  have c_w00_3 := cell_b c_w00_2 D3
  have c_w01_3 := cell_b c_w01_2 D3
  have c_w02_3 := cell_b c_w02_2 D3
  have T3 := Lib.hid (below_trans T2.out D3)
  have z3 : w2.heap.size + 1 ≤ w3.heap.size := (by have := hb.size; (try simp at this); omega)
  have c_g00_3 := cell_b (p := ⟨w2.heap.size, 0, none⟩) (v := .slice aG 0 cG) (by simp) hb
  have c_g01_3 := cell_b (p := ⟨w2.heap.size, 1, none⟩) (v := .int .i64 (-1)) (by simp) hb
  have c_g02_3 := cell_b (p := ⟨w2.heap.size, 2, none⟩) (v := .slice bG 0 dG) (by simp) hb
  have ac_w00_3 := fun o => cell_b c_w00_3 (below_alloc _ o)
  have bc_w00_3 := fun o o1 => cell_b (ac_w00_3 o) (below_alloc _ o1)
  have ac_w01_3 := fun o => cell_b c_w01_3 (below_alloc _ o)
  have bc_w01_3 := fun o o1 => cell_b (ac_w01_3 o) (below_alloc _ o1)
  have ac_w02_3 := fun o => cell_b c_w02_3 (below_alloc _ o)
  have bc_w02_3 := fun o o1 => cell_b (ac_w02_3 o) (below_alloc _ o1)
  have ac_g00_3 := fun o => cell_b c_g00_3 (below_alloc _ o)
  have bc_g00_3 := fun o o1 => cell_b (ac_g00_3 o) (below_alloc _ o1)
  have ac_g01_3 := fun o => cell_b c_g01_3 (below_alloc _ o)
  have bc_g01_3 := fun o o1 => cell_b (ac_g01_3 o) (below_alloc _ o1)
  have ac_g02_3 := fun o => cell_b c_g02_3 (below_alloc _ o)
  have bc_g02_3 := fun o o1 => cell_b (ac_g02_3 o) (below_alloc _ o1)
  clear ac_w00_2 bc_w00_2 ac_w01_2 bc_w01_2 ac_w02_2 bc_w02_2 c_w00_2 c_w01_2 c_w02_2 hb D3 T2
  go_wp2_with fail
  refine (L_markLock_0 _ _ _ _ _ _ _ (by omega)).mono ?_
  rintro e w4 ⟨rfl, hb⟩
  have D4 : Below w3.heap.size w3 w4 := hb
  have c_w00_4 := cell_b c_w00_3 D4
  have c_w01_4 := cell_b c_w01_3 D4
  have c_w02_4 := cell_b c_w02_3 D4
  have c_g00_4 := cell_b c_g00_3 D4
  have c_g01_4 := cell_b c_g01_3 D4
  have c_g02_4 := cell_b c_g02_3 D4
  have T4 := Lib.hid (below_trans T3.out D4)
  have z4 : w3.heap.size ≤ w4.heap.size := (by have := hb.size; (try simp at this); omega)
  have ac_w00_4 := fun o => cell_b c_w00_4 (below_alloc _ o)
  have bc_w00_4 := fun o o1 => cell_b (ac_w00_4 o) (below_alloc _ o1)
  have ac_w01_4 := fun o => cell_b c_w01_4 (below_alloc _ o)
  have bc_w01_4 := fun o o1 => cell_b (ac_w01_4 o) (below_alloc _ o1)
  have ac_w02_4 := fun o => cell_b c_w02_4 (below_alloc _ o)
  have bc_w02_4 := fun o o1 => cell_b (ac_w02_4 o) (below_alloc _ o1)
  have ac_g00_4 := fun o => cell_b c_g00_4 (below_alloc _ o)
  have bc_g00_4 := fun o o1 => cell_b (ac_g00_4 o) (below_alloc _ o1)
  have ac_g01_4 := fun o => cell_b c_g01_4 (below_alloc _ o)
  have bc_g01_4 := fun o o1 => cell_b (ac_g01_4 o) (below_alloc _ o1)
  have ac_g02_4 := fun o => cell_b c_g02_4 (below_alloc _ o)
  have bc_g02_4 := fun o o1 => cell_b (ac_g02_4 o) (below_alloc _ o1)
  clear ac_w00_3 bc_w00_3 ac_w01_3 bc_w01_3 ac_w02_3 bc_w02_3 ac_g00_3 bc_g00_3 ac_g01_3 bc_g01_3 ac_g02_3 bc_g02_3 c_w00_3 c_w01_3 c_w02_3 c_g00_3 c_g01_3 c_g02_3 hb D4 T3
  go_wp2_with fail
  refine (L_heldLock_0 _ _ _ _ _ _ _ (by omega)).mono ?_
  rintro e w5 ⟨rfl, hb⟩
  have D5 : Below w4.heap.size w4 w5 := hb
  have c_w00_5 := cell_b c_w00_4 D5
  have c_w01_5 := cell_b c_w01_4 D5
  have c_w02_5 := cell_b c_w02_4 D5
  have c_g00_5 := cell_b c_g00_4 D5
  have c_g01_5 := cell_b c_g01_4 D5
  have c_g02_5 := cell_b c_g02_4 D5
  have T5 := Lib.hid (below_trans T4.out D5)
  have z5 : w4.heap.size ≤ w5.heap.size := (by have := hb.size; (try simp at this); omega)
  have ac_w00_5 := fun o => cell_b c_w00_5 (below_alloc _ o)
  have bc_w00_5 := fun o o1 => cell_b (ac_w00_5 o) (below_alloc _ o1)
  have ac_w01_5 := fun o => cell_b c_w01_5 (below_alloc _ o)
  have bc_w01_5 := fun o o1 => cell_b (ac_w01_5 o) (below_alloc _ o1)
  have ac_w02_5 := fun o => cell_b c_w02_5 (below_alloc _ o)
  have bc_w02_5 := fun o o1 => cell_b (ac_w02_5 o) (below_alloc _ o1)
  have ac_g00_5 := fun o => cell_b c_g00_5 (below_alloc _ o)
  have bc_g00_5 := fun o o1 => cell_b (ac_g00_5 o) (below_alloc _ o1)
  have ac_g01_5 := fun o => cell_b c_g01_5 (below_alloc _ o)
  have bc_g01_5 := fun o o1 => cell_b (ac_g01_5 o) (below_alloc _ o1)
  have ac_g02_5 := fun o => cell_b c_g02_5 (below_alloc _ o)
  have bc_g02_5 := fun o o1 => cell_b (ac_g02_5 o) (below_alloc _ o1)
  clear ac_w00_4 bc_w00_4 ac_w01_4 bc_w01_4 ac_w02_4 bc_w02_4 ac_g00_4 bc_g00_4 ac_g01_4 bc_g01_4 ac_g02_4 bc_g02_4 c_w00_4 c_w01_4 c_w02_4 c_g00_4 c_g01_4 c_g02_4 hb D5 T4
  go_wp2_with fail
  refine (I_NewLock _).mono ?_
  rintro e w6 ⟨aH, cH, bH, dH, rfl, hb⟩
  have D6 : Below w5.heap.size w5 w6 := hb
  have c_w00_6 := cell_b c_w00_5 D6
  have c_w01_6 := cell_b c_w01_5 D6
  have c_w02_6 := cell_b c_w02_5 D6
  have c_g00_6 := cell_b c_g00_5 D6
  have c_g01_6 := cell_b c_g01_5 D6
  have c_g02_6 := cell_b c_g02_5 D6
  have T6 := Lib.hid (below_trans T5.out D6)
  have z6 : w5.heap.size ≤ w6.heap.size := (by have := hb.size; (try simp at this); omega)
  have ac_w00_6 := fun o => cell_b c_w00_6 (below_alloc _ o)
  have bc_w00_6 := fun o o1 => cell_b (ac_w00_6 o) (below_alloc _ o1)
  have ac_w01_6 := fun o => cell_b c_w01_6 (below_alloc _ o)
  have bc_w01_6 := fun o o1 => cell_b (ac_w01_6 o) (below_alloc _ o1)
  have ac_w02_6 := fun o => cell_b c_w02_6 (below_alloc _ o)
  have bc_w02_6 := fun o o1 => cell_b (ac_w02_6 o) (below_alloc _ o1)
  have ac_g00_6 := fun o => cell_b c_g00_6 (below_alloc _ o)
  have bc_g00_6 := fun o o1 => cell_b (ac_g00_6 o) (below_alloc _ o1)
  have ac_g01_6 := fun o => cell_b c_g01_6 (below_alloc _ o)
  have bc_g01_6 := fun o o1 => cell_b (ac_g01_6 o) (below_alloc _ o1)
  have ac_g02_6 := fun o => cell_b c_g02_6 (below_alloc _ o)
  have bc_g02_6 := fun o o1 => cell_b (ac_g02_6 o) (below_alloc _ o1)
  clear ac_w00_5 bc_w00_5 ac_w01_5 bc_w01_5 ac_w02_5 bc_w02_5 ac_g00_5 bc_g00_5 ac_g01_5 bc_g01_5 ac_g02_5 bc_g02_5 c_w00_5 c_w01_5 c_w02_5 c_g00_5 c_g01_5 c_g02_5 hb D6 T5
  go_wp2_with fail
  refine (L_eqLock_0 _ _ _ _ _ _ _ _ _ _).mono ?_
  rintro e w7 ⟨rfl, hb⟩
  have D7 : Below w6.heap.size w6 w7 := below_trans (below_alloc _ _) (hb)
  have c_w00_7 := cell_b c_w00_6 D7
  have c_w01_7 := cell_b c_w01_6 D7
  have c_w02_7 := cell_b c_w02_6 D7
  have c_g00_7 := cell_b c_g00_6 D7
  have c_g01_7 := cell_b c_g01_6 D7
  have c_g02_7 := cell_b c_g02_6 D7
  have T7 := Lib.hid (below_trans T6.out D7)
  have z7 : w6.heap.size + 1 ≤ w7.heap.size := (by have := hb.size; (try simp at this); omega)
  have c_h00_7 := cell_b (p := ⟨w6.heap.size, 0, none⟩) (v := .slice aH 0 cH) (by simp) hb
  have c_h01_7 := cell_b (p := ⟨w6.heap.size, 1, none⟩) (v := .int .i64 (-1)) (by simp) hb
  have c_h02_7 := cell_b (p := ⟨w6.heap.size, 2, none⟩) (v := .slice bH 0 dH) (by simp) hb
  have ac_w00_7 := fun o => cell_b c_w00_7 (below_alloc _ o)
  have bc_w00_7 := fun o o1 => cell_b (ac_w00_7 o) (below_alloc _ o1)
  have ac_w01_7 := fun o => cell_b c_w01_7 (below_alloc _ o)
  have bc_w01_7 := fun o o1 => cell_b (ac_w01_7 o) (below_alloc _ o1)
  have ac_w02_7 := fun o => cell_b c_w02_7 (below_alloc _ o)
  have bc_w02_7 := fun o o1 => cell_b (ac_w02_7 o) (below_alloc _ o1)
  have ac_g00_7 := fun o => cell_b c_g00_7 (below_alloc _ o)
  have bc_g00_7 := fun o o1 => cell_b (ac_g00_7 o) (below_alloc _ o1)
  have ac_g01_7 := fun o => cell_b c_g01_7 (below_alloc _ o)
  have bc_g01_7 := fun o o1 => cell_b (ac_g01_7 o) (below_alloc _ o1)
  have ac_g02_7 := fun o => cell_b c_g02_7 (below_alloc _ o)
  have bc_g02_7 := fun o o1 => cell_b (ac_g02_7 o) (below_alloc _ o1)
  have ac_h00_7 := fun o => cell_b c_h00_7 (below_alloc _ o)
  have bc_h00_7 := fun o o1 => cell_b (ac_h00_7 o) (below_alloc _ o1)
  have ac_h01_7 := fun o => cell_b c_h01_7 (below_alloc _ o)
  have bc_h01_7 := fun o o1 => cell_b (ac_h01_7 o) (below_alloc _ o1)
  have ac_h02_7 := fun o => cell_b c_h02_7 (below_alloc _ o)
  have bc_h02_7 := fun o o1 => cell_b (ac_h02_7 o) (below_alloc _ o1)
  clear ac_w00_6 bc_w00_6 ac_w01_6 bc_w01_6 ac_w02_6 bc_w02_6 ac_g00_6 bc_g00_6 ac_g01_6 bc_g01_6 ac_g02_6 bc_g02_6 c_w00_6 c_w01_6 c_w02_6 c_g00_6 c_g01_6 c_g02_6 hb D7 T6
  go_wp2_with fail
  refine (L_heldLock_0 _ _ _ _ _ _ _ (by omega)).mono ?_
  rintro e w8 ⟨rfl, hb⟩
  have D8 : Below w7.heap.size w7 w8 := hb
  have c_w00_8 := cell_b c_w00_7 D8
  have c_w01_8 := cell_b c_w01_7 D8
  have c_w02_8 := cell_b c_w02_7 D8
  have c_g00_8 := cell_b c_g00_7 D8
  have c_g01_8 := cell_b c_g01_7 D8
  have c_g02_8 := cell_b c_g02_7 D8
  have c_h00_8 := cell_b c_h00_7 D8
  have c_h01_8 := cell_b c_h01_7 D8
  have c_h02_8 := cell_b c_h02_7 D8
  have T8 := Lib.hid (below_trans T7.out D8)
  have z8 : w7.heap.size ≤ w8.heap.size := (by have := hb.size; (try simp at this); omega)
  have ac_w00_8 := fun o => cell_b c_w00_8 (below_alloc _ o)
  have bc_w00_8 := fun o o1 => cell_b (ac_w00_8 o) (below_alloc _ o1)
  have ac_w01_8 := fun o => cell_b c_w01_8 (below_alloc _ o)
  have bc_w01_8 := fun o o1 => cell_b (ac_w01_8 o) (below_alloc _ o1)
  have ac_w02_8 := fun o => cell_b c_w02_8 (below_alloc _ o)
  have bc_w02_8 := fun o o1 => cell_b (ac_w02_8 o) (below_alloc _ o1)
  have ac_g00_8 := fun o => cell_b c_g00_8 (below_alloc _ o)
  have bc_g00_8 := fun o o1 => cell_b (ac_g00_8 o) (below_alloc _ o1)
  have ac_g01_8 := fun o => cell_b c_g01_8 (below_alloc _ o)
  have bc_g01_8 := fun o o1 => cell_b (ac_g01_8 o) (below_alloc _ o1)
  have ac_g02_8 := fun o => cell_b c_g02_8 (below_alloc _ o)
  have bc_g02_8 := fun o o1 => cell_b (ac_g02_8 o) (below_alloc _ o1)
  have ac_h00_8 := fun o => cell_b c_h00_8 (below_alloc _ o)
  have bc_h00_8 := fun o o1 => cell_b (ac_h00_8 o) (below_alloc _ o1)
  have ac_h01_8 := fun o => cell_b c_h01_8 (below_alloc _ o)
  have bc_h01_8 := fun o o1 => cell_b (ac_h01_8 o) (below_alloc _ o1)
  have ac_h02_8 := fun o => cell_b c_h02_8 (below_alloc _ o)
  have bc_h02_8 := fun o o1 => cell_b (ac_h02_8 o) (below_alloc _ o1)
  clear ac_w00_7 bc_w00_7 ac_w01_7 bc_w01_7 ac_w02_7 bc_w02_7 ac_g00_7 bc_g00_7 ac_g01_7 bc_g01_7 ac_g02_7 bc_g02_7 ac_h00_7 bc_h00_7 ac_h01_7 bc_h01_7 ac_h02_7 bc_h02_7 c_w00_7 c_w01_7 c_w02_7 c_g00_7 c_g01_7 c_g02_7 c_h00_7 c_h01_7 c_h02_7 hb D8 T7
  go_wp2_with fail
  go_ret
  exact ⟨rfl, T8.out⟩
end Go.Proofs.Ytaoeacclkekokaa
