import Derived.Test.YtlbcfmhpkcpmaaaGreatDoorBits4
import Derived.Deep.QuietTactic
import Derived.BigQuiet
namespace Go.Proofs.YtlbcfmhpkcpmaaaGreatDoor
open Go.RowKit

theorem u8_eq_t {a b : UInt8} (h : a = b) : ((a.toNat : Int) == (b.toNat : Int)) = true := by subst h; simp

set_option maxHeartbeats 400000 in
set_option maxRecDepth 100000 in
theorem scan_one_end1 (s : ByteArray) (c : UInt8) (k B S : Nat) (w : World) (hk : s.size ≤ k)
    (ha : w.cell? ⟨B, 0, none⟩ = some (.int .i64 k)) (hS : w.cell? ⟨S, 0, none⟩ = some (.string s)) :
    Calls Tryz.prog 152 #[.string ⟨#[c]⟩, .pointer (some ⟨B, 0, none⟩), .pointer (some ⟨S, 0, none⟩)] w fun e w' => e = .returned (.bool false) ∧ ∃ n, w' = w.drewN n := by
  have hd : decide (k < s.size) = false := by simp; omega
  go_enter Tryz.func152, Tryz.ntmps152
  go_wp2_with fail
  refine wp_loop_rounds 2 ?_
  rw [rounds_succ]
  go_wp2_with fail
  go_quiet (fail)
  go_wp2_with fail
  rw [rounds_succ]
  go_wp2_with fail
  go_ret
  exact ⟨rfl, _, rfl⟩

set_option maxHeartbeats 400000 in
set_option maxRecDepth 100000 in
theorem scan_one_end2 (s : ByteArray) (c d : UInt8) (k B S : Nat) (w : World) (hk : s.size ≤ k)
    (ha : w.cell? ⟨B, 0, none⟩ = some (.int .i64 k)) (hS : w.cell? ⟨S, 0, none⟩ = some (.string s)) :
    Calls Tryz.prog 152 #[.string ⟨#[c, d]⟩, .pointer (some ⟨B, 0, none⟩), .pointer (some ⟨S, 0, none⟩)] w fun e w' => e = .returned (.bool false) ∧ ∃ n, w' = w.drewN n := by
  have hd : decide (k < s.size) = false := by simp; omega
  go_enter Tryz.func152, Tryz.ntmps152
  go_wp2_with fail
  refine wp_loop_rounds 3 ?_
  rw [rounds_succ]
  go_wp2_with fail
  go_quiet (fail)
  go_wp2_with fail
  rw [rounds_succ]
  go_wp2_with fail
  go_quiet (fail)
  go_wp2_with fail
  rw [rounds_succ]
  go_wp2_with fail
  go_ret
  exact ⟨rfl, _, rfl⟩

set_option maxHeartbeats 400000 in
set_option maxRecDepth 100000 in
theorem scan_one_yes1 (s : ByteArray) (c : UInt8) (k B S : Nat) (w : World) (hk : k < s.size) (hc : s[k] = c) (hs : s.size ≤ 1000)
    (ha : w.cell? ⟨B, 0, none⟩ = some (.int .i64 k)) (hS : w.cell? ⟨S, 0, none⟩ = some (.string s)) (hf : w.frozen? ⟨B, 0, none⟩ = false) :
    Calls Tryz.prog 152 #[.string ⟨#[c]⟩, .pointer (some ⟨B, 0, none⟩), .pointer (some ⟨S, 0, none⟩)] w fun e w' => e = .returned (.bool true) ∧ ∃ n, w' = (w.setCell ⟨B, 0, none⟩ (.int .i64 (k + 1))).drewN n := by
  have hd : decide (k < s.size) = true := by simp; omega
  have he := u8_eq_t (a := s[k]) (b := (⟨#[c]⟩ : ByteArray)[0]'(Nat.zero_lt_one)) hc
  clear hc
  go_enter Tryz.func152, Tryz.ntmps152
  go_wp2_with fail
  refine wp_loop_rounds 2 ?_
  rw [rounds_succ]
  go_wp2_with fail
  go_quiet (fail)
  go_wp2_with fail
  go_ret
  exact ⟨rfl, _, rfl⟩

set_option maxHeartbeats 400000 in
set_option maxRecDepth 100000 in
theorem scan_one_no1 (s : ByteArray) (c : UInt8) (k B S : Nat) (w : World) (hk : k < s.size) (hc : s[k] ≠ c)
    (ha : w.cell? ⟨B, 0, none⟩ = some (.int .i64 k)) (hS : w.cell? ⟨S, 0, none⟩ = some (.string s)) :
    Calls Tryz.prog 152 #[.string ⟨#[c]⟩, .pointer (some ⟨B, 0, none⟩), .pointer (some ⟨S, 0, none⟩)] w fun e w' => e = .returned (.bool false) ∧ ∃ n, w' = w.drewN n := by
  have hd : decide (k < s.size) = true := by simp; omega
  have he := u8_ne (a := s[k]) (b := (⟨#[c]⟩ : ByteArray)[0]'(Nat.zero_lt_one)) hc
  clear hc
  go_enter Tryz.func152, Tryz.ntmps152
  go_wp2_with fail
  refine wp_loop_rounds 2 ?_
  rw [rounds_succ]
  go_wp2_with fail
  go_quiet (fail)
  go_wp2_with fail
  rw [rounds_succ]
  go_wp2_with fail
  go_ret
  exact ⟨rfl, _, rfl⟩

set_option maxHeartbeats 400000 in
set_option maxRecDepth 100000 in
theorem scan_one_no2 (s : ByteArray) (c d : UInt8) (k B S : Nat) (w : World) (hk : k < s.size) (hc : s[k] ≠ c) (hc' : s[k] ≠ d)
    (ha : w.cell? ⟨B, 0, none⟩ = some (.int .i64 k)) (hS : w.cell? ⟨S, 0, none⟩ = some (.string s)) :
    Calls Tryz.prog 152 #[.string ⟨#[c, d]⟩, .pointer (some ⟨B, 0, none⟩), .pointer (some ⟨S, 0, none⟩)] w fun e w' => e = .returned (.bool false) ∧ ∃ n, w' = w.drewN n := by
  have hd : decide (k < s.size) = true := by simp; omega
  have he := u8_ne (a := s[k]) (b := (⟨#[c, d]⟩ : ByteArray)[0]'(show 0 < 2 from by decide)) hc
  have he' := u8_ne (a := s[k]) (b := (⟨#[c, d]⟩ : ByteArray)[1]'(show 1 < 2 from by decide)) hc'
  clear hc hc'
  go_enter Tryz.func152, Tryz.ntmps152
  go_wp2_with fail
  refine wp_loop_rounds 3 ?_
  rw [rounds_succ]
  go_wp2_with fail
  go_quiet (fail)
  go_wp2_with fail
  rw [rounds_succ]
  go_wp2_with fail
  go_quiet (fail)
  go_wp2_with fail
  rw [rounds_succ]
  go_wp2_with fail
  go_ret
  exact ⟨rfl, _, rfl⟩

set_option maxHeartbeats 400000 in
set_option maxRecDepth 100000 in
theorem scan_one_yes2a (s : ByteArray) (c d : UInt8) (k B S : Nat) (w : World) (hk : k < s.size) (hc : s[k] = c) (hs : s.size ≤ 1000)
    (ha : w.cell? ⟨B, 0, none⟩ = some (.int .i64 k)) (hS : w.cell? ⟨S, 0, none⟩ = some (.string s)) (hf : w.frozen? ⟨B, 0, none⟩ = false) :
    Calls Tryz.prog 152 #[.string ⟨#[c, d]⟩, .pointer (some ⟨B, 0, none⟩), .pointer (some ⟨S, 0, none⟩)] w fun e w' => e = .returned (.bool true) ∧ ∃ n, w' = (w.setCell ⟨B, 0, none⟩ (.int .i64 (k + 1))).drewN n := by
  have hd : decide (k < s.size) = true := by simp; omega
  have he := u8_eq_t (a := s[k]) (b := (⟨#[c, d]⟩ : ByteArray)[0]'(show 0 < 2 from by decide)) hc
  clear hc
  go_enter Tryz.func152, Tryz.ntmps152
  go_wp2_with fail
  refine wp_loop_rounds 3 ?_
  rw [rounds_succ]
  go_wp2_with fail
  go_quiet (fail)
  go_wp2_with fail
  go_ret
  exact ⟨rfl, _, rfl⟩

set_option maxHeartbeats 400000 in
set_option maxRecDepth 100000 in
theorem scan_one_yes2b (s : ByteArray) (c d : UInt8) (k B S : Nat) (w : World) (hk : k < s.size) (hc : s[k] ≠ c) (hc' : s[k] = d) (hs : s.size ≤ 1000)
    (ha : w.cell? ⟨B, 0, none⟩ = some (.int .i64 k)) (hS : w.cell? ⟨S, 0, none⟩ = some (.string s)) (hf : w.frozen? ⟨B, 0, none⟩ = false) :
    Calls Tryz.prog 152 #[.string ⟨#[c, d]⟩, .pointer (some ⟨B, 0, none⟩), .pointer (some ⟨S, 0, none⟩)] w fun e w' => e = .returned (.bool true) ∧ ∃ n, w' = (w.setCell ⟨B, 0, none⟩ (.int .i64 (k + 1))).drewN n := by
  have hd : decide (k < s.size) = true := by simp; omega
  have he := u8_ne (a := s[k]) (b := (⟨#[c, d]⟩ : ByteArray)[0]'(show 0 < 2 from by decide)) hc
  have he' := u8_eq_t (a := s[k]) (b := (⟨#[c, d]⟩ : ByteArray)[1]'(show 1 < 2 from by decide)) hc'
  clear hc hc'
  go_enter Tryz.func152, Tryz.ntmps152
  go_wp2_with fail
  refine wp_loop_rounds 3 ?_
  rw [rounds_succ]
  go_wp2_with fail
  go_quiet (fail)
  go_wp2_with fail
  rw [rounds_succ]
  go_wp2_with fail
  go_quiet (fail)
  go_wp2_with fail
  go_ret
  exact ⟨rfl, _, rfl⟩
end Go.Proofs.YtlbcfmhpkcpmaaaGreatDoor
