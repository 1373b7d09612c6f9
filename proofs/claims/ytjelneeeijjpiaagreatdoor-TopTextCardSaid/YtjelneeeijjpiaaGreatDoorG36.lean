/- TopText: walks and plain laws, part 36: lemmas on what the functions that the law comes to compute. -/
import Derived.Test.YtjelneeeijjpiaaGreatDoorG34
import Derived.Test.YtjelneeeijjpiaaGreatDoorG25
import Derived.Test.YtjelneeeijjpiaaGreatDoorG04
set_option linter.unusedVariables false
set_option linter.unusedSimpArgs false
section
namespace Go.Proofs.YtjelneeeijjpiaaGreatDoor
open Go.RowKit
theorem ix_0 (w : World) : Calls Tryz.prog 52 #[.string ⟨#[116, 101, 120, 116, 32, 48, 32, 36, 91, 48, 93]⟩, .string ⟨#[32]⟩] w fun e w' => e = .returned (.int .i64 4) ∧ w = w' := by
  have h := Tryz.stringslite_Index_one (⟨#[116, 101, 120, 116, 32, 48, 32, 36, 91, 48, 93]⟩ : ByteArray) 32 w
  rw [show Lib.indexByte (⟨#[116, 101, 120, 116, 32, 48, 32, 36, 91, 48, 93]⟩ : ByteArray).data.toList 32 = 4 by decide] at h
  exact h.mono fun e w' ⟨a, b⟩ => ⟨a, b.symm⟩
set_option maxRecDepth 100000 in
set_option maxHeartbeats 2000000 in
theorem lcut_0  (w : World) : Calls Tryz.prog 25 #[.string ⟨#[116, 101, 120, 116, 32, 48, 32, 36, 91, 48, 93]⟩, .string ⟨#[32]⟩] w fun e w' => e = .returned (.tuple #[.string ⟨#[116, 101, 120, 116]⟩, .string ⟨#[48, 32, 36, 91, 48, 93]⟩, .bool true]) ∧ Below w.heap.size w w' := by
  go_enter Tryz.func25, Tryz.ntmps25
  go_wp2_with (first | (go_at_call 52; refine (ix_0 _).mono ?_; rintro e w9 ⟨rfl, rfl⟩))
  go_region
  go_wp2_with fail
  try simp only [Exit.inBlock, Exit.then]
  refine bodyPost_ret (v := .tuple #[.string ⟨#[116, 101, 120, 116]⟩, .string ⟨#[48, 32, 36, 91, 48, 93]⟩, .bool true]) (by simp [results, Tryz.results25, go_sem]; first | done | decide) rfl ⟨rfl, by (repeat' (first | refine Below.setCell ?_ (by first | (simp; done) | (simp; omega) | omega | (simp [World.setCell]; omega)) _ | refine Below.alloc ?_ (by first | (simp; done) | (simp; omega) | omega | (simp [World.setCell]; omega)) _ | refine below_drewN' ?_ _ | refine Below.drew ?_ | exact Hid.out (by assumption) | exact Below.refl _ _))⟩
set_option maxRecDepth 100000 in
set_option maxHeartbeats 2000000 in
theorem scut_0  (w : World) : Calls Tryz.prog 16 #[.string ⟨#[116, 101, 120, 116, 32, 48, 32, 36, 91, 48, 93]⟩, .string ⟨#[32]⟩] w fun e w' => e = .returned (.tuple #[.string ⟨#[116, 101, 120, 116]⟩, .string ⟨#[48, 32, 36, 91, 48, 93]⟩, .bool true]) ∧ Below w.heap.size w w' := by
  go_enter Tryz.func16, Tryz.ntmps16
  go_wp2_with fail
  refine (lcut_0 _).mono ?_; rintro e w1 ⟨rfl, hb1⟩
  go_wp2_with fail
  try simp only [Exit.inBlock, Exit.then]
  refine bodyPost_ret (v := .tuple #[.string ⟨#[116, 101, 120, 116]⟩, .string ⟨#[48, 32, 36, 91, 48, 93]⟩, .bool true]) (by simp [results, Tryz.results16, go_sem]; first | done | decide) rfl ⟨rfl, hb1⟩
theorem ix_1 (w : World) : Calls Tryz.prog 52 #[.string ⟨#[118, 97, 108, 117, 101, 115, 32, 48, 32, 49, 32, 36, 91, 48, 93]⟩, .string ⟨#[32]⟩] w fun e w' => e = .returned (.int .i64 6) ∧ w = w' := by
  have h := Tryz.stringslite_Index_one (⟨#[118, 97, 108, 117, 101, 115, 32, 48, 32, 49, 32, 36, 91, 48, 93]⟩ : ByteArray) 32 w
  rw [show Lib.indexByte (⟨#[118, 97, 108, 117, 101, 115, 32, 48, 32, 49, 32, 36, 91, 48, 93]⟩ : ByteArray).data.toList 32 = 6 by decide] at h
  exact h.mono fun e w' ⟨a, b⟩ => ⟨a, b.symm⟩
set_option maxRecDepth 100000 in
set_option maxHeartbeats 2000000 in
theorem lcut_1  (w : World) : Calls Tryz.prog 25 #[.string ⟨#[118, 97, 108, 117, 101, 115, 32, 48, 32, 49, 32, 36, 91, 48, 93]⟩, .string ⟨#[32]⟩] w fun e w' => e = .returned (.tuple #[.string ⟨#[118, 97, 108, 117, 101, 115]⟩, .string ⟨#[48, 32, 49, 32, 36, 91, 48, 93]⟩, .bool true]) ∧ Below w.heap.size w w' := by
  go_enter Tryz.func25, Tryz.ntmps25
  go_wp2_with (first | (go_at_call 52; refine (ix_1 _).mono ?_; rintro e w9 ⟨rfl, rfl⟩))
  go_region
  go_wp2_with fail
  try simp only [Exit.inBlock, Exit.then]
  refine bodyPost_ret (v := .tuple #[.string ⟨#[118, 97, 108, 117, 101, 115]⟩, .string ⟨#[48, 32, 49, 32, 36, 91, 48, 93]⟩, .bool true]) (by simp [results, Tryz.results25, go_sem]; first | done | decide) rfl ⟨rfl, by (repeat' (first | refine Below.setCell ?_ (by first | (simp; done) | (simp; omega) | omega | (simp [World.setCell]; omega)) _ | refine Below.alloc ?_ (by first | (simp; done) | (simp; omega) | omega | (simp [World.setCell]; omega)) _ | refine below_drewN' ?_ _ | refine Below.drew ?_ | exact Hid.out (by assumption) | exact Below.refl _ _))⟩
set_option maxRecDepth 100000 in
set_option maxHeartbeats 2000000 in
theorem scut_1  (w : World) : Calls Tryz.prog 16 #[.string ⟨#[118, 97, 108, 117, 101, 115, 32, 48, 32, 49, 32, 36, 91, 48, 93]⟩, .string ⟨#[32]⟩] w fun e w' => e = .returned (.tuple #[.string ⟨#[118, 97, 108, 117, 101, 115]⟩, .string ⟨#[48, 32, 49, 32, 36, 91, 48, 93]⟩, .bool true]) ∧ Below w.heap.size w w' := by
  go_enter Tryz.func16, Tryz.ntmps16
  go_wp2_with fail
  refine (lcut_1 _).mono ?_; rintro e w1 ⟨rfl, hb1⟩
  go_wp2_with fail
  try simp only [Exit.inBlock, Exit.then]
  refine bodyPost_ret (v := .tuple #[.string ⟨#[118, 97, 108, 117, 101, 115]⟩, .string ⟨#[48, 32, 49, 32, 36, 91, 48, 93]⟩, .bool true]) (by simp [results, Tryz.results16, go_sem]; first | done | decide) rfl ⟨rfl, hb1⟩
theorem ix_2 (w : World) : Calls Tryz.prog 52 #[.string ⟨#[118, 97, 108, 117, 101, 115, 32, 48, 32, 57, 32, 36, 91, 48, 93]⟩, .string ⟨#[32]⟩] w fun e w' => e = .returned (.int .i64 6) ∧ w = w' := by
  have h := Tryz.stringslite_Index_one (⟨#[118, 97, 108, 117, 101, 115, 32, 48, 32, 57, 32, 36, 91, 48, 93]⟩ : ByteArray) 32 w
  rw [show Lib.indexByte (⟨#[118, 97, 108, 117, 101, 115, 32, 48, 32, 57, 32, 36, 91, 48, 93]⟩ : ByteArray).data.toList 32 = 6 by decide] at h
  exact h.mono fun e w' ⟨a, b⟩ => ⟨a, b.symm⟩
set_option maxRecDepth 100000 in
set_option maxHeartbeats 2000000 in
theorem lcut_2  (w : World) : Calls Tryz.prog 25 #[.string ⟨#[118, 97, 108, 117, 101, 115, 32, 48, 32, 57, 32, 36, 91, 48, 93]⟩, .string ⟨#[32]⟩] w fun e w' => e = .returned (.tuple #[.string ⟨#[118, 97, 108, 117, 101, 115]⟩, .string ⟨#[48, 32, 57, 32, 36, 91, 48, 93]⟩, .bool true]) ∧ Below w.heap.size w w' := by
  go_enter Tryz.func25, Tryz.ntmps25
  go_wp2_with (first | (go_at_call 52; refine (ix_2 _).mono ?_; rintro e w9 ⟨rfl, rfl⟩))
  go_region
  go_wp2_with fail
  try simp only [Exit.inBlock, Exit.then]
  refine bodyPost_ret (v := .tuple #[.string ⟨#[118, 97, 108, 117, 101, 115]⟩, .string ⟨#[48, 32, 57, 32, 36, 91, 48, 93]⟩, .bool true]) (by simp [results, Tryz.results25, go_sem]; first | done | decide) rfl ⟨rfl, by (repeat' (first | refine Below.setCell ?_ (by first | (simp; done) | (simp; omega) | omega | (simp [World.setCell]; omega)) _ | refine Below.alloc ?_ (by first | (simp; done) | (simp; omega) | omega | (simp [World.setCell]; omega)) _ | refine below_drewN' ?_ _ | refine Below.drew ?_ | exact Hid.out (by assumption) | exact Below.refl _ _))⟩
set_option maxRecDepth 100000 in
set_option maxHeartbeats 2000000 in
theorem scut_2  (w : World) : Calls Tryz.prog 16 #[.string ⟨#[118, 97, 108, 117, 101, 115, 32, 48, 32, 57, 32, 36, 91, 48, 93]⟩, .string ⟨#[32]⟩] w fun e w' => e = .returned (.tuple #[.string ⟨#[118, 97, 108, 117, 101, 115]⟩, .string ⟨#[48, 32, 57, 32, 36, 91, 48, 93]⟩, .bool true]) ∧ Below w.heap.size w w' := by
  go_enter Tryz.func16, Tryz.ntmps16
  go_wp2_with fail
  refine (lcut_2 _).mono ?_; rintro e w1 ⟨rfl, hb1⟩
  go_wp2_with fail
  try simp only [Exit.inBlock, Exit.then]
  refine bodyPost_ret (v := .tuple #[.string ⟨#[118, 97, 108, 117, 101, 115]⟩, .string ⟨#[48, 32, 57, 32, 36, 91, 48, 93]⟩, .bool true]) (by simp [results, Tryz.results16, go_sem]; first | done | decide) rfl ⟨rfl, hb1⟩
theorem ix_3 (w : World) : Calls Tryz.prog 52 #[.string ⟨#[48, 32, 36, 91, 48, 93]⟩, .string ⟨#[32]⟩] w fun e w' => e = .returned (.int .i64 1) ∧ w = w' := by
  have h := Tryz.stringslite_Index_one (⟨#[48, 32, 36, 91, 48, 93]⟩ : ByteArray) 32 w
  rw [show Lib.indexByte (⟨#[48, 32, 36, 91, 48, 93]⟩ : ByteArray).data.toList 32 = 1 by decide] at h
  exact h.mono fun e w' ⟨a, b⟩ => ⟨a, b.symm⟩
set_option maxRecDepth 100000 in
set_option maxHeartbeats 2000000 in
theorem lcut_3  (w : World) : Calls Tryz.prog 25 #[.string ⟨#[48, 32, 36, 91, 48, 93]⟩, .string ⟨#[32]⟩] w fun e w' => e = .returned (.tuple #[.string ⟨#[48]⟩, .string ⟨#[36, 91, 48, 93]⟩, .bool true]) ∧ Below w.heap.size w w' := by
  go_enter Tryz.func25, Tryz.ntmps25
  go_wp2_with (first | (go_at_call 52; refine (ix_3 _).mono ?_; rintro e w9 ⟨rfl, rfl⟩))
  go_region
  go_wp2_with fail
  try simp only [Exit.inBlock, Exit.then]
  refine bodyPost_ret (v := .tuple #[.string ⟨#[48]⟩, .string ⟨#[36, 91, 48, 93]⟩, .bool true]) (by simp [results, Tryz.results25, go_sem]; first | done | decide) rfl ⟨rfl, by (repeat' (first | refine Below.setCell ?_ (by first | (simp; done) | (simp; omega) | omega | (simp [World.setCell]; omega)) _ | refine Below.alloc ?_ (by first | (simp; done) | (simp; omega) | omega | (simp [World.setCell]; omega)) _ | refine below_drewN' ?_ _ | refine Below.drew ?_ | exact Hid.out (by assumption) | exact Below.refl _ _))⟩
set_option maxRecDepth 100000 in
set_option maxHeartbeats 2000000 in
theorem scut_3  (w : World) : Calls Tryz.prog 16 #[.string ⟨#[48, 32, 36, 91, 48, 93]⟩, .string ⟨#[32]⟩] w fun e w' => e = .returned (.tuple #[.string ⟨#[48]⟩, .string ⟨#[36, 91, 48, 93]⟩, .bool true]) ∧ Below w.heap.size w w' := by
  go_enter Tryz.func16, Tryz.ntmps16
  go_wp2_with fail
  refine (lcut_3 _).mono ?_; rintro e w1 ⟨rfl, hb1⟩
  go_wp2_with fail
  try simp only [Exit.inBlock, Exit.then]
  refine bodyPost_ret (v := .tuple #[.string ⟨#[48]⟩, .string ⟨#[36, 91, 48, 93]⟩, .bool true]) (by simp [results, Tryz.results16, go_sem]; first | done | decide) rfl ⟨rfl, hb1⟩
theorem ix_4 (w : World) : Calls Tryz.prog 52 #[.string ⟨#[48, 32, 49, 32, 36, 91, 48, 93]⟩, .string ⟨#[32]⟩] w fun e w' => e = .returned (.int .i64 1) ∧ w = w' := by
  have h := Tryz.stringslite_Index_one (⟨#[48, 32, 49, 32, 36, 91, 48, 93]⟩ : ByteArray) 32 w
  rw [show Lib.indexByte (⟨#[48, 32, 49, 32, 36, 91, 48, 93]⟩ : ByteArray).data.toList 32 = 1 by decide] at h
  exact h.mono fun e w' ⟨a, b⟩ => ⟨a, b.symm⟩
set_option maxRecDepth 100000 in
set_option maxHeartbeats 2000000 in
theorem lcut_4  (w : World) : Calls Tryz.prog 25 #[.string ⟨#[48, 32, 49, 32, 36, 91, 48, 93]⟩, .string ⟨#[32]⟩] w fun e w' => e = .returned (.tuple #[.string ⟨#[48]⟩, .string ⟨#[49, 32, 36, 91, 48, 93]⟩, .bool true]) ∧ Below w.heap.size w w' := by
  go_enter Tryz.func25, Tryz.ntmps25
  go_wp2_with (first | (go_at_call 52; refine (ix_4 _).mono ?_; rintro e w9 ⟨rfl, rfl⟩))
  go_region
  go_wp2_with fail
  try simp only [Exit.inBlock, Exit.then]
  refine bodyPost_ret (v := .tuple #[.string ⟨#[48]⟩, .string ⟨#[49, 32, 36, 91, 48, 93]⟩, .bool true]) (by simp [results, Tryz.results25, go_sem]; first | done | decide) rfl ⟨rfl, by (repeat' (first | refine Below.setCell ?_ (by first | (simp; done) | (simp; omega) | omega | (simp [World.setCell]; omega)) _ | refine Below.alloc ?_ (by first | (simp; done) | (simp; omega) | omega | (simp [World.setCell]; omega)) _ | refine below_drewN' ?_ _ | refine Below.drew ?_ | exact Hid.out (by assumption) | exact Below.refl _ _))⟩
set_option maxRecDepth 100000 in
set_option maxHeartbeats 2000000 in
theorem scut_4  (w : World) : Calls Tryz.prog 16 #[.string ⟨#[48, 32, 49, 32, 36, 91, 48, 93]⟩, .string ⟨#[32]⟩] w fun e w' => e = .returned (.tuple #[.string ⟨#[48]⟩, .string ⟨#[49, 32, 36, 91, 48, 93]⟩, .bool true]) ∧ Below w.heap.size w w' := by
  go_enter Tryz.func16, Tryz.ntmps16
  go_wp2_with fail
  refine (lcut_4 _).mono ?_; rintro e w1 ⟨rfl, hb1⟩
  go_wp2_with fail
  try simp only [Exit.inBlock, Exit.then]
  refine bodyPost_ret (v := .tuple #[.string ⟨#[48]⟩, .string ⟨#[49, 32, 36, 91, 48, 93]⟩, .bool true]) (by simp [results, Tryz.results16, go_sem]; first | done | decide) rfl ⟨rfl, hb1⟩
theorem ix_5 (w : World) : Calls Tryz.prog 52 #[.string ⟨#[48, 32, 57, 32, 36, 91, 48, 93]⟩, .string ⟨#[32]⟩] w fun e w' => e = .returned (.int .i64 1) ∧ w = w' := by
  have h := Tryz.stringslite_Index_one (⟨#[48, 32, 57, 32, 36, 91, 48, 93]⟩ : ByteArray) 32 w
  rw [show Lib.indexByte (⟨#[48, 32, 57, 32, 36, 91, 48, 93]⟩ : ByteArray).data.toList 32 = 1 by decide] at h
  exact h.mono fun e w' ⟨a, b⟩ => ⟨a, b.symm⟩
set_option maxRecDepth 100000 in
set_option maxHeartbeats 2000000 in
theorem lcut_5  (w : World) : Calls Tryz.prog 25 #[.string ⟨#[48, 32, 57, 32, 36, 91, 48, 93]⟩, .string ⟨#[32]⟩] w fun e w' => e = .returned (.tuple #[.string ⟨#[48]⟩, .string ⟨#[57, 32, 36, 91, 48, 93]⟩, .bool true]) ∧ Below w.heap.size w w' := by
  go_enter Tryz.func25, Tryz.ntmps25
  go_wp2_with (first | (go_at_call 52; refine (ix_5 _).mono ?_; rintro e w9 ⟨rfl, rfl⟩))
  go_region
  go_wp2_with fail
  try simp only [Exit.inBlock, Exit.then]
  refine bodyPost_ret (v := .tuple #[.string ⟨#[48]⟩, .string ⟨#[57, 32, 36, 91, 48, 93]⟩, .bool true]) (by simp [results, Tryz.results25, go_sem]; first | done | decide) rfl ⟨rfl, by (repeat' (first | refine Below.setCell ?_ (by first | (simp; done) | (simp; omega) | omega | (simp [World.setCell]; omega)) _ | refine Below.alloc ?_ (by first | (simp; done) | (simp; omega) | omega | (simp [World.setCell]; omega)) _ | refine below_drewN' ?_ _ | refine Below.drew ?_ | exact Hid.out (by assumption) | exact Below.refl _ _))⟩
set_option maxRecDepth 100000 in
set_option maxHeartbeats 2000000 in
theorem scut_5  (w : World) : Calls Tryz.prog 16 #[.string ⟨#[48, 32, 57, 32, 36, 91, 48, 93]⟩, .string ⟨#[32]⟩] w fun e w' => e = .returned (.tuple #[.string ⟨#[48]⟩, .string ⟨#[57, 32, 36, 91, 48, 93]⟩, .bool true]) ∧ Below w.heap.size w w' := by
  go_enter Tryz.func16, Tryz.ntmps16
  go_wp2_with fail
  refine (lcut_5 _).mono ?_; rintro e w1 ⟨rfl, hb1⟩
  go_wp2_with fail
  try simp only [Exit.inBlock, Exit.then]
  refine bodyPost_ret (v := .tuple #[.string ⟨#[48]⟩, .string ⟨#[57, 32, 36, 91, 48, 93]⟩, .bool true]) (by simp [results, Tryz.results16, go_sem]; first | done | decide) rfl ⟨rfl, hb1⟩
theorem ix_6 (w : World) : Calls Tryz.prog 52 #[.string ⟨#[49, 32, 36, 91, 48, 93]⟩, .string ⟨#[32]⟩] w fun e w' => e = .returned (.int .i64 1) ∧ w = w' := by
  have h := Tryz.stringslite_Index_one (⟨#[49, 32, 36, 91, 48, 93]⟩ : ByteArray) 32 w
  rw [show Lib.indexByte (⟨#[49, 32, 36, 91, 48, 93]⟩ : ByteArray).data.toList 32 = 1 by decide] at h
  exact h.mono fun e w' ⟨a, b⟩ => ⟨a, b.symm⟩
set_option maxRecDepth 100000 in
set_option maxHeartbeats 2000000 in
theorem lcut_6  (w : World) : Calls Tryz.prog 25 #[.string ⟨#[49, 32, 36, 91, 48, 93]⟩, .string ⟨#[32]⟩] w fun e w' => e = .returned (.tuple #[.string ⟨#[49]⟩, .string ⟨#[36, 91, 48, 93]⟩, .bool true]) ∧ Below w.heap.size w w' := by
  go_enter Tryz.func25, Tryz.ntmps25
  go_wp2_with (first | (go_at_call 52; refine (ix_6 _).mono ?_; rintro e w9 ⟨rfl, rfl⟩))
  go_region
  go_wp2_with fail
  try simp only [Exit.inBlock, Exit.then]
  refine bodyPost_ret (v := .tuple #[.string ⟨#[49]⟩, .string ⟨#[36, 91, 48, 93]⟩, .bool true]) (by simp [results, Tryz.results25, go_sem]; first | done | decide) rfl ⟨rfl, by (repeat' (first | refine Below.setCell ?_ (by first | (simp; done) | (simp; omega) | omega | (simp [World.setCell]; omega)) _ | refine Below.alloc ?_ (by first | (simp; done) | (simp; omega) | omega | (simp [World.setCell]; omega)) _ | refine below_drewN' ?_ _ | refine Below.drew ?_ | exact Hid.out (by assumption) | exact Below.refl _ _))⟩
set_option maxRecDepth 100000 in
set_option maxHeartbeats 2000000 in
theorem scut_6  (w : World) : Calls Tryz.prog 16 #[.string ⟨#[49, 32, 36, 91, 48, 93]⟩, .string ⟨#[32]⟩] w fun e w' => e = .returned (.tuple #[.string ⟨#[49]⟩, .string ⟨#[36, 91, 48, 93]⟩, .bool true]) ∧ Below w.heap.size w w' := by
  go_enter Tryz.func16, Tryz.ntmps16
  go_wp2_with fail
  refine (lcut_6 _).mono ?_; rintro e w1 ⟨rfl, hb1⟩
  go_wp2_with fail
  try simp only [Exit.inBlock, Exit.then]
  refine bodyPost_ret (v := .tuple #[.string ⟨#[49]⟩, .string ⟨#[36, 91, 48, 93]⟩, .bool true]) (by simp [results, Tryz.results16, go_sem]; first | done | decide) rfl ⟨rfl, hb1⟩
theorem ix_7 (w : World) : Calls Tryz.prog 52 #[.string ⟨#[57, 32, 36, 91, 48, 93]⟩, .string ⟨#[32]⟩] w fun e w' => e = .returned (.int .i64 1) ∧ w = w' := by
  have h := Tryz.stringslite_Index_one (⟨#[57, 32, 36, 91, 48, 93]⟩ : ByteArray) 32 w
  rw [show Lib.indexByte (⟨#[57, 32, 36, 91, 48, 93]⟩ : ByteArray).data.toList 32 = 1 by decide] at h
  exact h.mono fun e w' ⟨a, b⟩ => ⟨a, b.symm⟩
set_option maxRecDepth 100000 in
set_option maxHeartbeats 2000000 in
theorem lcut_7  (w : World) : Calls Tryz.prog 25 #[.string ⟨#[57, 32, 36, 91, 48, 93]⟩, .string ⟨#[32]⟩] w fun e w' => e = .returned (.tuple #[.string ⟨#[57]⟩, .string ⟨#[36, 91, 48, 93]⟩, .bool true]) ∧ Below w.heap.size w w' := by
  go_enter Tryz.func25, Tryz.ntmps25
  go_wp2_with (first | (go_at_call 52; refine (ix_7 _).mono ?_; rintro e w9 ⟨rfl, rfl⟩))
  go_region
  go_wp2_with fail
  try simp only [Exit.inBlock, Exit.then]
  refine bodyPost_ret (v := .tuple #[.string ⟨#[57]⟩, .string ⟨#[36, 91, 48, 93]⟩, .bool true]) (by simp [results, Tryz.results25, go_sem]; first | done | decide) rfl ⟨rfl, by (repeat' (first | refine Below.setCell ?_ (by first | (simp; done) | (simp; omega) | omega | (simp [World.setCell]; omega)) _ | refine Below.alloc ?_ (by first | (simp; done) | (simp; omega) | omega | (simp [World.setCell]; omega)) _ | refine below_drewN' ?_ _ | refine Below.drew ?_ | exact Hid.out (by assumption) | exact Below.refl _ _))⟩
set_option maxRecDepth 100000 in
set_option maxHeartbeats 2000000 in
theorem scut_7  (w : World) : Calls Tryz.prog 16 #[.string ⟨#[57, 32, 36, 91, 48, 93]⟩, .string ⟨#[32]⟩] w fun e w' => e = .returned (.tuple #[.string ⟨#[57]⟩, .string ⟨#[36, 91, 48, 93]⟩, .bool true]) ∧ Below w.heap.size w w' := by
  go_enter Tryz.func16, Tryz.ntmps16
  go_wp2_with fail
  refine (lcut_7 _).mono ?_; rintro e w1 ⟨rfl, hb1⟩
  go_wp2_with fail
  try simp only [Exit.inBlock, Exit.then]
  refine bodyPost_ret (v := .tuple #[.string ⟨#[57]⟩, .string ⟨#[36, 91, 48, 93]⟩, .bool true]) (by simp [results, Tryz.results16, go_sem]; first | done | decide) rfl ⟨rfl, hb1⟩
set_option maxRecDepth 100000 in
set_option maxHeartbeats 2000000 in
theorem num_0  (w : World) : Calls Tryz.prog 55 #[.string ⟨#[48]⟩] w fun e w' => e = .returned (.tuple #[.int .i64 0, .bool true]) ∧ Below w.heap.size w w' := by
  go_enter Tryz.func55, Tryz.ntmps55
  go_wp2_with (first | (refine wp_loop_unr 3 ?_; refine Unr.step ?_; intro U hU) | (refine Unr.step ?_; intro U hU))
  go_wp2_with fail
  try simp only [Exit.inBlock, Exit.then]
  refine bodyPost_ret (v := .tuple #[.int .i64 0, .bool true]) (by simp [results, Tryz.results55, go_sem]; first | done | decide) rfl ⟨rfl, by (repeat' (first | refine Below.setCell ?_ (by first | (simp; done) | (simp; omega) | omega | (simp [World.setCell]; omega)) _ | refine Below.alloc ?_ (by first | (simp; done) | (simp; omega) | omega | (simp [World.setCell]; omega)) _ | refine below_drewN' ?_ _ | refine Below.drew ?_ | exact Hid.out (by assumption) | exact Below.refl _ _))⟩
set_option maxRecDepth 100000 in
set_option maxHeartbeats 2000000 in
theorem num_1  (w : World) : Calls Tryz.prog 55 #[.string ⟨#[49]⟩] w fun e w' => e = .returned (.tuple #[.int .i64 1, .bool true]) ∧ Below w.heap.size w w' := by
  go_enter Tryz.func55, Tryz.ntmps55
  go_wp2_with (first | (refine wp_loop_unr 3 ?_; refine Unr.step ?_; intro U hU) | (refine Unr.step ?_; intro U hU))
  go_wp2_with fail
  try simp only [Exit.inBlock, Exit.then]
  refine bodyPost_ret (v := .tuple #[.int .i64 1, .bool true]) (by simp [results, Tryz.results55, go_sem]; first | done | decide) rfl ⟨rfl, by (repeat' (first | refine Below.setCell ?_ (by first | (simp; done) | (simp; omega) | omega | (simp [World.setCell]; omega)) _ | refine Below.alloc ?_ (by first | (simp; done) | (simp; omega) | omega | (simp [World.setCell]; omega)) _ | refine below_drewN' ?_ _ | refine Below.drew ?_ | exact Hid.out (by assumption) | exact Below.refl _ _))⟩
set_option maxRecDepth 100000 in
set_option maxHeartbeats 2000000 in
theorem num_9  (w : World) : Calls Tryz.prog 55 #[.string ⟨#[57]⟩] w fun e w' => e = .returned (.tuple #[.int .i64 9, .bool true]) ∧ Below w.heap.size w w' := by
  go_enter Tryz.func55, Tryz.ntmps55
  go_wp2_with (first | (refine wp_loop_unr 3 ?_; refine Unr.step ?_; intro U hU) | (refine Unr.step ?_; intro U hU))
  go_wp2_with fail
  try simp only [Exit.inBlock, Exit.then]
  refine bodyPost_ret (v := .tuple #[.int .i64 9, .bool true]) (by simp [results, Tryz.results55, go_sem]; first | done | decide) rfl ⟨rfl, by (repeat' (first | refine Below.setCell ?_ (by first | (simp; done) | (simp; omega) | omega | (simp [World.setCell]; omega)) _ | refine Below.alloc ?_ (by first | (simp; done) | (simp; omega) | omega | (simp [World.setCell]; omega)) _ | refine below_drewN' ?_ _ | refine Below.drew ?_ | exact Hid.out (by assumption) | exact Below.refl _ _))⟩
set_option maxRecDepth 100000 in
set_option maxHeartbeats 2000000 in
theorem ncut_3  (w : World) : Calls Tryz.prog 61 #[.string ⟨#[48, 32, 36, 91, 48, 93]⟩] w fun e w' => e = .returned (.tuple #[.int .i64 0, .string ⟨#[36, 91, 48, 93]⟩, .bool true]) ∧ Below w.heap.size w w' := by
  go_enter Tryz.func61, Tryz.ntmps61
  go_wp2_with fail
  refine (scut_3 _).mono ?_; rintro e w1 ⟨rfl, hb1⟩
  have s1 := hb1.size; try simp at s1
  have HB1 := bel_step (w := w) (by (repeat' (first | refine Below.setCell ?_ (by first | (simp; done) | (simp; omega) | omega | (simp [World.setCell]; omega)) _ | refine Below.alloc ?_ (by first | (simp; done) | (simp; omega) | omega | (simp [World.setCell]; omega)) _ | refine below_drewN' ?_ _ | refine Below.drew ?_ | exact Hid.out (by assumption) | exact Below.refl _ _))) hb1
  clear hb1
  go_wp2_with fail
  refine (num_0 _).mono ?_; rintro e w2 ⟨rfl, hb2⟩
  have s2 := hb2.size; try simp at s2
  have HB2 := bel_step (w := w) (by (repeat' (first | refine Below.setCell ?_ (by first | (simp; done) | (simp; omega) | omega | (simp [World.setCell]; omega)) _ | refine Below.alloc ?_ (by first | (simp; done) | (simp; omega) | omega | (simp [World.setCell]; omega)) _ | refine below_drewN' ?_ _ | refine Below.drew ?_ | exact Hid.out (by assumption) | exact Below.refl _ _))) hb2
  clear hb2
  go_wp2_with fail
  try simp only [Exit.inBlock, Exit.then]
  refine bodyPost_ret (v := .tuple #[.int .i64 0, .string ⟨#[36, 91, 48, 93]⟩, .bool true]) (by simp [results, Tryz.results61, go_sem]; first | done | decide) rfl ⟨rfl, by (repeat' (first | refine Below.setCell ?_ (by first | (simp; done) | (simp; omega) | omega | (simp [World.setCell]; omega)) _ | refine Below.alloc ?_ (by first | (simp; done) | (simp; omega) | omega | (simp [World.setCell]; omega)) _ | refine below_drewN' ?_ _ | refine Below.drew ?_ | exact Hid.out (by assumption) | exact Below.refl _ _))⟩
set_option maxRecDepth 100000 in
set_option maxHeartbeats 2000000 in
theorem ncut_4  (w : World) : Calls Tryz.prog 61 #[.string ⟨#[48, 32, 49, 32, 36, 91, 48, 93]⟩] w fun e w' => e = .returned (.tuple #[.int .i64 0, .string ⟨#[49, 32, 36, 91, 48, 93]⟩, .bool true]) ∧ Below w.heap.size w w' := by
  go_enter Tryz.func61, Tryz.ntmps61
  go_wp2_with fail
  refine (scut_4 _).mono ?_; rintro e w1 ⟨rfl, hb1⟩
  have s1 := hb1.size; try simp at s1
  have HB1 := bel_step (w := w) (by (repeat' (first | refine Below.setCell ?_ (by first | (simp; done) | (simp; omega) | omega | (simp [World.setCell]; omega)) _ | refine Below.alloc ?_ (by first | (simp; done) | (simp; omega) | omega | (simp [World.setCell]; omega)) _ | refine below_drewN' ?_ _ | refine Below.drew ?_ | exact Hid.out (by assumption) | exact Below.refl _ _))) hb1
  clear hb1
  go_wp2_with fail
  refine (num_0 _).mono ?_; rintro e w2 ⟨rfl, hb2⟩
  have s2 := hb2.size; try simp at s2
  have HB2 := bel_step (w := w) (by (repeat' (first | refine Below.setCell ?_ (by first | (simp; done) | (simp; omega) | omega | (simp [World.setCell]; omega)) _ | refine Below.alloc ?_ (by first | (simp; done) | (simp; omega) | omega | (simp [World.setCell]; omega)) _ | refine below_drewN' ?_ _ | refine Below.drew ?_ | exact Hid.out (by assumption) | exact Below.refl _ _))) hb2
  clear hb2
  go_wp2_with fail
  try simp only [Exit.inBlock, Exit.then]
  refine bodyPost_ret (v := .tuple #[.int .i64 0, .string ⟨#[49, 32, 36, 91, 48, 93]⟩, .bool true]) (by simp [results, Tryz.results61, go_sem]; first | done | decide) rfl ⟨rfl, by (repeat' (first | refine Below.setCell ?_ (by first | (simp; done) | (simp; omega) | omega | (simp [World.setCell]; omega)) _ | refine Below.alloc ?_ (by first | (simp; done) | (simp; omega) | omega | (simp [World.setCell]; omega)) _ | refine below_drewN' ?_ _ | refine Below.drew ?_ | exact Hid.out (by assumption) | exact Below.refl _ _))⟩
set_option maxRecDepth 100000 in
set_option maxHeartbeats 2000000 in
theorem ncut_5  (w : World) : Calls Tryz.prog 61 #[.string ⟨#[48, 32, 57, 32, 36, 91, 48, 93]⟩] w fun e w' => e = .returned (.tuple #[.int .i64 0, .string ⟨#[57, 32, 36, 91, 48, 93]⟩, .bool true]) ∧ Below w.heap.size w w' := by
  go_enter Tryz.func61, Tryz.ntmps61
  go_wp2_with fail
  refine (scut_5 _).mono ?_; rintro e w1 ⟨rfl, hb1⟩
  have s1 := hb1.size; try simp at s1
  have HB1 := bel_step (w := w) (by (repeat' (first | refine Below.setCell ?_ (by first | (simp; done) | (simp; omega) | omega | (simp [World.setCell]; omega)) _ | refine Below.alloc ?_ (by first | (simp; done) | (simp; omega) | omega | (simp [World.setCell]; omega)) _ | refine below_drewN' ?_ _ | refine Below.drew ?_ | exact Hid.out (by assumption) | exact Below.refl _ _))) hb1
  clear hb1
  go_wp2_with fail
  refine (num_0 _).mono ?_; rintro e w2 ⟨rfl, hb2⟩
  have s2 := hb2.size; try simp at s2
  have HB2 := bel_step (w := w) (by (repeat' (first | refine Below.setCell ?_ (by first | (simp; done) | (simp; omega) | omega | (simp [World.setCell]; omega)) _ | refine Below.alloc ?_ (by first | (simp; done) | (simp; omega) | omega | (simp [World.setCell]; omega)) _ | refine below_drewN' ?_ _ | refine Below.drew ?_ | exact Hid.out (by assumption) | exact Below.refl _ _))) hb2
  clear hb2
  go_wp2_with fail
  try simp only [Exit.inBlock, Exit.then]
  refine bodyPost_ret (v := .tuple #[.int .i64 0, .string ⟨#[57, 32, 36, 91, 48, 93]⟩, .bool true]) (by simp [results, Tryz.results61, go_sem]; first | done | decide) rfl ⟨rfl, by (repeat' (first | refine Below.setCell ?_ (by first | (simp; done) | (simp; omega) | omega | (simp [World.setCell]; omega)) _ | refine Below.alloc ?_ (by first | (simp; done) | (simp; omega) | omega | (simp [World.setCell]; omega)) _ | refine below_drewN' ?_ _ | refine Below.drew ?_ | exact Hid.out (by assumption) | exact Below.refl _ _))⟩
set_option maxRecDepth 100000 in
set_option maxHeartbeats 2000000 in
theorem ncut_6  (w : World) : Calls Tryz.prog 61 #[.string ⟨#[49, 32, 36, 91, 48, 93]⟩] w fun e w' => e = .returned (.tuple #[.int .i64 1, .string ⟨#[36, 91, 48, 93]⟩, .bool true]) ∧ Below w.heap.size w w' := by
  go_enter Tryz.func61, Tryz.ntmps61
  go_wp2_with fail
  refine (scut_6 _).mono ?_; rintro e w1 ⟨rfl, hb1⟩
  have s1 := hb1.size; try simp at s1
  have HB1 := bel_step (w := w) (by (repeat' (first | refine Below.setCell ?_ (by first | (simp; done) | (simp; omega) | omega | (simp [World.setCell]; omega)) _ | refine Below.alloc ?_ (by first | (simp; done) | (simp; omega) | omega | (simp [World.setCell]; omega)) _ | refine below_drewN' ?_ _ | refine Below.drew ?_ | exact Hid.out (by assumption) | exact Below.refl _ _))) hb1
  clear hb1
  go_wp2_with fail
  refine (num_1 _).mono ?_; rintro e w2 ⟨rfl, hb2⟩
  have s2 := hb2.size; try simp at s2
  have HB2 := bel_step (w := w) (by (repeat' (first | refine Below.setCell ?_ (by first | (simp; done) | (simp; omega) | omega | (simp [World.setCell]; omega)) _ | refine Below.alloc ?_ (by first | (simp; done) | (simp; omega) | omega | (simp [World.setCell]; omega)) _ | refine below_drewN' ?_ _ | refine Below.drew ?_ | exact Hid.out (by assumption) | exact Below.refl _ _))) hb2
  clear hb2
  go_wp2_with fail
  try simp only [Exit.inBlock, Exit.then]
  refine bodyPost_ret (v := .tuple #[.int .i64 1, .string ⟨#[36, 91, 48, 93]⟩, .bool true]) (by simp [results, Tryz.results61, go_sem]; first | done | decide) rfl ⟨rfl, by (repeat' (first | refine Below.setCell ?_ (by first | (simp; done) | (simp; omega) | omega | (simp [World.setCell]; omega)) _ | refine Below.alloc ?_ (by first | (simp; done) | (simp; omega) | omega | (simp [World.setCell]; omega)) _ | refine below_drewN' ?_ _ | refine Below.drew ?_ | exact Hid.out (by assumption) | exact Below.refl _ _))⟩
set_option maxRecDepth 100000 in
set_option maxHeartbeats 2000000 in
theorem ncut_7  (w : World) : Calls Tryz.prog 61 #[.string ⟨#[57, 32, 36, 91, 48, 93]⟩] w fun e w' => e = .returned (.tuple #[.int .i64 9, .string ⟨#[36, 91, 48, 93]⟩, .bool true]) ∧ Below w.heap.size w w' := by
  go_enter Tryz.func61, Tryz.ntmps61
  go_wp2_with fail
  refine (scut_7 _).mono ?_; rintro e w1 ⟨rfl, hb1⟩
  have s1 := hb1.size; try simp at s1
  have HB1 := bel_step (w := w) (by (repeat' (first | refine Below.setCell ?_ (by first | (simp; done) | (simp; omega) | omega | (simp [World.setCell]; omega)) _ | refine Below.alloc ?_ (by first | (simp; done) | (simp; omega) | omega | (simp [World.setCell]; omega)) _ | refine below_drewN' ?_ _ | refine Below.drew ?_ | exact Hid.out (by assumption) | exact Below.refl _ _))) hb1
  clear hb1
  go_wp2_with fail
  refine (num_9 _).mono ?_; rintro e w2 ⟨rfl, hb2⟩
  have s2 := hb2.size; try simp at s2
  have HB2 := bel_step (w := w) (by (repeat' (first | refine Below.setCell ?_ (by first | (simp; done) | (simp; omega) | omega | (simp [World.setCell]; omega)) _ | refine Below.alloc ?_ (by first | (simp; done) | (simp; omega) | omega | (simp [World.setCell]; omega)) _ | refine below_drewN' ?_ _ | refine Below.drew ?_ | exact Hid.out (by assumption) | exact Below.refl _ _))) hb2
  clear hb2
  go_wp2_with fail
  try simp only [Exit.inBlock, Exit.then]
  refine bodyPost_ret (v := .tuple #[.int .i64 9, .string ⟨#[36, 91, 48, 93]⟩, .bool true]) (by simp [results, Tryz.results61, go_sem]; first | done | decide) rfl ⟨rfl, by (repeat' (first | refine Below.setCell ?_ (by first | (simp; done) | (simp; omega) | omega | (simp [World.setCell]; omega)) _ | refine Below.alloc ?_ (by first | (simp; done) | (simp; omega) | omega | (simp [World.setCell]; omega)) _ | refine below_drewN' ?_ _ | refine Below.drew ?_ | exact Hid.out (by assumption) | exact Below.refl _ _))⟩
theorem itoa_1 (w : World) : Calls Tryz.prog 57 #[.int .i64 1] w fun e w' => e = .returned (.string ⟨#[49]⟩) ∧ w = w' := by
  have := Tryz.strconv_Itoa_small 1 (by decide) w
  rw [show (Lib.decDigits 1).toArray = #[49] by (first | decide +kernel | (simp [Lib.decDigits]; done) | (rw [Lib.decDigits]; rfl))] at this
  exact this.mono fun e w' ⟨h1, h2⟩ => ⟨h1, h2.symm⟩
set_option maxRecDepth 100000 in
set_option maxHeartbeats 2000000 in
theorem ok_1 (g c : Nat) (w : World) (hg : w.cell? ⟨g, 0, none⟩ = some (.int .i64 1)) : Calls Tryz.prog 53 #[.slice (some ⟨g, 0, none⟩) 1 c] w fun e w' => e = .returned (.string ⟨#[111, 107, 32, 49]⟩) ∧ Below w.heap.size w w' := by
  go_enter Tryz.func53, Tryz.ntmps53
  go_wp2_with (first | (go_at_call 57; refine (itoa_1 _).mono ?_; rintro e w9 ⟨rfl, rfl⟩) | (refine wp_loop_unr 3 ?_; refine Unr.step ?_; intro U hU) | (refine Unr.step ?_; intro U hU))
  go_wp2_with fail
  try simp only [Exit.inBlock, Exit.then]
  refine bodyPost_ret (v := .string ⟨#[111, 107, 32, 49]⟩) (by simp [results, Tryz.results53, go_sem]; first | done | decide) rfl ⟨rfl, by (repeat' (first | refine Below.setCell ?_ (by first | (simp; done) | (simp; omega) | omega | (simp [World.setCell]; omega)) _ | refine Below.alloc ?_ (by first | (simp; done) | (simp; omega) | omega | (simp [World.setCell]; omega)) _ | refine below_drewN' ?_ _ | refine Below.drew ?_ | exact Hid.out (by assumption) | exact Below.refl _ _))⟩
end Go.Proofs.YtjelneeeijjpiaaGreatDoor
end
