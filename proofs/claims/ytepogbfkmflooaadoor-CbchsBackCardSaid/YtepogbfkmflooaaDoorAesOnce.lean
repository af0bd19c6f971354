/-
  AES: sync.Once about the making ready, in one goroutine. Conditions as each says.
-/
import Derived.Test.YtepogbfkmflooaaDoorAesNew
import Derived.Defers
import Derived.Laws.LoneSync
import Derived.RegionCalls
import Derived.Laws.NewBlocks
namespace Go.Proofs.YtepogbfkmflooaaDoor
open Go.RowKit
set_option linter.unusedSimpArgs false
set_option linter.unusedVariables false
set_option maxRecDepth 100000 in
theorem once_disable (w : World) : (callFunc 108 #[]).run Tryd.prog w = .ok (.value (.tuple #[])) w := run_call_mark0 Tryd.func108 (by kernel_rfl) (by kernel_rfl) (by kernel_rfl) .disable (by kernel_rfl) w
set_option maxRecDepth 100000 in
theorem once_enable (w : World) : (callFunc 110 #[]).run Tryd.prog w = .ok (.value (.tuple #[])) w := run_call_mark0 Tryd.func110 (by kernel_rfl) (by kernel_rfl) (by kernel_rfl) .enable (by kernel_rfl) w
set_option maxRecDepth 100000 in
theorem once_acquire (a : Addr) (w : World) : (callFunc 111 #[.pointer (some a)]).run Tryd.prog w = .ok (.value (.tuple #[])) w := run_call_marked Tryd.func111 (by kernel_rfl) (by kernel_rfl) (by kernel_rfl) .acquire (by kernel_rfl) a w
set_option maxRecDepth 100000 in
theorem once_release (a : Addr) (w : World) : (callFunc 113 #[.pointer (some a)]).run Tryd.prog w = .ok (.value (.tuple #[])) w := run_call_marked Tryd.func113 (by kernel_rfl) (by kernel_rfl) (by kernel_rfl) .releaseMerge (by kernel_rfl) a w
set_option maxRecDepth 100000 in
theorem once_store (a : Addr) (x : Value) (u : FrameMode) (w : World) (hc : w.cell? a = some x) (hz : w.frozen? a = false) :
    CallsD Tryd.prog 102 #[.pointer (some a), .bool true] u w fun e u' w' => u' = u ∧ (e = .returned (.tuple #[]) ∧ w' = w.drew.setCell a (.int .u32 1)) := by
  have hc' : w.drew.cell? a = some x := by go_simp
  have hz' : w.drew.frozen? a = false := by go_simp
  have hst := run_call_store (P := Tryd.prog) Tryd.func106 (by kernel_rfl) (by kernel_rfl) (by kernel_rfl) (by kernel_rfl) (k := .u32) (y := 1) hc' hz'
  go_enter_d Tryd.func102, Tryd.ntmps102
  go_wp2
  go_region_calls
  all_goals (go_end0; exact ⟨rfl, rfl⟩)
set_option maxRecDepth 100000 in
theorem once_unlock (a : Addr) (u : FrameMode) (w : World) (hc : w.cell? a = some (.int .i32 1)) (hz : w.frozen? a = false) :
    CallsD Tryd.prog 101 #[.pointer (some a)] u w fun e u' w' => u' = u ∧ (e = .returned (.tuple #[]) ∧ w' = w.setCell a (.int .i32 0)) := by
  have hd := once_disable
  have he := once_enable
  have hr := once_release
  have hadd := run_call_add (P := Tryd.prog) Tryd.func114 (by kernel_rfl) (by kernel_rfl) (by kernel_rfl) .i32 (by kernel_rfl) (y := -1) (s := 0) hc hz (by simp [go_sem]; rfl)
  have hcv := run_convert_to_unsafe (P := Tryd.prog) (src := 170) (dst := 155) Tryd.underlying170 Tryd.underlying155 (by kernel_rfl) hc
  go_enter_d Tryd.func101, Tryd.ntmps101
  go_wp2
  go_end0
  go_wp2
  go_end0
  exact ⟨rfl, rfl⟩
set_option maxRecDepth 100000 in
theorem once_lock (a : Addr) (w : World) (hc : w.cell? a = some (.int .i32 0)) (hz : w.frozen? a = false) :
    Calls Tryd.prog 100 #[.pointer (some a)] w fun e w' => e = .returned (.tuple #[]) ∧ w' = w.setCell a (.int .i32 1) := by
  have hd := once_disable
  have he := once_enable
  have ha := once_acquire
  have hcas := run_call_cas_hit (P := Tryd.prog) Tryd.func109 (by kernel_rfl) (by kernel_rfl) (by kernel_rfl) .i32 (by kernel_rfl) (y := 1) hc hz
  have hc' : (w.setCell a (.int .i32 1)).cell? a = some (.int .i32 1) := World.cell?_setCell_same w a _ hc
  have hcv := run_convert_to_unsafe (P := Tryd.prog) (src := 170) (dst := 155) Tryd.underlying170 Tryd.underlying155 (by kernel_rfl) hc'
  go_enter Tryd.func100, Tryd.ntmps100
  go_wp2
  first | go_end0 | (simp only [Exit.inBlock, Exit.then]; refine bodyPost_ret (results_none rfl _ _ _) rfl ?_) | refine bodyPost_ret (results_none rfl _ _ _) rfl ?_
  go_wp2
  go_end0
  exact ⟨rfl, rfl⟩
set_option maxRecDepth 100000 in
set_option maxHeartbeats 1600000 in
set_option maxRecDepth 100000 in
theorem once_slow (b : Nat) (R : World → Prop) (w : World) (h0 : w.cell? ⟨b, 257, none⟩ = some (.int .u32 0)) (h1 : w.cell? ⟨b, 258, none⟩ = some (.int .i32 0)) (f1 : w.frozen? ⟨b, 258, none⟩ = false)
    (hp : Calls Tryd.prog 74 #[.pointer (some ⟨b, 0, none⟩)] (w.setCell ⟨b, 258, none⟩ (.int .i32 1)) fun e w' => e = .returned (.tuple #[]) ∧ R w')
    (hR : ∀ w', R w' → w'.cell? ⟨b, 257, none⟩ = some (.int .u32 0) ∧ w'.cell? ⟨b, 258, none⟩ = some (.int .i32 1) ∧ w'.frozen? ⟨b, 257, none⟩ = false ∧ w'.frozen? ⟨b, 258, none⟩ = false) :
    Calls Tryd.prog 91 #[.pointer (some ⟨b, 257, none⟩), .func (.func 74) #[.pointer (some ⟨b, 0, none⟩)] #[]] w fun e w'' => e = .returned (.tuple #[]) ∧
      ∃ w', R w' ∧ w'' = (w'.drew.setCell ⟨b, 257, none⟩ (.int .u32 1)).setCell ⟨b, 258, none⟩ (.int .i32 0) := by
  have hl := run_call_load (P := Tryd.prog) Tryd.func99 (by kernel_rfl) (by kernel_rfl) (by kernel_rfl) .u32 (by kernel_rfl) (w := w.setCell ⟨b, 258, none⟩ (.int .i32 1)) (a := ⟨b, 257, none⟩) (x := 0) ((World.cell?_setCell_other _ ⟨b, 258, none⟩ ⟨b, 257, none⟩ _ (by simp)).trans h0)
  have hnot : ∀ (x : Bool) (w : World), (Op.unary .not (.bool x)).run Tryd.prog w = .ok (.bool (!x)) w := fun _ _ => rfl
  go_enter_defers Tryd.func91, Tryd.ntmps91
  go_wp2_with (first
    | (go_at_call 100; refine (once_lock ⟨b, 258, none⟩ _ h1 f1).mono ?_; rintro e w' ⟨rfl, rfl⟩)
    | (go_at_call 90; go_in)
    | (go_at_call 74; refine hp.mono ?_; rintro e w2 ⟨rfl, hw2⟩; obtain ⟨k0, k1, z0, z1⟩ := hR w2 hw2))
  go_wp2
  refine leaves_cons (f := 102) (args := #[.pointer (some ⟨b, 257, none⟩), .bool true]) (by simp) (by simp [go_sem]) ?_
  refine (once_store ⟨b, 257, none⟩ (.int .u32 0) .returning _ k0 z0).mono ?_
  rintro e u' w'' ⟨rfl, rfl, rfl⟩
  refine leaves_cons (f := 101) (args := #[.pointer (some ⟨b, 258, none⟩)]) (by simp [settle]) (by simp [go_sem]) ?_
  refine (once_unlock ⟨b, 258, none⟩ _ _ ?_ (by simp [z1])).mono ?_
  · refine (World.cell?_setCell_other _ ⟨b, 257, none⟩ ⟨b, 258, none⟩ _ (by simp)).trans ?_
    rw [World.cell?_drew]
    exact k1
  rintro e u' w'' ⟨rfl, rfl, rfl⟩
  simp [Leaves, settle, results, Tryd.results91]
  exact ⟨w2, hw2, rfl⟩
set_option maxRecDepth 100000 in
set_option maxHeartbeats 1600000 in
set_option maxRecDepth 100000 in
theorem once_first (b : Nat) (R : World → Prop) (w : World) (h0 : w.cell? ⟨b, 257, none⟩ = some (.int .u32 0)) (h1 : w.cell? ⟨b, 258, none⟩ = some (.int .i32 0)) (f1 : w.frozen? ⟨b, 258, none⟩ = false)
    (hp : Calls Tryd.prog 74 #[.pointer (some ⟨b, 0, none⟩)] (w.setCell ⟨b, 258, none⟩ (.int .i32 1)) fun e w' => e = .returned (.tuple #[]) ∧ R w')
    (hR : ∀ w', R w' → w'.cell? ⟨b, 257, none⟩ = some (.int .u32 0) ∧ w'.cell? ⟨b, 258, none⟩ = some (.int .i32 1) ∧ w'.frozen? ⟨b, 257, none⟩ = false ∧ w'.frozen? ⟨b, 258, none⟩ = false) :
    Calls Tryd.prog 73 #[.pointer (some ⟨b, 257, none⟩), .func (.func 74) #[.pointer (some ⟨b, 0, none⟩)] #[]] w fun e w'' => e = .returned (.tuple #[]) ∧
      ∃ w', R w' ∧ w'' = (w'.drew.setCell ⟨b, 257, none⟩ (.int .u32 1)).setCell ⟨b, 258, none⟩ (.int .i32 0) := by
  have hl := run_call_load (P := Tryd.prog) Tryd.func99 (by kernel_rfl) (by kernel_rfl) (by kernel_rfl) .u32 (by kernel_rfl) h0
  have hnot : ∀ (x : Bool) (w : World), (Op.unary .not (.bool x)).run Tryd.prog w = .ok (.bool (!x)) w := fun _ _ => rfl
  go_enter Tryd.func73, Tryd.ntmps73
  go_wp2_with (first
    | (go_at_call 91; refine (once_slow b R _ h0 h1 f1 hp hR).mono ?_; rintro e w' ⟨rfl, hw'⟩)
    | (go_at_call 90; go_in))
  go_end0
  exact ⟨rfl, hw'⟩
set_option maxRecDepth 100000 in
theorem once_done (b : Nat) (fv : Value) (w : World) (h0 : w.cell? ⟨b, 257, none⟩ = some (.int .u32 1)) :
    Calls Tryd.prog 73 #[.pointer (some ⟨b, 257, none⟩), fv] w fun e w' => e = .returned (.tuple #[]) ∧ w' = w := by
  have hl := run_call_load (P := Tryd.prog) Tryd.func99 (by kernel_rfl) (by kernel_rfl) (by kernel_rfl) .u32 (by kernel_rfl) h0
  have hnot : ∀ (x : Bool) (w : World), (Op.unary .not (.bool x)).run Tryd.prog w = .ok (.bool (!x)) w := fun _ _ => rfl
  go_enter Tryd.func73, Tryd.ntmps73
  go_wp2
  go_end0
  exact ⟨rfl, rfl⟩
end Go.Proofs.YtepogbfkmflooaaDoor
