import Derived.Test.YthnhdompfhkepaaDoorQx0
namespace Go.Proofs.YthnhdompfhkepaaDoor.Q
open Go.RowKit Go.Proofs.YthnhdompfhkepaaDoorW.PrintWords Go.Proofs.YthnhdompfhkepaaDoorW.PrintLast Go.Proofs.YthnhdompfhkepaaDoorW.PrintMore
attribute [local go_sem] max2_int min2_int max_two min_two max_three min_three max_four min_four
set_option linter.unusedVariables false
set_option linter.unusedSimpArgs false
def rwords.f  : Option (List ByteArray) := some (([(⟨#[118, 97, 114]⟩ : ByteArray), (⟨#[97, 114, 114, 97, 121]⟩ : ByteArray), (⟨#[102, 117, 110, 99]⟩ : ByteArray), (⟨#[119, 111, 114, 100]⟩ : ByteArray), (⟨#[105, 102]⟩ : ByteArray), (⟨#[101, 108, 115, 101]⟩ : ByteArray), (⟨#[119, 104, 105, 108, 101]⟩ : ByteArray), (⟨#[114, 101, 116, 117, 114, 110]⟩ : ByteArray), (⟨#[112, 117, 116]⟩ : ByteArray), (⟨#[103, 101, 116]⟩ : ByteArray)] : List ByteArray))
set_option maxHeartbeats 8000000 in
set_option maxRecDepth 100000 in
theorem rwords.calls  (r : List ByteArray) (w : World) (h : rwords.f  = some r) :
 Calls Tryd.prog 71 #[] w fun e w' => ∃ v0_ : Value, e = .returned (v0_) ∧ Kd.R Kd.string 9 w' w.heap.size (fun _ => True) v0_ r ∧ Below w.heap.size w w' := by
 have HB := kd.mk (Below.refl w.heap.size w)
 have H : (some (([(⟨#[118, 97, 114]⟩ : ByteArray), (⟨#[97, 114, 114, 97, 121]⟩ : ByteArray), (⟨#[102, 117, 110, 99]⟩ : ByteArray), (⟨#[119, 111, 114, 100]⟩ : ByteArray), (⟨#[105, 102]⟩ : ByteArray), (⟨#[101, 108, 115, 101]⟩ : ByteArray), (⟨#[119, 104, 105, 108, 101]⟩ : ByteArray), (⟨#[114, 101, 116, 117, 114, 110]⟩ : ByteArray), (⟨#[112, 117, 116]⟩ : ByteArray), (⟨#[103, 101, 116]⟩ : ByteArray)] : List ByteArray))) = some r := h
 clear h
 obtain ⟨y101, hy101⟩ : ∃ y_ : List ByteArray, y_ = (([(⟨#[118, 97, 114]⟩ : ByteArray), (⟨#[97, 114, 114, 97, 121]⟩ : ByteArray), (⟨#[102, 117, 110, 99]⟩ : ByteArray), (⟨#[119, 111, 114, 100]⟩ : ByteArray), (⟨#[105, 102]⟩ : ByteArray), (⟨#[101, 108, 115, 101]⟩ : ByteArray), (⟨#[119, 104, 105, 108, 101]⟩ : ByteArray), (⟨#[114, 101, 116, 117, 114, 110]⟩ : ByteArray), (⟨#[112, 117, 116]⟩ : ByteArray), (⟨#[103, 101, 116]⟩ : ByteArray)] : List ByteArray)) := ⟨_, rfl⟩
 replace H : (some y101) = some r := by first | (rw [hy101]; with_reducible exact H) | (have H2_ := (Option.bind_some _ _).symm.trans H; rw [hy101]; with_reducible exact H2_) | (have H2_ := (Option.bind_some _ _).symm.trans H; with_reducible exact H2_) | with_reducible exact H | (rw [hy101]; exact H) | exact H
 have Ny101 := kd.mk hy101
 clear hy101
 obtain rfl := Option.some.inj H
 go_enter Tryd.func71, Tryd.ntmps71
 go_wp2_with (first | ((with_reducible refine ja (N := 1) rfl ?_); refine Kd.R_lit Kd.string _ 9 ?hg (N := 1) ?hd (xs := ([(⟨#[118, 97, 114]⟩ : ByteArray), (⟨#[97, 114, 114, 97, 121]⟩ : ByteArray), (⟨#[102, 117, 110, 99]⟩ : ByteArray), (⟨#[119, 111, 114, 100]⟩ : ByteArray), (⟨#[105, 102]⟩ : ByteArray), (⟨#[101, 108, 115, 101]⟩ : ByteArray), (⟨#[119, 104, 105, 108, 101]⟩ : ByteArray), (⟨#[114, 101, 116, 117, 114, 110]⟩ : ByteArray), (⟨#[112, 117, 116]⟩ : ByteArray), (⟨#[103, 101, 116]⟩ : ByteArray)] : List ByteArray)) (inner := [.string (⟨#[118, 97, 114]⟩ : ByteArray), .string (⟨#[97, 114, 114, 97, 121]⟩ : ByteArray), .string (⟨#[102, 117, 110, 99]⟩ : ByteArray), .string (⟨#[119, 111, 114, 100]⟩ : ByteArray), .string (⟨#[105, 102]⟩ : ByteArray), .string (⟨#[101, 108, 115, 101]⟩ : ByteArray), .string (⟨#[119, 104, 105, 108, 101]⟩ : ByteArray), .string (⟨#[114, 101, 116, 117, 114, 110]⟩ : ByteArray), .string (⟨#[112, 117, 116]⟩ : ByteArray), .string (⟨#[103, 101, 116]⟩ : ByteArray)]) (ok := fun _ => True) (okp := fun _ => True) ?hr ?hp (fun _ hk => hk) trivial (Below.refl _ _) (Nat.le_refl _) (by simp) ?_; (case hd => rfl); (case hg => rfl); (case hr => first | (go_simp; done) | (go_simp; rfl)); (case hp => exact (Reps.one (show Kd.M Kd.string _ _ _ (⟨#[118, 97, 114]⟩ : ByteArray) [.string (⟨#[118, 97, 114]⟩ : ByteArray)] from rfl) (Reps.one (show Kd.M Kd.string _ _ _ (⟨#[97, 114, 114, 97, 121]⟩ : ByteArray) [.string (⟨#[97, 114, 114, 97, 121]⟩ : ByteArray)] from rfl) (Reps.one (show Kd.M Kd.string _ _ _ (⟨#[102, 117, 110, 99]⟩ : ByteArray) [.string (⟨#[102, 117, 110, 99]⟩ : ByteArray)] from rfl) (Reps.one (show Kd.M Kd.string _ _ _ (⟨#[119, 111, 114, 100]⟩ : ByteArray) [.string (⟨#[119, 111, 114, 100]⟩ : ByteArray)] from rfl) (Reps.one (show Kd.M Kd.string _ _ _ (⟨#[105, 102]⟩ : ByteArray) [.string (⟨#[105, 102]⟩ : ByteArray)] from rfl) (Reps.one (show Kd.M Kd.string _ _ _ (⟨#[101, 108, 115, 101]⟩ : ByteArray) [.string (⟨#[101, 108, 115, 101]⟩ : ByteArray)] from rfl) (Reps.one (show Kd.M Kd.string _ _ _ (⟨#[119, 104, 105, 108, 101]⟩ : ByteArray) [.string (⟨#[119, 104, 105, 108, 101]⟩ : ByteArray)] from rfl) (Reps.one (show Kd.M Kd.string _ _ _ (⟨#[114, 101, 116, 117, 114, 110]⟩ : ByteArray) [.string (⟨#[114, 101, 116, 117, 114, 110]⟩ : ByteArray)] from rfl) (Reps.one (show Kd.M Kd.string _ _ _ (⟨#[112, 117, 116]⟩ : ByteArray) [.string (⟨#[112, 117, 116]⟩ : ByteArray)] from rfl) (Reps.one (show Kd.M Kd.string _ _ _ (⟨#[103, 101, 116]⟩ : ByteArray) [.string (⟨#[103, 101, 116]⟩ : ByteArray)] from rfl) (Reps.none _ _)))))))))))); intro v102 w1 ho2 hb hg_ hnew_; clear hg_ hnew_; (first | rw [← Ny101.out] at ho2 | (simp only [Int.reduceToNat] at ho2; rw [← Ny101.out] at ho2)); have n0_ := kd.mk (Kd.R_lower ho2 (ks (by repeat (first | (with_reducible first | exact HB.out | apply ke | apply ka | apply kf) | exact HB.out)))); have n1_ := kd.mk (kr (by repeat (first | (with_reducible first | exact HB.out | apply ke | apply ka | apply kf) | exact HB.out)) hb); clear HB; have HO103 := n0_; have HB := n1_; clear n0_ n1_; clear hb ho2))
 go_ret
 exact ⟨_, by first | rfl | (simp [kp, ko] <;> rfl) | (simp [*, kp, ko] <;> rfl), by (with_reducible repeat (first | apply Kd.R_alloc | apply Kd.R_drewN | apply Kd.R_drew)); exact HO103.out, by repeat (first | (with_reducible first | exact HB.out | apply ke | apply ka | apply kf) | exact HB.out)⟩
def sletter.f (a0 : Int) : Option (Bool) := if a0 ≥ 97 then (if a0 ≤ 122 then (some true) else (if a0 ≥ 65 then (some (decide (a0 ≤ 90))) else (some false))) else (if a0 ≥ 65 then (some (decide (a0 ≤ 90))) else (some false))
set_option maxHeartbeats 8000000 in
set_option maxRecDepth 100000 in
theorem sletter.calls (a0 : Int) (r : Bool) (w : World) (h : sletter.f a0 = some r) :
 Calls Tryd.prog 91 #[.int .u8 a0] w fun e w' => e = .returned (.bool r) ∧ jg w w' := by
 have H : (if a0 ≥ 97 then (if a0 ≤ 122 then (some true) else (if a0 ≥ 65 then (some (decide (a0 ≤ 90))) else (some false))) else (if a0 ≥ 65 then (some (decide (a0 ≤ 90))) else (some false))) = some r := h
 clear h
 by_cases c2 : a0 ≥ 97
 ·rw [if_pos c2] at H
  have c2b0 : decide (97 ≤ a0) = true := decide_eq_true c2
  clear c2
  by_cases c3 : a0 ≤ 122
  ·rw [if_pos c3] at H
   have c3b0 : decide (a0 ≤ 122) = true := decide_eq_true c3
   clear c3
   obtain rfl := Option.some.inj H
   go_enter Tryd.func91, Tryd.ntmps91
   go_wp2
   go_ret
   exact ⟨by first | rfl | (simp; done) | (simp [*]; done), by repeat (first | exact jg.refl _ | apply jg.step)⟩
  ·rw [if_neg c3] at H
   have c3b0 : decide (a0 ≤ 122) = false := decide_eq_false c3
   clear c3
   by_cases c4 : a0 ≥ 65
   ·rw [if_pos c4] at H
    have c4b0 : decide (65 ≤ a0) = true := decide_eq_true c4
    clear c4
    obtain rfl := Option.some.inj H
    go_enter Tryd.func91, Tryd.ntmps91
    go_wp2
    go_ret
    exact ⟨by first | rfl | (simp; done) | (simp [*]; done), by repeat (first | exact jg.refl _ | apply jg.step)⟩
   ·rw [if_neg c4] at H
    have c4b0 : decide (65 ≤ a0) = false := decide_eq_false c4
    clear c4
    obtain rfl := Option.some.inj H
    go_enter Tryd.func91, Tryd.ntmps91
    go_wp2
    go_ret
    exact ⟨by first | rfl | (simp; done) | (simp [*]; done), by repeat (first | exact jg.refl _ | apply jg.step)⟩
 ·rw [if_neg c2] at H
  have c2b0 : decide (97 ≤ a0) = false := decide_eq_false c2
  clear c2
  by_cases c5 : a0 ≥ 65
  ·rw [if_pos c5] at H
   have c5b0 : decide (65 ≤ a0) = true := decide_eq_true c5
   clear c5
   obtain rfl := Option.some.inj H
   go_enter Tryd.func91, Tryd.ntmps91
   go_wp2
   go_ret
   exact ⟨by first | rfl | (simp; done) | (simp [*]; done), by repeat (first | exact jg.refl _ | apply jg.step)⟩
  ·rw [if_neg c5] at H
   have c5b0 : decide (65 ≤ a0) = false := decide_eq_false c5
   clear c5
   obtain rfl := Option.some.inj H
   go_enter Tryd.func91, Tryd.ntmps91
   go_wp2
   go_ret
   exact ⟨by first | rfl | (simp; done) | (simp [*]; done), by repeat (first | exact jg.refl _ | apply jg.step)⟩
end Go.Proofs.YthnhdompfhkepaaDoor.Q
