import Derived.Test.YtjnpfpaigedpbaaDoorA4
namespace Go.Proofs.YtjnpfpaigedpbaaDoor
open Go.RowKit

def isR (c : Int) : Bool := decide (0 ≤ c) && decide (c ≤ 1114111) && !(decide (55296 ≤ c) && decide (c ≤ 57343))
def frm (c : Int) : List UInt8 :=
  if isR c then
    if c < 128 then [UInt8.ofNat c.toNat]
    else if c < 2048 then [UInt8.ofNat (192 + c / 64).toNat, UInt8.ofNat (128 + c % 64).toNat]
    else if c < 65536 then [UInt8.ofNat (224 + c / 4096).toNat, UInt8.ofNat (128 + c / 64 % 64).toNat, UInt8.ofNat (128 + c % 64).toNat]
    else [UInt8.ofNat (240 + c / 262144).toNat, UInt8.ofNat (128 + c / 4096 % 64).toNat, UInt8.ofNat (128 + c / 64 % 64).toNat, UInt8.ofNat (128 + c % 64).toNat]
  else []
theorem frm_len (c : Int) : (frm c).length ≤ 4 := by unfold frm; repeat' split
                                                     all_goals simp
theorem ofNat_toNat8 (n : Int) (h : 0 ≤ n ∧ n < 256) : (((UInt8.ofNat n.toNat).toNat : Nat) : Int) = n := by
  rw [UInt8.toNat_ofNat']; omega
def lo6 (c : Int) : Int := bits .or .u8 128 (bits .and .i32 c 63 % 256)
theorem wraps_i32' : ∀ n : Int, 0 ≤ n → n < 2 ^ 31 → IntKind.i32.wrap n = n := by
  intro n h0 h1; have e : (2 : Int) ^ 31 = 2147483648 := rfl; rw [e] at h1; rw [IntKind.wrap_i32]; omega
theorem lo6_eq (c : Int) (h0 : 0 ≤ c) (h1 : c < 2147483648) : lo6 c = 128 + c % 64 := by
  unfold lo6
  rw [show bits .and .i32 c 63 = c % 64 from bits_mask .i32 31 (by decide) wraps_i32' 6 (by decide) c h0 (by simpa using h1)]
  rw [show c % 64 % 256 = c % 64 by omega]
  exact u8_or128 (c % 64) (by omega) (by omega)
theorem or0 (c : Int) (h : 0 ≤ c ∧ c < 128) : bits .or .u8 0 c = c := by
  have hd : ∀ x : Nat, x < 128 → bits .or .u8 0 (x : Int) = x := by decide +kernel
  have := hd c.toNat (by omega)
  rwa [show ((c.toNat : Nat) : Int) = c by omega] at this
def arr4 (a b c d : Int) : Value := .agg #[.int .u8 a, .int .u8 b, .int .u8 c, .int .u8 d]

def Formed (w : World) (v : Value) (n : Int) (e : Ending) (w' : World) : Prop := e = .returned (.tuple #[v, .int .i64 n]) ∧ Below w.heap.size w w'
set_option maxHeartbeats 1000000 in
theorem form_4 (c : Int) (w : World) (h : 65536 ≤ c ∧ c ≤ 1114111) :
    Calls Tryd.prog 31 #[.int .i32 c] w fun e w' => Formed w (arr4 (240 + c / 64 / 64 / 64) (lo6 (c / 64 / 64)) (lo6 (c / 64)) (lo6 c)) 4 e w' := by
  go_enter Tryd.func31, Tryd.ntmps31
  go_wp2
  exact bodyPost_ret (by simp [results, Tryd.results31, go_sem]; rfl) rfl ⟨rfl, ((Below.refl _ _).alloc (Nat.le_refl _) _).alloc (by simp) _⟩
set_option maxHeartbeats 1000000 in
theorem form_3 (c : Int) (w : World) (h : 2048 ≤ c ∧ c < 65536) (h' : ¬ (55296 ≤ c ∧ c ≤ 57343)) :
    Calls Tryd.prog 31 #[.int .i32 c] w fun e w' => Formed w (arr4 (224 + c / 64 / 64) (lo6 (c / 64)) (lo6 c) 0) 3 e w' := by
  have h'' : c < 55296 ∨ 57343 < c := by omega
  clear h'
  go_enter Tryd.func31, Tryd.ntmps31
  rcases h'' with h'' | h''
  all_goals
    go_wp2
    exact bodyPost_ret (by simp [results, Tryd.results31, go_sem]; rfl) rfl ⟨rfl, ((Below.refl _ _).alloc (Nat.le_refl _) _).alloc (by simp) _⟩
set_option maxHeartbeats 1000000 in
theorem form_2 (c : Int) (w : World) (h : 128 ≤ c ∧ c < 2048) :
    Calls Tryd.prog 31 #[.int .i32 c] w fun e w' => Formed w (arr4 (192 + c / 64) (lo6 c) 0 0) 2 e w' := by
  go_enter Tryd.func31, Tryd.ntmps31
  go_wp2
  exact bodyPost_ret (by simp [results, Tryd.results31, go_sem]; rfl) rfl ⟨rfl, ((Below.refl _ _).alloc (Nat.le_refl _) _).alloc (by simp) _⟩
set_option maxHeartbeats 1000000 in
theorem form_1 (c : Int) (w : World) (h : 0 ≤ c ∧ c < 128) :
    Calls Tryd.prog 31 #[.int .i32 c] w fun e w' => Formed w (arr4 (bits .or .u8 0 c) 0 0 0) 1 e w' := by
  go_enter Tryd.func31, Tryd.ntmps31
  go_wp2
  exact bodyPost_ret (by simp [results, Tryd.results31, go_sem]; rfl) rfl ⟨rfl, ((Below.refl _ _).alloc (Nat.le_refl _) _).alloc (by simp) _⟩
set_option maxHeartbeats 1000000 in
theorem form_0 (c : Int) (w : World) (h : c < 0 ∨ 1114111 < c ∨ (55296 ≤ c ∧ c ≤ 57343)) :
    Calls Tryd.prog 31 #[.int .i32 c] w fun e w' => Formed w (arr4 0 0 0 0) 0 e w' := by
  go_enter Tryd.func31, Tryd.ntmps31
  rcases h with h | h | ⟨h, h'⟩
  all_goals
    go_wp2
    exact bodyPost_ret (by simp [results, Tryd.results31, go_sem]; rfl) rfl ⟨rfl, ((Below.refl _ _).alloc (Nat.le_refl _) _).alloc (by simp) _⟩

theorem arr4_congr {a b c d a' b' c' d' : Int} (h1 : a = a') (h2 : b = b') (h3 : c = c') (h4 : d = d') : arr4 a b c d = arr4 a' b' c' d' := by rw [h1, h2, h3, h4]
def frmV (c : Int) : Value := arr4 (byteAt (frm c) 0) (byteAt (frm c) 1) (byteAt (frm c) 2) (byteAt (frm c) 3)
theorem form_any (c : Int) (w : World) : Calls Tryd.prog 31 #[.int .i32 c] w fun e w' => Formed w (frmV c) (frm c).length e w' := by
  by_cases hr : isR c = true
  · have hr' := hr
    simp only [isR, Bool.and_eq_true, decide_eq_true_eq, Bool.not_eq_true', Bool.and_eq_false_iff, decide_eq_false_iff_not] at hr'
    by_cases h1 : c < 128
    · have e : frm c = [UInt8.ofNat c.toNat] := by rw [frm, if_pos hr, if_pos h1]
      have : frmV c = arr4 (bits .or .u8 0 c) 0 0 0 := by
        rw [or0 c (by omega)]; unfold frmV; rw [e]; exact arr4_congr (ofNat_toNat8 _ (by omega)) rfl rfl rfl
      rw [this, e]; exact form_1 c w (by omega)
    by_cases h2 : c < 2048
    · have e : frm c = [UInt8.ofNat (192 + c / 64).toNat, UInt8.ofNat (128 + c % 64).toNat] := by rw [frm, if_pos hr, if_neg h1, if_pos h2]
      have : frmV c = arr4 (192 + c / 64) (lo6 c) 0 0 := by
        unfold frmV; rw [e]; exact arr4_congr (ofNat_toNat8 _ (by omega)) ((ofNat_toNat8 _ (by omega)).trans (lo6_eq _ (by omega) (by omega)).symm) rfl rfl
      rw [this, e]; exact form_2 c w (by omega)
    by_cases h3 : c < 65536
    · have e : frm c = [UInt8.ofNat (224 + c / 4096).toNat, UInt8.ofNat (128 + c / 64 % 64).toNat, UInt8.ofNat (128 + c % 64).toNat] := by rw [frm, if_pos hr, if_neg h1, if_neg h2, if_pos h3]
      have : frmV c = arr4 (224 + c / 64 / 64) (lo6 (c / 64)) (lo6 c) 0 := by
        unfold frmV; rw [e]; exact arr4_congr ((ofNat_toNat8 _ (by omega)).trans (by omega)) ((ofNat_toNat8 _ (by omega)).trans (lo6_eq _ (by omega) (by omega)).symm) ((ofNat_toNat8 _ (by omega)).trans (lo6_eq _ (by omega) (by omega)).symm) rfl
      rw [this, e]; exact form_3 c w (by omega) (by omega)
    · have e : frm c = [UInt8.ofNat (240 + c / 262144).toNat, UInt8.ofNat (128 + c / 4096 % 64).toNat, UInt8.ofNat (128 + c / 64 % 64).toNat, UInt8.ofNat (128 + c % 64).toNat] := by rw [frm, if_pos hr, if_neg h1, if_neg h2, if_neg h3]
      have : frmV c = arr4 (240 + c / 64 / 64 / 64) (lo6 (c / 64 / 64)) (lo6 (c / 64)) (lo6 c) := by
        unfold frmV; rw [e]
        exact arr4_congr ((ofNat_toNat8 _ (by omega)).trans (by omega)) ((ofNat_toNat8 _ (by omega)).trans ((lo6_eq _ (by omega) (by omega)).trans (by omega)).symm) ((ofNat_toNat8 _ (by omega)).trans (lo6_eq _ (by omega) (by omega)).symm) ((ofNat_toNat8 _ (by omega)).trans (lo6_eq _ (by omega) (by omega)).symm)
      rw [this, e]; exact form_4 c w (by omega)
  · have e : frm c = [] := by rw [frm, if_neg hr]
    have : frmV c = arr4 0 0 0 0 := by unfold frmV; rw [e]; rfl
    have hr' : ¬ isR c = true := hr
    simp only [isR, Bool.and_eq_true, decide_eq_true_eq, Bool.not_eq_true', Bool.and_eq_false_iff, decide_eq_false_iff_not] at hr'
    rw [this, e]; exact form_0 c w (by omega)
end Go.Proofs.YtjnpfpaigedpbaaDoor
