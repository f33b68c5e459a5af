import Derived.Test.YthhnmpkgleelfaaGreatDoorM26
import Derived.Test.YthhnmpkgleelfaaGreatDoorM24
import Derived.Laws.RangeAny
import Derived.LoopN
import Derived.Deep.QuietTactic
import Derived.BigQuiet
import Derived.Outline
set_option linter.unusedVariables false
set_option linter.unusedSimpArgs false
namespace Go.Proofs.YthhnmpkgleelfaaGreatDoor
open Go.RowKit Go.Shelf
def CdRel (w : World) (B b n : Nat) (s4 : Value) (wr : World) : Prop :=
 (s4 = .int .i64 12 ∧ BdP w B b n wr) ∨ (s4 = .int .i64 8 ∧ BdP w B b (n + 1) wr) ∨ (s4 = .int .i64 4 ∧ BdP w B b (n + 2) wr) ∨ (s4 = .int .i64 0 ∧ BdP w B b (n + 3) wr) ∨ (s4 = .int .i64 (-4) ∧ BdP w B b (n + 4) wr)
theorem BdP.bd {w w1 : World} {B b n : Nat} (h : BdP w B b n w1) : Bd w1 B b n := h.1
theorem hex_bd (z : Int) : 0 ≤ bits .and .i32 z 15 ∧ bits .and .i32 z 15 < 16 := by
 rw [i32_and15]; omega
theorem u8_int (x : UInt8) : 0 ≤ ((x.toNat : Nat) : Int) ∧ ((x.toNat : Nat) : Int) < 256 := by have := x.toNat_lt; omega
set_option maxHeartbeats 8000000 in
set_option maxRecDepth 100000 in
theorem coded16 {w : World} {B b n : Nat} (h : Bd w B b n) (c : Int) (h0 : 0 ≤ c) (h1 : c ≤ 65535) (hn : n + 6 ≤ 100000000000000) (hB : B ≤ w.heap.size) : Calls Tryz.prog 137 #[.pointer (some ⟨b, 0, none⟩), .int .i32 c] w fun e w' => WnP w B b (n + 6) e w' := by
 have Hb0 := Lib.hid (BdP.start h)
 clear h
 have n1 : ¬ 65535 < c := by omega
 go_enter Tryz.func137, Tryz.ntmps137
 go_wp2_with fail
 (with_reducible refine (wstr_any Hb0.out.bd _ 2 (by decide) (by omega) (Hb0.out.hB hB)).mono ?_)
 rintro e w1 ⟨z, rfl, hb1⟩
 have Hb1 := Lib.hid (Hb0.out.trans hb1)
 clear hb1
 go_wp2_with fail
 go_loopw [4] (fun s4 wr => CdRel w B b (n + 2) s4 wr) (fun v _ => (intOf v + 4).toNat)
 case atStart => exact .inl ⟨rfl, Hb1.out⟩
 case round =>
  rcases hrel with ⟨rfl, hb⟩ | ⟨rfl, hb⟩ | ⟨rfl, hb⟩ | ⟨rfl, hb⟩ | ⟨rfl, hb⟩
  ·have Hb := Lib.hid hb
   clear hb
   have hk := hex_bd (c / 4096)
   go_wp2_with fail
   (with_reducible refine (wbyte_any Hb.out.bd _ (u8_int _).1 (u8_int _).2 (by omega) (Hb.out.hB hB)).mono ?_)
   rintro e w2 ⟨rfl, hb2⟩
   have Hb2 := Lib.hid (Hb.out.trans hb2)
   clear hb2
   go_wp2_with fail
   exact ⟨.inr (.inl ⟨rfl, Hb2.out⟩), by simp [intOf]⟩
  ·have Hb := Lib.hid hb
   clear hb
   have hk := hex_bd (c / 256)
   go_wp2_with fail
   (with_reducible refine (wbyte_any Hb.out.bd _ (u8_int _).1 (u8_int _).2 (by omega) (Hb.out.hB hB)).mono ?_)
   rintro e w2 ⟨rfl, hb2⟩
   have Hb2 := Lib.hid (Hb.out.trans hb2)
   clear hb2
   go_wp2_with fail
   exact ⟨.inr (.inr (.inl ⟨rfl, Hb2.out⟩)), by simp [intOf]⟩
  ·have Hb := Lib.hid hb
   clear hb
   have hk := hex_bd (c / 16)
   go_wp2_with fail
   (with_reducible refine (wbyte_any Hb.out.bd _ (u8_int _).1 (u8_int _).2 (by omega) (Hb.out.hB hB)).mono ?_)
   rintro e w2 ⟨rfl, hb2⟩
   have Hb2 := Lib.hid (Hb.out.trans hb2)
   clear hb2
   go_wp2_with fail
   exact ⟨.inr (.inr (.inr (.inl ⟨rfl, Hb2.out⟩))), by simp [intOf]⟩
  ·have Hb := Lib.hid hb
   clear hb
   have hk := hex_bd (c)
   go_wp2_with fail
   (with_reducible refine (wbyte_any Hb.out.bd _ (u8_int _).1 (u8_int _).2 (by omega) (Hb.out.hB hB)).mono ?_)
   rintro e w2 ⟨rfl, hb2⟩
   have Hb2 := Lib.hid (Hb.out.trans hb2)
   clear hb2
   go_wp2_with fail
   exact ⟨.inr (.inr (.inr (.inr ⟨rfl, Hb2.out⟩))), by simp [intOf]⟩
  ·have Hb := Lib.hid hb
   clear hb
   go_wp2_with fail
   go_end0
   exact ⟨rfl, Hb.out⟩
set_option maxHeartbeats 8000000 in
set_option maxRecDepth 100000 in
theorem coded_any {w : World} {B b n : Nat} (h : Bd w B b n) (c : Int) (h0 : 0 ≤ c) (h1 : c ≤ 1114111) (hn : n + 12 ≤ 100000000000000) (hB : B ≤ w.heap.size) : Calls Tryz.prog 137 #[.pointer (some ⟨b, 0, none⟩), .int .i32 c] w fun e w' => WnP w B b (n + 12) e w' := by
 by_cases hc : c ≤ 65535
 ·refine (coded16 h c h0 hc (by omega) hB).mono ?_
  rintro e w' ⟨rfl, hb⟩
  exact ⟨rfl, hb.more (by omega)⟩
 have H := Lib.hid h
 clear h
 have n1 : 65535 < c := by omega
 go_enter Tryz.func137, Tryz.ntmps137
 go_wp2_with fail
 (with_reducible refine (coded16 H.out _ (by omega) (by omega) (by omega) hB).mono ?_)
 rintro e w0 ⟨rfl, hb0⟩
 have Hb0 := Lib.hid hb0
 have hband : bits .and .i32 (c - 65536) 1023 = (c - 65536) % 1024 := i32_and1023 _
 clear hb0
 go_wp2_with fail
 generalize 56320 + (c - 65536) % 1024 = d
 (with_reducible refine (wstr_any Hb0.out.bd _ 2 (by decide) (by omega) (Hb0.out.hB hB)).mono ?_)
 rintro e w1 ⟨z, rfl, hb1⟩
 have Hb1 := Lib.hid (Hb0.out.trans hb1)
 clear hb1
 go_wp2_with fail
 go_loopw [4] (fun s4 wr => CdRel w B b ((n + 6) + 2) s4 wr) (fun v _ => (intOf v + 4).toNat)
 case atStart => exact .inl ⟨rfl, Hb1.out⟩
 case round =>
  rcases hrel with ⟨rfl, hb⟩ | ⟨rfl, hb⟩ | ⟨rfl, hb⟩ | ⟨rfl, hb⟩ | ⟨rfl, hb⟩
  ·have Hb := Lib.hid hb
   clear hb
   have hk := hex_bd (d / 4096)
   go_wp2_with fail
   (with_reducible refine (wbyte_any Hb.out.bd _ (u8_int _).1 (u8_int _).2 (by omega) (Hb.out.hB hB)).mono ?_)
   rintro e w2 ⟨rfl, hb2⟩
   have Hb2 := Lib.hid (Hb.out.trans hb2)
   clear hb2
   go_wp2_with fail
   exact ⟨.inr (.inl ⟨rfl, Hb2.out⟩), by simp [intOf]⟩
  ·have Hb := Lib.hid hb
   clear hb
   have hk := hex_bd (d / 256)
   go_wp2_with fail
   (with_reducible refine (wbyte_any Hb.out.bd _ (u8_int _).1 (u8_int _).2 (by omega) (Hb.out.hB hB)).mono ?_)
   rintro e w2 ⟨rfl, hb2⟩
   have Hb2 := Lib.hid (Hb.out.trans hb2)
   clear hb2
   go_wp2_with fail
   exact ⟨.inr (.inr (.inl ⟨rfl, Hb2.out⟩)), by simp [intOf]⟩
  ·have Hb := Lib.hid hb
   clear hb
   have hk := hex_bd (d / 16)
   go_wp2_with fail
   (with_reducible refine (wbyte_any Hb.out.bd _ (u8_int _).1 (u8_int _).2 (by omega) (Hb.out.hB hB)).mono ?_)
   rintro e w2 ⟨rfl, hb2⟩
   have Hb2 := Lib.hid (Hb.out.trans hb2)
   clear hb2
   go_wp2_with fail
   exact ⟨.inr (.inr (.inr (.inl ⟨rfl, Hb2.out⟩))), by simp [intOf]⟩
  ·have Hb := Lib.hid hb
   clear hb
   have hk := hex_bd (d)
   go_wp2_with fail
   (with_reducible refine (wbyte_any Hb.out.bd _ (u8_int _).1 (u8_int _).2 (by omega) (Hb.out.hB hB)).mono ?_)
   rintro e w2 ⟨rfl, hb2⟩
   have Hb2 := Lib.hid (Hb.out.trans hb2)
   clear hb2
   go_wp2_with fail
   exact ⟨.inr (.inr (.inr (.inr ⟨rfl, Hb2.out⟩))), by simp [intOf]⟩
  ·have Hb := Lib.hid hb
   clear hb
   go_wp2_with fail
   go_end0
   exact ⟨rfl, Hb.out⟩
abbrev spcS : ByteArray := { data := #[94, 36, 92, 46, 42, 43, 63, 40, 41, 91, 93, 123, 125, 124, 47] }
theorem spc_dec : ∀ k, k < 15 → (Utf8.decode spcS k).1 ≠ 65533 ∧ (Utf8.decode spcS k).2 = 1 := by decide
theorem iter_below (w : World) (s : ByteArray) (k : Nat) : Below w.heap.size w (w.iter s k) := alloc_below _ _
set_option maxHeartbeats 2000000 in
set_option maxRecDepth 100000 in
theorem irune_fffd (w : World) : Calls Tryz.prog 171 #[.string spcS, .int .i32 65533] w fun e w' => e = .returned (.int .i64 (-1)) ∧ Below w.heap.size w w' := by
 go_enter Tryz.func171, Tryz.ntmps171
 go_wp2_with fail
 go_loopw [5] (fun _ wr => ∃ k : Nat, k ≤ 15 ∧ wr = w.iter spcS k) (fun _ wr => 15 - wr.iterPos w.heap.size)
 case atStart => exact ⟨0, Nat.zero_le _, rfl⟩
 case round =>
  obtain ⟨k, hk, rfl⟩ := hrel
  by_cases hlt : k < 15
  ·obtain ⟨h1, h2⟩ := spc_dec k hlt
   have hnx : ∀ ty, (Instr.next (.pointer (some ⟨w.heap.size, 0, none⟩)) true ty).run Tryz.prog (w.iter spcS k) = _ := fun ty => run_next_any w spcS k ty hlt
   rw [h2] at hnx
   generalize (Utf8.decode spcS k).1 = c at *
   have h3 : ((c : Int) == 65533) = false := by simpa using (by omega : ¬ (c : Int) = 65533)
   go_wp2_with fail
   exact ⟨⟨k + 1, by omega, rfl⟩, by simp only [World.iterPos_iter]; omega⟩
  ·obtain rfl : k = 15 := by omega
   have hnx : ∀ ty, (Instr.next (.pointer (some ⟨w.heap.size, 0, none⟩)) true ty).run Tryz.prog (w.iter spcS 15) = _ := fun ty => run_next_end w spcS 15 ty (by decide)
   go_wp2_with fail
   go_ret
   exact ⟨rfl, iter_below _ _ _⟩
theorem low_index : ∀ (l : List UInt8) (z : UInt8), (∀ b ∈ l, b.toNat < 128) → 128 ≤ z.toNat → Lib.indexByte l z = -1
 | [], _, _, _ => rfl
 | b :: l, z, h, hz => by
  have hb := h b (by simp)
  have ih := low_index l z (fun b hm => h b (List.mem_cons_of_mem _ hm)) hz
  have hne : (b == z) = false := by
   rw [beq_eq_false_iff_ne]; rintro rfl; omega
  unfold Lib.indexByte
  rw [hne, ih]; rfl
theorem enc_form {c : Int} (hc : isR c = true) (h : 128 ≤ c) : (∃ a z : UInt8, Utf8.encode c = ⟨#[a, z]⟩ ∧ 128 ≤ z.toNat) ∨ (∃ a b z : UInt8, Utf8.encode c = ⟨#[a, b, z]⟩ ∧ 128 ≤ z.toNat) ∨ (∃ a b d z : UInt8, Utf8.encode c = ⟨#[a, b, d, z]⟩ ∧ 128 ≤ z.toNat) := by
 obtain ⟨n, rfl⟩ : ∃ n : Nat, c = n := ⟨c.toNat, by omega⟩
 have hv : Utf8.valid (n : Int) = true := by
  rw [valid_iff]; rw [isR_iff] at hc; omega
 have hz : ∀ m, 128 ≤ (UInt8.ofNat (128 + m % 64)).toNat := fun m => by rw [UInt8.toNat_ofNat']; omega
 unfold Utf8.encode
 rw [hv]
 simp only [if_true, Int.toNat_natCast]
 rw [if_neg (by omega)]
 split
 ·exact .inl ⟨_, _, rfl, hz _⟩
 ·split
  ·exact .inr (.inl ⟨_, _, _, rfl, hz _⟩)
  ·exact .inr (.inr ⟨_, _, _, _, rfl, hz _⟩)
def lays137_ren : Go.Shelf.Ren := ⟨fun | 137 => 179 | 217 => 194 | 266 => 204 | n => n, fun | 9 => 9 | 5 => 5 | 3 => 3 | n => n, fun | n => n⟩
theorem lays137 : Go.Proofs.Lays.n137 Tryz.prog lays137_ren := {
 mixed := by kernel_rfl
 f137 := Tryz.func179.trans (congrArg some (by kernel_rfl))
 f217 := Tryz.func194.trans (congrArg some (by kernel_rfl))
 f266 := Tryz.func204.trans (congrArg some (by kernel_rfl))
 t3 := Tryz.underlying3
 a3 := Tryz.isAgg3
 z3 := Tryz.sizeOf3
 v3 := Tryz.zeroValue3
 t5 := Tryz.underlying5
 a5 := Tryz.isAgg5
 z5 := Tryz.sizeOf5
 v5 := Tryz.zeroValue5
 t9 := Tryz.underlying9
 a9 := Tryz.isAgg9
 z9 := Tryz.sizeOf9
 v9 := Tryz.zeroValue9 }
theorem sindexbyte_any (s : ByteArray) (c : Int) (w : World) : Calls Tryz.prog 179 #[.string s, .int .u8 c] w fun e w' => e = .returned (.int .i64 (Lib.indexByte s.data.toList c.toNat.toUInt8)) ∧ w' = w := Any.strings_IndexByte lays137 s c w
theorem spc_low : ∀ b ∈ spcS.data.toList, b.toNat < 128 := by decide
theorem sindex_high (k : Nat) (z : UInt8) (hz : 128 ≤ z.toNat) (w : World) : Calls Tryz.prog 179 #[.string (spcS.extract k 15), .int .u8 (z.toNat : Nat)] w fun e w' => e = .returned (.int .i64 (-1)) ∧ w' = w := by
 refine (sindexbyte_any _ _ w).mono ?_
 rintro e w' ⟨rfl, rfl⟩
 refine ⟨?_, rfl⟩
 rw [low_index]
 ·intro b hb
  apply spc_low b
  have hx : (spcS.extract k 15).data.toList = (spcS.data.toList.drop k).take (15 - k) := by
   rw [ByteArray.data_extract]; simp [List.extract_eq_take_drop]
  rw [hx] at hb
  exact List.mem_of_mem_drop (List.mem_of_mem_take hb)
 ·rw [Int.toNat_natCast, Nat.toUInt8_eq, UInt8.ofNat_toNat]; exact hz
set_option maxHeartbeats 2000000 in
set_option maxRecDepth 100000 in
theorem irune_high {c : Int} (hc : isR c = true) (h1 : 128 ≤ c) (h2 : c ≠ 65533) (w : World) : Calls Tryz.prog 171 #[.string spcS, .int .i32 c] w fun e w' => e = .returned (.int .i64 (-1)) ∧ Below w.heap.size w w' := by
 have n1 : ¬ c < 128 := by omega
 have n2 : (c == 65533) = false := by simpa using h2
 have hv := Lib.hid (validrune_any c w)
 have hcv : ∀ w, (convert 21 9 (.int .i32 c)).run Tryz.prog w = .ok (.string (Utf8.encode c)) w := fun w => by
  unfold convert; simp [run_underlying Tryz.underlying21, run_underlying Tryz.underlying9, Conv.intToString]
 have hvc := Lib.hid (show Lib.validRune c = true by rw [valid_isR, hc])
 have he := enc_form hc h1
 clear hc
 rcases he with ⟨a, z, e, hz⟩ | ⟨a, b, z, e, hz⟩ | ⟨a, b, d, z, e, hz⟩
 ·rw [e] at hcv
  clear e
  have kk : (((spcS[1]'(by decide)).toNat : Int) != ((({ data := #[a, z] } : ByteArray)[1]'(by exact Nat.lt_succ_self 1)).toNat : Int)) = true := by
   show ((36 : Int) != (z.toNat : Nat)) = true
   simpa using (by omega : ¬ (36 : Int) = (z.toNat : Nat))
  go_enter Tryz.func171, Tryz.ntmps171
  go_wp2_with fail
  (with_reducible refine hv.out.mono ?_)
  rintro e w' ⟨rfl, rfl⟩
  rw [hvc.out]
  go_wp2_with fail
  go_step3
  go_wp2_with fail
  refine wp_loop_rounds 1 ?_
  rw [rounds_succ]
  go_wp2_with fail
  go_step3
  go_wp2_with fail
  go_quiet (fail)
  go_wp2_with fail
  generalize hq : World.drewN _ _ = wq
  have Hq := Lib.hid (show Below w'.heap.size w' wq by rw [← hq]; exact blw_drewN (Below.refl _ _) _)
  clear hq
  have s1 : IntKind.i64.wrap (1 + 1) = 2 := by decide
  have s2 : IntKind.i64.wrap (2 + 1) = 3 := by decide
  have s3 : IntKind.i64.wrap (3 + 1) = 4 := by decide
  go_quiet ((go_at_call 179; exact Calls.quiet_of_same (sindex_high _ z hz _)))
  go_wp2_with fail
  rw [Exit.noGoto_ret]
  go_wp2_with fail
  rw [Exit.noGoto_ret]
  go_wp2_with fail
  go_ret
  exact ⟨rfl, blw_drewN Hq.out _⟩
 ·rw [e] at hcv
  clear e
  have kk : (((spcS[2]'(by decide)).toNat : Int) != ((({ data := #[a, b, z] } : ByteArray)[2]'(by exact Nat.lt_succ_self 2)).toNat : Int)) = true := by
   show ((92 : Int) != (z.toNat : Nat)) = true
   simpa using (by omega : ¬ (92 : Int) = (z.toNat : Nat))
  go_enter Tryz.func171, Tryz.ntmps171
  go_wp2_with fail
  (with_reducible refine hv.out.mono ?_)
  rintro e w' ⟨rfl, rfl⟩
  rw [hvc.out]
  go_wp2_with fail
  go_step3
  go_wp2_with fail
  refine wp_loop_rounds 1 ?_
  rw [rounds_succ]
  go_wp2_with fail
  go_step3
  go_wp2_with fail
  go_quiet (fail)
  go_wp2_with fail
  generalize hq : World.drewN _ _ = wq
  have Hq := Lib.hid (show Below w'.heap.size w' wq by rw [← hq]; exact blw_drewN (Below.refl _ _) _)
  clear hq
  have s1 : IntKind.i64.wrap (1 + 1) = 2 := by decide
  have s2 : IntKind.i64.wrap (2 + 1) = 3 := by decide
  have s3 : IntKind.i64.wrap (3 + 1) = 4 := by decide
  go_quiet ((go_at_call 179; exact Calls.quiet_of_same (sindex_high _ z hz _)))
  go_wp2_with fail
  rw [Exit.noGoto_ret]
  go_wp2_with fail
  rw [Exit.noGoto_ret]
  go_wp2_with fail
  go_ret
  exact ⟨rfl, blw_drewN Hq.out _⟩
 ·rw [e] at hcv
  clear e
  have kk : (((spcS[3]'(by decide)).toNat : Int) != ((({ data := #[a, b, d, z] } : ByteArray)[3]'(by exact Nat.lt_succ_self 3)).toNat : Int)) = true := by
   show ((46 : Int) != (z.toNat : Nat)) = true
   simpa using (by omega : ¬ (46 : Int) = (z.toNat : Nat))
  go_enter Tryz.func171, Tryz.ntmps171
  go_wp2_with fail
  (with_reducible refine hv.out.mono ?_)
  rintro e w' ⟨rfl, rfl⟩
  rw [hvc.out]
  go_wp2_with fail
  go_step3
  go_wp2_with fail
  refine wp_loop_rounds 1 ?_
  rw [rounds_succ]
  go_wp2_with fail
  go_step3
  go_wp2_with fail
  go_quiet (fail)
  go_wp2_with fail
  generalize hq : World.drewN _ _ = wq
  have Hq := Lib.hid (show Below w'.heap.size w' wq by rw [← hq]; exact blw_drewN (Below.refl _ _) _)
  clear hq
  have s1 : IntKind.i64.wrap (1 + 1) = 2 := by decide
  have s2 : IntKind.i64.wrap (2 + 1) = 3 := by decide
  have s3 : IntKind.i64.wrap (3 + 1) = 4 := by decide
  go_quiet ((go_at_call 179; exact Calls.quiet_of_same (sindex_high _ z hz _)))
  go_wp2_with fail
  rw [Exit.noGoto_ret]
  go_wp2_with fail
  rw [Exit.noGoto_ret]
  go_wp2_with fail
  go_ret
  exact ⟨rfl, blw_drewN Hq.out _⟩
def lays151_ren : Go.Shelf.Ren := ⟨fun | 151 => 158 | 152 => 171 | 137 => 179 | 119 => 132 | 224 => 180 | 225 => 181 | 217 => 194 | 266 => 204 | n => n, fun | 9 => 9 | 21 => 21 | 4 => 4 | 3 => 3 | 5 => 5 | 0 => 0 | 46 => 176 | n => n, fun | n => n⟩
theorem lays151 : Go.Proofs.Lays.n151 Tryz.prog lays151_ren := {
 mixed := by kernel_rfl
 f119 := Tryz.func132.trans (congrArg some (by kernel_rfl))
 f137 := Tryz.func179.trans (congrArg some (by kernel_rfl))
 f151 := Tryz.func158.trans (congrArg some (by kernel_rfl))
 f152 := Tryz.func171.trans (congrArg some (by kernel_rfl))
 f217 := Tryz.func194.trans (congrArg some (by kernel_rfl))
 f224 := Tryz.func180.trans (congrArg some (by kernel_rfl))
 f225 := Tryz.func181.trans (congrArg some (by kernel_rfl))
 f266 := Tryz.func204.trans (congrArg some (by kernel_rfl))
 t0 := Tryz.underlying0
 a0 := Tryz.isAgg0
 z0 := Tryz.sizeOf0
 v0 := Tryz.zeroValue0
 t3 := Tryz.underlying3
 a3 := Tryz.isAgg3
 z3 := Tryz.sizeOf3
 v3 := Tryz.zeroValue3
 t4 := Tryz.underlying4
 a4 := Tryz.isAgg4
 z4 := Tryz.sizeOf4
 v4 := Tryz.zeroValue4
 t5 := Tryz.underlying5
 a5 := Tryz.isAgg5
 z5 := Tryz.sizeOf5
 v5 := Tryz.zeroValue5
 t9 := Tryz.underlying9
 a9 := Tryz.isAgg9
 z9 := Tryz.sizeOf9
 v9 := Tryz.zeroValue9
 t21 := Tryz.underlying21
 a21 := Tryz.isAgg21
 z21 := Tryz.sizeOf21
 v21 := Tryz.zeroValue21
 t46 := Tryz.underlying176
 a46 := Tryz.isAgg176
 z46 := Tryz.sizeOf176
 v46 := Tryz.zeroValue176 }
def SomeB (w : World) (e : Ending) (w' : World) : Prop := ∃ b : Bool, e = .returned (.bool b) ∧ Below w.heap.size w w'
theorem crune_high {c : Int} (hc : isR c = true) (h1 : 128 ≤ c) (w : World) : Calls Tryz.prog 158 #[.string spcS, .int .i32 c] w fun e w' => SomeB w e w' := by
 have hq : Calls Tryz.prog 171 #[.string spcS, .int .i32 c] w fun e w' => e = .returned (.int .i64 (-1)) ∧ Below w.heap.size w w' := by
  by_cases h2 : c = 65533
  ·subst h2; exact irune_fffd w
  ·exact irune_high hc h1 h2 w
 have Hq := Lib.hid hq
 clear hq hc
 generalize spcS = s at *
 go_enter Tryz.func158, Tryz.ntmps158
 go_wp2_with fail
 (with_reducible refine Hq.out.mono ?_)
 rintro e w' ⟨rfl, hb⟩
 have Hb := Lib.hid hb
 clear hb
 go_wp2_with fail
 go_ret
 exact ⟨_, rfl, Hb.out⟩
theorem crune_any {c : Int} (hc : isR c = true) (w : World) : Calls Tryz.prog 158 #[.string spcS, .int .i32 c] w fun e w' => SomeB w e w' := by
 have h0 := isR_pos hc
 by_cases h1 : c < 128
 ·refine (Any.strings_ContainsRune_ascii lays151 spcS c w h0 h1).mono ?_
  rintro e w' ⟨rfl, rfl⟩
  exact ⟨_, rfl, Below.refl _ _⟩
 ·exact crune_high hc (by omega) w
set_option maxHeartbeats 4000000 in
theorem char_any {w : World} {B b n : Nat} (h : Bd w B b n) {c : Int} (hc : isR c = true) (hn : n + 12 ≤ 100000000000000) (hB : B ≤ w.heap.size) : Calls Tryz.prog 135 #[.pointer (some ⟨b, 0, none⟩), .int .i32 c] w fun e w' => WnP w B b (n + 12) e w' := by
 have h0 := isR_pos hc
 have h1 : c ≤ 1114111 := ((isR_iff c).1 hc).2.1
 have Hcd := Lib.hid (coded_any h c h0 h1 hn hB)
 have Hcr := Lib.hid (crune_any hc w)
 have Hb0 := Lib.hid (BdP.start h)
 clear h hc
 by_cases k1 : c < 32
 ·go_enter Tryz.func135, Tryz.ntmps135
  go_wp2_with fail
  (with_reducible refine Hcd.out.mono ?_)
  rintro e w1 ⟨rfl, hb1⟩
  have Hb1 := Lib.hid hb1
  clear hb1
  go_wp2_with fail
  go_end0
  exact ⟨rfl, Hb1.out⟩
 by_cases k2 : 127 ≤ c ∧ c ≤ 160
 ·obtain ⟨k3, k4⟩ := k2
  go_enter Tryz.func135, Tryz.ntmps135
  go_wp2_with fail
  (with_reducible refine Hcd.out.mono ?_)
  rintro e w1 ⟨rfl, hb1⟩
  have Hb1 := Lib.hid hb1
  clear hb1
  go_wp2_with fail
  go_end0
  exact ⟨rfl, Hb1.out⟩
 have k5 : c < 127 ∨ 160 < c := by omega
 clear k2
 rcases k5 with k5 | k5
 all_goals
  go_enter Tryz.func135, Tryz.ntmps135
  go_wp2_with fail
  (with_reducible refine Hcr.out.mono ?_)
  rintro e w1 ⟨bb, rfl, hb1⟩
  have Hb1 := Lib.hid (Hb0.out.quiet hb1 hB)
  clear hb1
  cases bb with
  | true =>
   go_wp2_with fail
   (with_reducible refine (wbyte_any Hb1.out.bd 92 (by decide) (by decide) (by omega) (Hb1.out.hB hB)).mono ?_)
   rintro e w2 ⟨rfl, hb2⟩
   have Hb2 := Lib.hid (Hb1.out.trans hb2)
   clear hb2
   go_wp2_with fail
   (with_reducible refine (wrune_any Hb2.out.bd c h0 h1 (by omega) (Hb2.out.hB hB)).mono ?_)
   rintro e w3 ⟨z, rfl, hb3⟩
   have Hb3 := Lib.hid ((Hb2.out.trans hb3).more (show n + 1 + 4 ≤ n + 12 by omega))
   clear hb3
   go_wp2_with fail
   go_end0
   exact ⟨rfl, Hb3.out⟩
  | false =>
   go_wp2_with fail
   (with_reducible refine (wrune_any Hb1.out.bd c h0 h1 (by omega) (Hb1.out.hB hB)).mono ?_)
   rintro e w3 ⟨z, rfl, hb3⟩
   have Hb3 := Lib.hid ((Hb1.out.trans hb3).more (show n + 4 ≤ n + 12 by omega))
   clear hb3
   go_wp2_with fail
   go_end0
   exact ⟨rfl, Hb3.out⟩
end Go.Proofs.YthhnmpkgleelfaaGreatDoor
