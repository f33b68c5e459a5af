import Derived.Test.YthhnmpkgleelfaaGreatDoorK48
import Derived.Laws.Cover4
import Derived.Deep.Cut
import Derived.Deep.CutBlock
import Derived.Test.YthhnmpkgleelfaaGreatDoorK9
set_option linter.unusedVariables false
set_option linter.unusedSimpArgs false
namespace Go.Proofs.YthhnmpkgleelfaaGreatDoor
open Go.RowKit Go.Shelf
theorem enc_1 (n : Nat) (hv : Utf8.valid (n : Int) = true) (h1 : n < 128) : Utf8.encode (n : Int) = ⟨#[UInt8.ofNat n]⟩ := by
 unfold Utf8.encode
 simp only [hv, if_true, Int.toNat_natCast, h1]
theorem enc_2 (n : Nat) (hv : Utf8.valid (n : Int) = true) (h1 : ¬ n < 128) (h2 : n < 2048) : Utf8.encode (n : Int) = ⟨#[UInt8.ofNat (192 + n / 64), UInt8.ofNat (128 + n % 64)]⟩ := by
 unfold Utf8.encode
 simp only [hv, if_true, Int.toNat_natCast, h1, h2, if_false]
theorem enc_3 (n : Nat) (hv : Utf8.valid (n : Int) = true) (h1 : ¬ n < 128) (h2 : ¬ n < 2048) (h3 : n < 65536) : Utf8.encode (n : Int) = ⟨#[UInt8.ofNat (224 + n / 4096), UInt8.ofNat (128 + n / 64 % 64), UInt8.ofNat (128 + n % 64)]⟩ := by
 unfold Utf8.encode
 simp only [hv, if_true, Int.toNat_natCast, h1, h2, h3, if_false]
theorem enc_4 (n : Nat) (hv : Utf8.valid (n : Int) = true) (h1 : ¬ n < 128) (h2 : ¬ n < 2048) (h3 : ¬ n < 65536) : Utf8.encode (n : Int) = ⟨#[UInt8.ofNat (240 + n / 262144), UInt8.ofNat (128 + n / 4096 % 64), UInt8.ofNat (128 + n / 64 % 64), UInt8.ofNat (128 + n % 64)]⟩ := by
 unfold Utf8.encode
 simp only [hv, if_true, Int.toNat_natCast, h1, h2, h3, if_false]
theorem enc_frm {c : Int} (hc : isR c = true) : (Utf8.encode c).data.toList = frm c := by
 obtain ⟨n, rfl⟩ : ∃ n : Nat, c = n := ⟨c.toNat, by have := isR_pos hc; omega⟩
 have hr := (isR_iff (n : Int)).1 hc
 have hv : Utf8.valid (n : Int) = true := by rw [valid_iff]; omega
 by_cases h1 : n < 128
 ·rw [frm_1 n h1, enc_1 n hv h1]
 ·by_cases h2 : n < 2048
  ·rw [frm_2 n ⟨by omega, h2⟩, enc_2 n hv h1 h2]
  ·by_cases h3 : n < 65536
   ·rw [frm_3 n ⟨by omega, h3⟩ (by omega), enc_3 n hv h1 h2 h3]
   ·rw [frm_4 n ⟨by omega, by omega⟩, enc_4 n hv h1 h2 h3]
theorem runesB_rng {cs : List Int} (hc : ∀ c ∈ cs, isR c = true) : runesBytes cs = rngB cs := by
 have key : ∀ (l : List Int) (s : ByteArray), (∀ c ∈ l, isR c = true) → (l.foldl (fun r n => r ++ Utf8.encode n) s).data.toList = s.data.toList ++ l.flatMap frm := by
  intro l
  induction l with
  | nil => intro s _; simp
  | cons c l ih =>
   intro s h
   rw [List.foldl_cons, ih _ (fun c hm => h c (List.mem_cons_of_mem _ hm)), ByteArray.data_append, Array.toList_append, enc_frm (h c (by simp)), List.flatMap_cons, List.append_assoc]
 have h := key cs ByteArray.empty hc
 unfold runesBytes rngB
 have e : (cs.foldl (fun r n => r ++ Utf8.encode n) ByteArray.empty).data = (cs.flatMap frm).toArray := by
  apply Array.ext'
  rw [h]; simp
 cases hx : cs.foldl (fun r n => r ++ Utf8.encode n) ByteArray.empty with
 | mk d => rw [hx] at e; simp only at e; rw [e]
theorem conv_rng {w : World} {base q : Nat} {A : Option Addr} {cs : List Int} (h : Rns w base (.slice A cs.length q) cs) (hc : ∀ c ∈ cs, isR c = true) : (convert 37 9 (.slice A cs.length q)).run Tryz.prog w = .ok (.string (rngB cs)) w := by
 rw [← runesB_rng hc]
 obtain ⟨A', q', e, _, _, hA⟩ := ownsRow_slice h
 obtain ⟨rfl, _, rfl⟩ := Value.slice.inj e
 by_cases h0 : 0 < cs.length
 ·obtain ⟨g, rfl⟩ := hA h0
  have := run_convert_runes (P := Tryz.prog) w 37 9 21 ⟨g, 0, none⟩ cs.length q cs (Nat.le_refl _) Tryz.underlying37 Tryz.underlying21 Tryz.underlying9 (fun j hj => by
   rw [Addr.add_lit, Nat.zero_add, ownsRow_cell h rfl j (by omega), List.getElem?_map, getD_of cs j hj]; rfl)
  rw [List.take_length] at this
  exact this
 ·obtain rfl : cs = [] := List.eq_nil_of_length_eq_zero (by omega)
  cases A with
  | none => exact run_convert_runes_nil (P := Tryz.prog) w 37 9 21 _ _ Tryz.underlying37 Tryz.underlying21 Tryz.underlying9
  | some a =>
   have := run_convert_runes (P := Tryz.prog) w 37 9 21 a 0 q [] (Nat.le_refl _) Tryz.underlying37 Tryz.underlying21 Tryz.underlying9 (fun j hj => by simp at hj)
   simpa using this
def CsA (w : World) (L : Spans) (e : Ending) (w' : World) : Prop := ∃ (A : Option Addr) (q : Nat), e = .returned (.slice A L.length q) ∧ SpR w' w.heap.size (.slice A L.length q) L ∧ Below w.heap.size w w'
def StP2 (w : World) (L : Spans) (but : Bool) (e : Ending) (w' : World) : Prop := ∃ cs : List Int, e = .returned (.agg #[.string (rngB cs)]) ∧ SetOf (butP L but) cs ∧ Below w.heap.size w w'
def StCut (w1 : World) (L : Spans) (but : Bool) (s0 : Value) (wx : World) : Prop := ∃ (M : Spans) (g q : Nat), s0 = .slice (some ⟨g, 0, none⟩) M.length q ∧ RdSp wx g M ∧ Below w1.heap.size w1 wx ∧ BdS M ∧ M.length ≤ 60000 ∧ (∀ S, SortedS S → S.Perm M → SetOf (butP L but) (flatS (othP 0 S)))
def SrRel (w : World) (O : Spans) (s5 s28 : Value) (wr : World) : Prop := ∃ (k : Nat) (A : Option Addr) (q : Nat), k ≤ O.length ∧ s28 = .int .i64 k ∧ s5 = .slice A (flatS (O.take k)).length q ∧ Below w.heap.size w wr ∧ Rns wr w.heap.size (.slice A (flatS (O.take k)).length q) (flatS (O.take k))
set_option maxHeartbeats 8000000 in
set_option maxRecDepth 100000 in
theorem prset_core {w : World} {L : Spans} {but : Bool} {A : Option Addr} {q : Nat} (hcl : Calls Tryz.prog 155 #[.slice A L.length q] (w.alloc (.cells #[.string ⟨#[]⟩] 213)) fun e w' => CsA (w.alloc (.cells #[.string ⟨#[]⟩] 213)) L e w') (hb : BdS L) (hl : L.length ≤ 50000) : Calls Tryz.prog 128 #[.slice A L.length q, .bool but] w fun e w' => StP2 w L but e w' := by
 have hal := alloc_below w (.cells #[.string ⟨#[]⟩] 213)
 have Hal := Lib.hid hal
 have Hx := Lib.hid (heap_alloc_new w (.cells #[.string ⟨#[]⟩] 213))
 have Hcl := Lib.hid hcl
 have HB := Lib.hid hb
 clear hcl hb hal
 go_enter Tryz.func128, Tryz.ntmps128
 go_wp2_with fail
 generalize w.alloc (.cells #[.string ⟨#[]⟩] 213) = w1 at *
 have hs1 := Hal.out.size
 (with_reducible refine Hcl.out.mono ?_)
 rintro e w2 ⟨A1, q1, rfl, ho2, hb2⟩
 have Hb2 := Lib.hid hb2
 have Ho2 := Lib.hid (ho2.below (alloc_below w2 (.cells #[.int .i32 55296, .int .i32 57343] 236)))
 have Hcn := Lib.hid (cells_new w2 [.int .i32 55296, .int .i32 57343] 236)
 have Hba := Lib.hid (hb2.alloc hb2.size (.cells #[.int .i32 55296, .int .i32 57343] 236))
 have hs2 := hb2.size
 clear hb2 ho2
 go_upto_if 14 with (at_builtin; refine wpList_append_k elSpan rfl (.tmp 9) (.tmp 11) rfl w1.heap.size (.slice A1 L.length q1) L.length w2.heap.size 1 1 ((flatS L).map runeV) [.int .i32 55296, .int .i32 57343] (by simp [Act.eval]) Ho2.out (by simp [Act.eval]) rfl Hcn.out (by simp [Value.oneCell']) (by unfold maxLen; omega) (by omega) (by simp; omega) ?_; intro v' w3 h1 h2 h3; have Hp := Lib.hid h1; have Hg := Lib.hid h2; obtain ⟨A5, q5, rfl, hq5, -, hA5⟩ := ownsRow_slice h1; clear h1 h2 h3)
 obtain ⟨g5, rfl⟩ := hA5 (by omega)
 have hq5' : (L.length : Int) ≤ q5 := by omega
 clear hA5 hq5
 have Hb3 := Lib.hid (own_below Hba.out Ho2.out Hba.out.size Hg.out)
 have Hs3 := Lib.hid (SpR.snoc (O := L) Hp.out)
 have hs3 := Hb3.out.size
 have Hlen3 := Lib.hid (show (L ++ [sur]).length = L.length + 1 by simp)
 clear Hp Hg Ho2 Hcn Hba
 go_cut [0] (fun s0 wx => StCut w1 L but s0 wx)
 case first =>
  cases but with
  | true =>
   go_wp2_with fail
   go_meet
   case rel => exact ⟨L ++ [sur], g5, q5, by rw [Hlen3.out], Hs3.out.read, Hb3.out, HB.out.sur, by rw [Hlen3.out]; omega, fun S hS hP => by
    have := set_neg HB.out hS hP
    unfold butP
    simpa using this⟩
  | false =>
   have hpre : RdSp w3 g5 L := fun i p hp => Hs3.out.read i p (by rw [List.getElem?_append_left (List.getElem?_eq_some_iff.1 hp).1]; exact hp)
   have Ho3 := Lib.hid (fun (q : Nat) => pothers_any (q := q) hpre HB.out (by omega))
   clear hpre
   go_wp2_with fail
   (with_reducible refine (Ho3.out _).mono ?_)
   rintro e w4 ⟨S1, A4, q4, hS1, hP1, rfl, ho4, hb4⟩
   have HS1 := Lib.hid hS1
   have HP1 := Lib.hid hP1
   have hbo : BdS (othP 0 S1) := BdS.oth hS1 (HB.out.perm hP1)
   have Hbo := Lib.hid hbo
   have hol := othP_len S1 0
   rw [hP1.length_eq] at hol
   obtain ⟨O, hO⟩ : ∃ O, othP 0 S1 = O := ⟨_, rfl⟩
   rw [hO] at ho4 Hbo hol
   have HO := Lib.hid hO
   have Hba := Lib.hid ((Hb3.out.trans (hb4.mono hs3)).alloc (Nat.le_trans hs3 hb4.size) (.cells #[.int .i32 55296, .int .i32 57343] 236))
   have Ho4 := Lib.hid ((SpR.below (ownsRow_low ho4 hs3) (alloc_below w4 (.cells #[.int .i32 55296, .int .i32 57343] 236))))
   have Hcn := Lib.hid (cells_new w4 [.int .i32 55296, .int .i32 57343] 236)
   have hs4 := hb4.size
   rw [hO]
   clear hS1 hP1 hbo hO ho4 hb4
   go_wp2_with (at_builtin; refine wpList_append_k elSpan rfl (.tmp 21) (.tmp 23) rfl w1.heap.size (.slice A4 O.length q4) O.length w4.heap.size 1 1 ((flatS O).map runeV) [.int .i32 55296, .int .i32 57343] (by simp [Act.eval]) Ho4.out (by simp [Act.eval]) rfl Hcn.out (by simp [Value.oneCell']) (by unfold maxLen; omega) (by omega) (by simp; omega) ?_; intro v' w5 h1 h2 h3; have Hp := Lib.hid h1; have Hg := Lib.hid h2; obtain ⟨A6, q6, rfl, -, -, hA6⟩ := ownsRow_slice h1; clear h1 h2 h3)
   obtain ⟨g6, rfl⟩ := hA6 (by omega)
   have Hs5 := Lib.hid (SpR.snoc (O := O) Hp.out)
   have hlo : (O ++ [sur]).length = O.length + 1 := by simp
   go_meet
   case rel => exact ⟨O ++ [sur], g6, q6, by rw [hlo], SpR.read (n := O.length + 1) Hs5.out, own_below Hba.out Ho4.out Hba.out.size Hg.out, Hbo.out.sur, by rw [hlo]; omega, fun S hS hP => by
    rw [← HO.out] at hP
    have := set_pos HB.out HS1.out HP1.out hS hP
    unfold butP
    simpa using this⟩
 case rest =>
  obtain ⟨M, g6, q6, rfl, hr, hb5, hbM, hlM, hspec⟩ := hcut
  have Hr := Lib.hid hr
  have Hb5 := Lib.hid hb5
  have HbM := Lib.hid hbM
  have Hspec := Lib.hid hspec
  have hs5 := hb5.size
  have Hot := Lib.hid (pothers_any (q := q6) hr hbM (by omega))
  clear hr hb5 hbM hspec Hb3 Hs3
  go_wp2_with fail
  (with_reducible refine Hot.out.mono ?_)
  rintro e w6 ⟨S, A7, q7, hS, hP, rfl, ho6, hb6⟩
  have Hset := Lib.hid (Hspec.out S hS hP)
  have hol := othP_len S 0
  rw [hP.length_eq] at hol
  have Hb6 := Lib.hid (Hb5.out.trans (hb6.mono hs5))
  have hs6 := Hb6.out.size
  obtain ⟨O, hO⟩ : ∃ O, othP 0 S = O := ⟨_, rfl⟩
  rw [hO] at ho6 Hset hol ⊢
  have Ho6 := Lib.hid ho6
  clear hS hP hO ho6 hb6
  obtain ⟨wo, hwo⟩ : ∃ wo : World, w6 = wo := ⟨_, rfl⟩
  subst hwo
  go_wp2_with fail
  go_loopw [5, 28] (fun s5 s28 wr => SrRel w6 O s5 s28 wr) (fun _ v _ => O.length - (intOf v).toNat)
  case atStart => exact ⟨0, none, 0, Nat.zero_le _, rfl, rfl, Below.refl _ _, Rns.nil _ _⟩
  case round =>
   obtain ⟨k, A3, q3, hk, rfl, rfl, hb, ho⟩ := hrel
   have Hb := Lib.hid hb
   have Ho := Lib.hid ho
   have hbs := hb.size
   have hfl : (flatS (O.take k)).length = 2 * k := by rw [flatS_len, List.length_take]; omega
   have Hfl := Lib.hid hfl
   rw [hfl]
   by_cases hlt : k < O.length
   ·obtain ⟨A', q', e', -, -, hA'⟩ := ownsRow_slice Ho6.out
    obtain ⟨g7, hg7⟩ := hA' (by omega)
    obtain ⟨e1, -, -⟩ := Value.slice.inj e'
    obtain rfl : A7 = some ⟨g7, 0, none⟩ := e1.trans hg7
    clear e' hA' hg7 e1
    obtain ⟨⟨a, b⟩, hab⟩ : ∃ p, O[k]? = some p := ⟨_, List.getElem?_eq_getElem hlt⟩
    obtain ⟨c0, c1⟩ := ((SpR.read Ho6.out).below hb) k _ hab
    rw [Nat.mul_comm] at c0 c1
    dsimp only at c0 c1
    have Htk := Lib.hid (show flatS (O.take (k + 1)) = flatS (O.take k) ++ [a, b] by
     rw [List.take_add_one, hab, flatS_append]; rfl)
    rw [Hfl.out] at Ho
    have Hal1 := Lib.hid (alloc_below wr (.cells #[.int .i32 a, .int .i32 b] 236))
    obtain ⟨w8, hw8⟩ : ∃ w8, wr.alloc (.cells #[.int .i32 a, .int .i32 b] 236) = w8 := ⟨_, rfl⟩
    rw [hw8] at Hal1
    have hw8s : w8.heap.size = wr.heap.size + 1 := by rw [← hw8, World.size_alloc]
    have Hal2 := Lib.hid (alloc_below w8 (.cells #[.int .i32 a, .int .i32 b] 21))
    have ho8 := (ho.below Hal1.out).below Hal2.out
    unfold Rns at ho8
    rw [Hfl.out] at ho8
    have Hoa := Lib.hid ho8
    have hcn := cells_new w8 [.int .i32 a, .int .i32 b] 21
    rw [hw8s] at hcn
    have Hcn := Lib.hid hcn
    have Hba := Lib.hid (Hb.out.alloc hbs (.cells #[.int .i32 a, .int .i32 b] 236))
    rw [hw8] at Hba
    have Hbb := Lib.hid (Hba.out.alloc (by rw [hw8s]; omega) (.cells #[.int .i32 a, .int .i32 b] 21))
    have Hw8 := Lib.hid hw8
    have Hw8s := Lib.hid hw8s
    clear hcn hw8 hw8s ho8 hb ho hfl hab
    go_wp2_with (at_builtin; rw [Hw8.out]; refine wpList_append_k elRune rfl (.tmp 32) (.tmp 37) rfl w6.heap.size (.slice A3 (2 * k) q3) (2 * k) (wr.heap.size + 1) 2 2 ((flatS (O.take k)).map runeV) [.int .i32 a, .int .i32 b] (by simp [Act.eval]) Hoa.out (by simp [Act.eval]) rfl Hcn.out (by simp [Value.oneCell']) (by unfold maxLen; omega) (by omega) (by rw [World.size_alloc, Hw8s.out]; omega) ?_; intro v' w9 h1 h2 h3; have Hp := Lib.hid h1; have Hg := Lib.hid h2; obtain ⟨A5, q5, rfl, -, -, -⟩ := ownsRow_slice h1; clear h1 h2 h3)
    have hfl2 : (flatS (O.take (k + 1))).length = 2 * k + 2 := by rw [Htk.out, List.length_append, Hfl.out]; rfl
    refine ⟨⟨k + 1, A5, q5, by omega, by go_num, by rw [hfl2], own_below Hbb.out Hoa.out Hbb.out.size Hg.out, ?_⟩, by simp [intOf]; omega⟩
    rw [hfl2]
    unfold Rns
    rw [hfl2, Htk.out, List.map_append]
    exact Hp.out
   ·obtain rfl : k = O.length := by omega
    rw [List.take_length] at ho Hfl
    have hcv := conv_rng ho (Hset.out).chars
    rw [Hfl.out] at hcv
    have hx := quiet_heap (quiet_heap Hx.out Hb6.out) hb
    have Hxr := Lib.hid hx
    have d0 := row_cell hx (j := 0) rfl
    have f0 := row_frozen hx 0
    have Hbw := Lib.hid (Hal.out.trans ((Hb6.out.trans (hb.mono hs6)).mono hs1))
    clear hb ho hfl hx
    go_wp2_with fail
    refine bodyPost_ret (results_cell_row Tryz.results128 _ _ w.heap.size 213 #[.string (rngB (flatS O))] (0, 0) _ (by simp) ?_ Tryz.underlying213 rfl (by kernel_rfl)) rfl ⟨flatS O, rfl, Hset.out, ?_⟩
    ·exact row_set Hxr.out 0 _
    ·exact Hbw.out.setCell (p := ⟨w.heap.size, 0, none⟩) (Nat.le_refl _) _
theorem prset_any {w : World} {L : Spans} {but : Bool} {g q : Nat} (h : RdSp w g L) (hb : BdS L) (hl : L.length ≤ 50000) : Calls Tryz.prog 128 #[.slice (some ⟨g, 0, none⟩) L.length q, .bool but] w fun e w' => StP2 w L but e w' := by
 refine prset_core ?_ hb hl
 refine (pclone_any (q := q) (h.below (alloc_below w _)) (by omega)).mono ?_
 rintro e w' ⟨g1, q1, rfl, h1, h2⟩
 exact ⟨_, _, rfl, h1, h2⟩
theorem prset_nil {w : World} {but : Bool} {q : Nat} : Calls Tryz.prog 128 #[.slice none 0 q, .bool but] w fun e w' => StP2 w [] but e w' := by
 refine prset_core (L := []) ?_ (fun p hp => by simp at hp) (by decide)
 refine (pclone_nil _ _ _).mono ?_
 rintro e w' ⟨rfl, rfl⟩
 exact ⟨none, 0, rfl, SpR.nil _ _, Below.refl _ _⟩
theorem prset_own {w : World} {base q : Nat} {A : Option Addr} {L : Spans} {but : Bool} (h : SpR w base (.slice A L.length q) L) (hb : BdS L) (hl : L.length ≤ 50000) : Calls Tryz.prog 128 #[.slice A L.length q, .bool but] w fun e w' => StP2 w L but e w' := by
 cases A with
 | some a =>
  rcases ownsRow_form h with ⟨e, _⟩ | ⟨g, q', e, _⟩
  ·cases e
  ·injection e with e1 _ e3
   injection e1 with e1
   subst e1 e3
   exact prset_any (SpR.read h) hb hl
 | none =>
  rcases ownsRow_form h with ⟨e, e2⟩ | ⟨g, q', e, _⟩
  ·obtain rfl : L = [] := List.eq_nil_of_length_eq_zero e2.1
   exact prset_nil
  ·cases e
theorem Pos.len {s : ByteArray} {B g : Nat} {w : World} {t : List UInt8} (h : Pos s B g w t) : t.length ≤ 2000 := by
 obtain ⟨k, rfl, h⟩ := h
 have := rst_len s k
 have := h.size.1
 omega
theorem PdP.low {s : ByteArray} {B g : Nat} {w w1 w2 : World} {t : List UInt8} (h : PdP s B g w t w1) (hb : Below w.heap.size w1 w2) (hg : g < w.heap.size) : PdP s B g w t w2 := by
 obtain ⟨⟨k, hk, h1, h2, h3, h4, h5⟩, h6⟩ := h
 refine ⟨⟨k, hk, h1, h2.then (hb.mono (by omega)), h3, h4, (hb.block g hg).trans h5⟩, ?_⟩
 exact ⟨hb.os.trans h6.os, hb.tape.trans h6.tape, hb.output.trans h6.output, Nat.le_trans h6.size hb.size, fun i hi hig => (hb.block i hi).trans (h6.block i hi hig)⟩
theorem sgl_letters {s : ByteArray} {B g : Nat} {w : World} {f : Bool} {t ys : List UInt8} {c : Int} (k : Single f t c ys) (h : Pos s B g w t) : Calls Tryz.prog 151 #[.pointer (some ⟨g, 0, none⟩)] w fun e w' => NolP s B g w t e w' := by
 cases k with
 | esc k =>
  have := escc_nx k
  exact letters_esc h this.1 this.2
 | dash => exact letters_no h (by rw [nx_lit _ _ (by decide)]; decide) (by rw [nx_lit _ _ (by decide)]; decide)
 | dash1 => exact letters_no h (by rw [nx_lit _ _ (by decide)]; decide) (by rw [nx_lit _ _ (by decide)]; decide)
 | chr h0 h1 => exact letters_no h h0 h1
def ClsP (but : Bool) (L : Spans) (s : ByteArray) (B g : Nat) (w : World) (t : List UInt8) (e : Ending) (w' : World) : Prop := ∃ cs : List Int, e = .returned (.iface 213 (.agg #[.string (rngB cs)])) ∧ SetOf (butP L but) cs ∧ PdP s B g w t w'
def ClRl (s : ByteArray) (B g : Nat) (w : World) (L : Spans) (ys : List UInt8) (N m : Nat) (s4 s5 : Value) (wr : World) : Prop :=
 ∃ (f : Bool) (t : List UInt8) (l PL : Spans) (A : Option Addr) (q : Nat), t.length = m ∧ s4 = .slice A PL.length q ∧ s5 = .bool f ∧ PdP s B g w t wr ∧ SpR wr w.heap.size (.slice A PL.length q) PL ∧ Items f t l ys ∧ BdS PL ∧ (∀ c, 0 ≤ c → c ≤ 1114111 → (inSp PL c ∨ inSp l c ↔ inSp L c)) ∧ PL.length + 20 * m ≤ 20 * N
theorem oth_tur {S S' : Spans} (hb : BdS S) (hs : SortedS S') (hp : S'.Perm S) : ∀ c, 0 ≤ c → c ≤ 1114111 → (inSp (othP 0 S') c ↔ butP S true c) := by
 intro c h0 h1
 rw [(othP_spec S' 0 (Int.le_refl _) hs (hb.perm hp)).2.2 c, inSp_perm hp]
 unfold butP
 simp [h0, h1]
theorem butP_wk {P L : Spans} {but : Bool} {c : Int} (h : inSp P c ↔ inSp L c) : butP P but c ↔ butP L but c := by
 unfold butP
 rw [h]
theorem cl_step {PL SS sp l2 L : Spans} (hs : ∀ c, 0 ≤ c → c ≤ 1114111 → (inSp PL c ∨ inSp (sp ++ l2) c ↔ inSp L c)) (h : ∀ c, 0 ≤ c → c ≤ 1114111 → (inSp SS c ↔ inSp sp c)) : ∀ c, 0 ≤ c → c ≤ 1114111 → (inSp (PL ++ SS) c ∨ inSp l2 c ↔ inSp L c) := by
 intro c h0 h1
 rw [← hs c h0 h1, inSp_append, inSp_append, h c h0 h1, or_assoc]
theorem BdS.app {L M : Spans} (h : BdS L) (k : BdS M) : BdS (L ++ M) := fun p hp => by
 rcases List.mem_append.1 hp with hp | hp
 ·exact h p hp
 ·exact k p hp
theorem SpR.app {w : World} {base : Nat} {v : Value} {O S : Spans} (h : w.ownsRow base 236 2 v (O.length + S.length) ((flatS O).map runeV ++ (flatS S).map runeV)) : SpR w base v (O ++ S) := by
 unfold SpR
 rw [List.length_append, flatS_append, List.map_append]
 exact h
theorem SpR.some {w : World} {base q : Nat} {A : Option Addr} {L : Spans} (h : SpR w base (.slice A L.length q) L) (h0 : 0 < L.length) : ∃ g, A = .some ⟨g, 0, none⟩ := by
 obtain ⟨A', q', e, _, _, hA⟩ := ownsRow_slice h
 obtain ⟨rfl, _, _⟩ := Value.slice.inj e
 exact hA h0
theorem one_bd {a b : Int} (ha : isR a = true) (hb : isR b = true) (h : a ≤ b) : BdS [(a, b)] := fun p hp => by
 rw [List.mem_singleton.1 hp]
 have h1 := (isR_iff a).1 ha
 have h2 := (isR_iff b).1 hb
 exact ⟨h1.1, h, h2.2.1⟩
set_option maxHeartbeats 16000000 in
set_option maxRecDepth 100000 in
theorem pclass_core {s : ByteArray} {B g : Nat} {w : World} {t ys : List UInt8} {L : Spans} {but : Bool} (hi : Calls Tryz.prog 90 #[.pointer (some ⟨g, 0, none⟩), .int .i32 94] w fun e w' => BoP but s B g w t e w') (hg : g < w.heap.size) (k : Items true t L ys) (ht : t.length ≤ 2000) : Calls Tryz.prog 126 #[.pointer (some ⟨g, 0, none⟩)] w fun e w' => ClsP but L s B g w ys e w' := by
 have Hi := Lib.hid hi
 have K := Lib.hid k
 clear hi k
 go_enter Tryz.func126, Tryz.ntmps126
 go_wp2_with fail
 (with_reducible refine Hi.out.mono ?_)
 rintro e w1 ⟨rfl, hp1⟩
 have Hp1 := Lib.hid hp1
 clear hp1
 go_wp2_with fail
 go_loopg [4, 5] t.length (fun m s4 s5 wr => ClRl s B g w L ys t.length m s4 s5 wr)
 case atStart => exact ⟨true, t, L, [], none, 0, rfl, rfl, rfl, Hp1.out, SpR.nil _ _, K.out, fun p hp => by simp at hp, fun c _ _ => by have := inSp_nil c; simp [this], by simp⟩
 case round =>
  obtain ⟨f, t', l, PL, A, q, rfl, rfl, rfl, hp, ho, hk, hb, hs, hn⟩ := hrel
  have Hp := Lib.hid hp
  have Ho := Lib.hid ho
  have HB := Lib.hid hb
  have Hs := Lib.hid hs
  have hps := hp.size
  cases hk with
  | done =>
   have Hi := Lib.hid (qis hp.pos (by decide) (show _ = (93 : Int) by decide))
   clear hp ho hb hs
   go_wp2_with fail
   (with_reducible refine Hi.out.mono ?_)
   rintro e w2 ⟨rfl, hp2⟩
   have Hset := Lib.hid (prset_own (but := but) (own_rd2 Ho.out hp2.2 Hp.out.pos (by decide)) HB.out (by omega))
   have Hp2 := Lib.hid (Hp.out.trans hp2)
   clear hp2
   go_wp2_with fail
   (with_reducible refine Hset.out.mono ?_)
   rintro e w3 ⟨cs, rfl, hcs, hb3⟩
   have Hcs := Lib.hid hcs
   have Hp3 := Lib.hid (Hp2.out.quiet hb3)
   clear hcs hb3
   go_wp2_with fail
   go_ret
   exact ⟨cs, rfl, Hcs.out.wk (fun c hc => butP_wk (by
    have hr := (isR_iff c).1 hc
    have := Hs.out c hr.1 hr.2.1
    have h0 := inSp_nil c
    simp only [h0, or_false] at this
    exact this)), Hp3.out⟩
  | more h0 hit h2 =>
   have Hit := Lib.hid hit
   have H2 := Lib.hid h2
   have Hi := Lib.hid (qisn (c := 93) hp.pos (by have := hit.nx; omega) h0)
   have hl2 := hit.suf.2
   rename_i T2 sp l2
   clear hp ho hb hs h0 hit h2
   go_wp2_with fail
   (with_reducible refine Hi.out.mono ?_)
   rintro e w2 ⟨rfl, hp2⟩
   have Hp2 := Lib.hid (Hp.out.trans hp2)
   have Ho2 := Lib.hid (own_rd2 Ho.out hp2.2 Hp.out.pos (by decide))
   obtain ⟨kk, hkk, c1, -⟩ := row_back Hp2.out.pos
   clear hp2
   have hit := Hit.out
   cases hit with
   | cls ke =>
    obtain ⟨S, bt, htu, hbS, hsS, hlS, ⟨hS0, hSp⟩, hlet⟩ := letters_yes ke Hp2.out.pos
    have Htu := Lib.hid htu
    have HbS := Lib.hid hbS
    have HsS := Lib.hid hsS
    have HSp := Lib.hid hSp
    have Hlet := Lib.hid hlet
    clear ke htu hbS hsS hSp hlet
    go_wp2_with fail
    (with_reducible refine Hlet.out.mono ?_)
    rintro e w3 ⟨A3, q3, rfl, hs3, hp3⟩
    obtain ⟨g3, rfl⟩ := hs3.some hS0
    have Hp3 := Lib.hid (Hp2.out.trans hp3)
    have Ho3 := Lib.hid (own_rd2 Ho2.out hp3.2 Hp2.out.pos (by decide))
    have Hrd3 := Lib.hid (SpR.read hs3)
    clear hs3 hp3 c1
    cases bt with
    | false =>
     have Hp7 := Hp3
     have Ho7 := Ho3
     have Hrd := Lib.hid (Hrd3.out.cells)
     have HbSS := HbS
     have HSS := Lib.hid (show ∀ c, 0 ≤ c → c ≤ 1114111 → (inSp S c ↔ inSp sp c) from fun c h0 h1 => by rw [Htu.out c h0 h1]; unfold butP; simp)
     have hs7 := Hp7.out.size
     have Hbb := Lib.hid (Below.refl w.heap.size w3)
     go_wp2_with (at_builtin; refine wpList_append_k elSpan rfl (.tmp 31) (.tmp 32) rfl w.heap.size (.slice A PL.length q) PL.length g3 q3 S.length ((flatS PL).map runeV) ((flatS S).map runeV) (by simp [Act.eval]) Ho7.out (by simp [Act.eval]) (by rw [List.length_map, flatS_len]; omega) Hrd.out (flatS_one S) (by unfold maxLen; omega) (by omega) hs7 ?_; intro v' w9 h1 h2 h3; have Hpp := Lib.hid h1; have Hgg := Lib.hid h2; obtain ⟨A5, q5, rfl, -, -, -⟩ := ownsRow_slice h1; clear h1 h2 h3)
     have hlo : (PL ++ S).length = PL.length + S.length := by simp
     go_roundg T2.length
     case measure => exact hl2
     case rel => exact ⟨false, T2, _, PL ++ S, A5, q5, rfl, by rw [hlo], rfl, Hp7.out.low (own_below Hbb.out Ho7.out hs7 Hgg.out) hg, by rw [hlo]; exact SpR.app Hpp.out, H2.out, HB.out.app HbSS.out, cl_step Hs.out HSS.out, by rw [hlo]; omega⟩
    | true =>
     have Hot := Lib.hid (pothers_any (q := q3) Hrd3.out HbS.out (by omega))
     go_wp2_with fail
     (with_reducible refine Hot.out.mono ?_)
     rintro e w4 ⟨S', A4, q4, hS', hP', rfl, ho4, hb4⟩
     have hbo : BdS (othP 0 S') := BdS.oth hS' (HbS.out.perm hP')
     have HbSS := Lib.hid hbo
     have HSS := Lib.hid (show ∀ c, 0 ≤ c → c ≤ 1114111 → (inSp (othP 0 S') c ↔ inSp sp c) from fun c h0 h1 => by rw [Htu.out c h0 h1, oth_tur HbS.out hS' hP' c h0 h1])
     have hol := othP_len S' 0
     rw [hP'.length_eq] at hol
     have hne : 0 < (othP 0 S').length := by
      have h0 : inSp (othP 0 S') 0 := by
       rw [oth_tur HbS.out hS' hP' 0 (by decide) (by decide)]
       unfold butP
       rw [if_pos rfl]
       rintro ⟨p, hp, h1, h2⟩
       have := HSp.out p hp
       omega
      obtain ⟨p, hp, _⟩ := h0
      exact List.length_pos_of_mem hp
     obtain ⟨g4, rfl⟩ := ho4.some hne
     have Hrd := Lib.hid ((SpR.read ho4).cells)
     have Hp7 := Lib.hid (Hp3.out.quiet hb4)
     have Ho7 := Lib.hid (Ho3.out.below' hb4)
     clear hS' hP' ho4 hb4 hbo
     generalize othP 0 S' = SO at *
     have hs7 := Hp7.out.size
     have Hbb := Lib.hid (Below.refl w.heap.size w4)
     go_wp2_with (at_builtin; refine wpList_append_k elSpan rfl (.tmp 31) (.tmp 32) rfl w.heap.size (.slice A PL.length q) PL.length g4 q4 SO.length ((flatS PL).map runeV) ((flatS SO).map runeV) (by simp [Act.eval]) Ho7.out (by simp [Act.eval]) (by rw [List.length_map, flatS_len]; omega) Hrd.out (flatS_one SO) (by unfold maxLen; omega) (by omega) hs7 ?_; intro v' w9 h1 h2 h3; have Hpp := Lib.hid h1; have Hgg := Lib.hid h2; obtain ⟨A5, q5, rfl, -, -, -⟩ := ownsRow_slice h1; clear h1 h2 h3)
     have hlo : (PL ++ SO).length = PL.length + SO.length := by simp
     go_roundg T2.length
     case measure => exact hl2
     case rel => exact ⟨false, T2, _, PL ++ SO, A5, q5, rfl, by rw [hlo], rfl, Hp7.out.low (own_below Hbb.out Ho7.out hs7 Hgg.out) hg, by rw [hlo]; exact SpR.app Hpp.out, H2.out, HB.out.app HbSS.out, cl_step Hs.out HSS.out, by rw [hlo]; omega⟩
   | one ks hnr =>
    rename_i cc
    have Hlt := Lib.hid (sgl_letters ks Hp2.out.pos)
    have Hsg := Lib.hid (fun (w1 : World) (h : Pos s B g w1 t') => psingle_any ks h)
    have Hrg := Lib.hid (fun (w1 : World) (h : Pos s B g w1 T2) => ranges_no h (by have := H2.out.nx; omega) hnr)
    have hR := ks.isR
    have HR := Lib.hid hR
    clear ks hnr hR
    go_wp2_with fail
    (with_reducible refine Hlt.out.mono ?_)
    rintro e w3 ⟨rfl, hp3⟩
    have Hp3 := Lib.hid (Hp2.out.trans hp3)
    have Ho3 := Lib.hid (own_rd2 Ho2.out hp3.2 Hp2.out.pos (by decide))
    clear hp3 c1
    go_wp2_with fail
    (with_reducible refine (Hsg.out w3 Hp3.out.pos).mono ?_)
    rintro e w4 ⟨rfl, hp4⟩
    have Hp4 := Lib.hid (Hp3.out.trans hp4)
    have Ho4 := Lib.hid (own_rd2 Ho3.out hp4.2 Hp3.out.pos (by decide))
    clear hp4
    go_wp2_with fail
    (with_reducible refine (Hrg.out w4 Hp4.out.pos).mono ?_)
    rintro e w7 ⟨rfl, hp5⟩
    have Hp7 := Lib.hid (Hp4.out.trans hp5)
    have Ho7 := Lib.hid (SpR.below (L := PL) (own_rd2 Ho4.out hp5.2 Hp4.out.pos (by decide)) (Below.refl _ _))
    clear hp5
    have Hal := Lib.hid (alloc_below w7 (.cells #[.int .i32 cc, .int .i32 cc] 236))
    have Hoa := Lib.hid (Ho7.out.below Hal.out)
    have Hcn := Lib.hid (cells_new w7 [.int .i32 cc, .int .i32 cc] 236)
    have hs7 := Hp7.out.size
    have hal := (Below.refl w.heap.size w7).alloc hs7 (.cells #[.int .i32 cc, .int .i32 cc] 236)
    have Hbb := Lib.hid hal
    clear hal
    go_wp2_with (at_builtin; refine wpList_append_k elSpan rfl (.tmp 48) (.tmp 52) rfl w.heap.size (.slice A PL.length q) PL.length w7.heap.size 1 1 ((flatS PL).map runeV) [.int .i32 cc, .int .i32 cc] (by simp [Act.eval]) Hoa.out (by simp [Act.eval]) rfl Hcn.out (by simp [Value.oneCell']) (by unfold maxLen; omega) (by omega) (by simp; omega) ?_; intro v' w9 h1 h2 h3; have Hpp := Lib.hid h1; have Hgg := Lib.hid h2; obtain ⟨A5, q5, rfl, -, -, -⟩ := ownsRow_slice h1; clear h1 h2 h3)
    have hlo : (PL ++ [(cc, cc)]).length = PL.length + 1 := by simp
    go_roundg T2.length
    case measure => exact hl2
    case rel => exact ⟨false, T2, _, PL ++ [(cc, cc)], A5, q5, rfl, by rw [hlo], rfl, Hp7.out.low (own_below Hbb.out Hoa.out (by simp; omega) Hgg.out) hg, by rw [hlo]; exact SpR.snoc Hpp.out, H2.out, HB.out.app (one_bd HR.out HR.out (Int.le_refl _)), cl_step Hs.out (fun c _ _ => Iff.rfl), by rw [hlo]; omega⟩
   | two ks hr kd hcd =>
    rename_i y cc dd
    have Hlt := Lib.hid (sgl_letters ks Hp2.out.pos)
    have Hsg := Lib.hid (fun (w1 : World) (h : Pos s B g w1 t') => psingle_any ks h)
    have Hrg := Lib.hid (fun (w1 : World) (h : Pos s B g w1 (45 :: y)) => ranges_yes h kd.nx (by have := hr.2; rwa [List.drop_succ_cons, List.drop_zero] at this))
    have Hsd := Lib.hid (fun (w1 : World) (h : Pos s B g w1 y) => psingle_any kd h)
    have HR := Lib.hid ks.isR
    have HRd := Lib.hid kd.isR
    have hcd2 : ¬ dd < cc := by omega
    clear ks hr kd
    go_wp2_with fail
    (with_reducible refine Hlt.out.mono ?_)
    rintro e w3 ⟨rfl, hp3⟩
    have Hp3 := Lib.hid (Hp2.out.trans hp3)
    have Ho3 := Lib.hid (own_rd2 Ho2.out hp3.2 Hp2.out.pos (by decide))
    clear hp3 c1
    go_wp2_with fail
    (with_reducible refine (Hsg.out w3 Hp3.out.pos).mono ?_)
    rintro e w4 ⟨rfl, hp4⟩
    have Hp4 := Lib.hid (Hp3.out.trans hp4)
    have Ho4 := Lib.hid (own_rd2 Ho3.out hp4.2 Hp3.out.pos (by decide))
    clear hp4
    go_wp2_with fail
    (with_reducible refine (Hrg.out w4 Hp4.out.pos).mono ?_)
    rintro e w5 ⟨rfl, hp5⟩
    have Hp5 := Lib.hid (Hp4.out.trans hp5)
    have Ho5 := Lib.hid (own_rd2 Ho4.out hp5.2 Hp4.out.pos (by decide))
    clear hp5
    go_wp2_with fail
    (with_reducible refine (Hsd.out w5 Hp5.out.pos).mono ?_)
    rintro e w7 ⟨rfl, hp6⟩
    have Hp7 := Lib.hid (Hp5.out.trans hp6)
    have Ho7 := Lib.hid (SpR.below (L := PL) (own_rd2 Ho5.out hp6.2 Hp5.out.pos (by decide)) (Below.refl _ _))
    clear hp6
    have Hal := Lib.hid (alloc_below w7 (.cells #[.int .i32 cc, .int .i32 dd] 236))
    have Hoa := Lib.hid (Ho7.out.below Hal.out)
    have Hcn := Lib.hid (cells_new w7 [.int .i32 cc, .int .i32 dd] 236)
    have hs7 := Hp7.out.size
    have hal := (Below.refl w.heap.size w7).alloc hs7 (.cells #[.int .i32 cc, .int .i32 dd] 236)
    have Hbb := Lib.hid hal
    clear hal
    go_wp2_with (at_builtin; refine wpList_append_k elSpan rfl (.tmp 48) (.tmp 52) rfl w.heap.size (.slice A PL.length q) PL.length w7.heap.size 1 1 ((flatS PL).map runeV) [.int .i32 cc, .int .i32 dd] (by simp [Act.eval]) Hoa.out (by simp [Act.eval]) rfl Hcn.out (by simp [Value.oneCell']) (by unfold maxLen; omega) (by omega) (by simp; omega) ?_; intro v' w9 h1 h2 h3; have Hpp := Lib.hid h1; have Hgg := Lib.hid h2; obtain ⟨A5, q5, rfl, -, -, -⟩ := ownsRow_slice h1; clear h1 h2 h3)
    have hlo : (PL ++ [(cc, dd)]).length = PL.length + 1 := by simp
    go_roundg T2.length
    case measure => exact hl2
    case rel => exact ⟨false, T2, _, PL ++ [(cc, dd)], A5, q5, rfl, by rw [hlo], rfl, Hp7.out.low (own_below Hbb.out Hoa.out (by simp; omega) Hgg.out) hg, by rw [hlo]; exact SpR.snoc Hpp.out, H2.out, HB.out.app (one_bd HR.out HRd.out hcd), cl_step Hs.out (fun c _ _ => Iff.rfl), by rw [hlo]; omega⟩
end Go.Proofs.YthhnmpkgleelfaaGreatDoor
