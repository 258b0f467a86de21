import Derived.Test.YtdoifigogbdodaaGreatDoorLawOne
set_option linter.unusedVariables false
set_option linter.unusedSimpArgs false
set_option maxHeartbeats 1000000
namespace Go.Proofs.YtdoifigogbdodaaGreatDoor.Wo
open Go Ev Ev.Seat Go.Lib
structure FitC (c : WordsCmd) : Prop where
  f : Fit c.way c.value c.n c.flow c.size c.data
  d : c.data.length ≤ 7000
structure GF (l : List UInt8) (c : WordsCmd) : Prop where
  n : 0 ≤ c.n ∧ c.n < 18446744073709551616
  fl : 0 ≤ c.flow ∧ c.flow < 18446744073709551616
  sz : 0 ≤ c.size ∧ c.size < 18446744073709551616
  val : c.value.size ≤ l.length
  dat : c.data.length ≤ l.length
  byt : Byt c.data
theorem who_ne (w : Int) (x : UInt8) (r : List UInt8) (h : 57 < x.toNat) : (whoL w == x :: r) = false := by
  rw [beq_eq_false_iff_ne]
  intro e
  have := (Va8.dec_digits (IntKind.u64.wrap w).toNat x (by rw [show decDigits (IntKind.u64.wrap w).toNat = x :: r from e]; simp)).2
  omega
theorem zfit : (0 : Int) ≤ 0 ∧ (0 : Int) < 18446744073709551616 := by decide
def kd (l : List UInt8) : Nat :=
  bif (cutM l).1 == [112, 97, 99, 107, 101, 116] then 15 else bif (cutM l).1 == [116, 105, 99, 107] then 16 else bif (cutM l).1 == [110, 101, 120, 116] then 17 else bif (cutM l).1 == [100, 117, 109, 112] then 18 else bif (cutM (cutM l).2.1).1 == [108, 111, 99, 107] then 0 else bif (cutM (cutM l).2.1).1 == [117, 110, 108, 111, 99, 107] then 1 else bif (cutM (cutM l).2.1).1 == [100, 105, 115, 99, 97, 114, 100] then 2 else bif (cutM (cutM l).2.1).1 == [99, 104, 101, 99, 107] then 3 else bif (cutM (cutM l).2.1).1 == [99, 111, 110, 102, 105, 114, 109] then 4 else bif (cutM (cutM l).2.1).1 == [99, 97, 110, 99, 101, 108] then 5 else bif (cutM (cutM l).2.1).1 == [115, 97, 118, 101] then 6 else bif (cutM (cutM l).2.1).1 == [115, 101, 116] then 7 else bif (cutM (cutM l).2.1).1 == [100, 101, 108] then 8 else bif (cutM (cutM l).2.1).1 == [99, 111, 109, 109, 105, 116] then 9 else bif (cutM (cutM l).2.1).1 == [114, 111, 108, 108, 98, 97, 99, 107] then 10 else bif (cutM (cutM l).2.1).1 == [112, 114, 117, 110, 101] then 11 else bif (cutM (cutM l).2.1).1 == [115, 104, 111, 119] then 12 else bif (cutM (cutM l).2.1).1 == [108, 111, 97, 100] then (bif (cutM (cutM (cutM l).2.1).2.1).1 == [116, 101, 120, 116] then 13 else 14) else 19
theorem prt0 {κ : Nat} (hκ : 40000 ≤ κ) (c : WordsCmd) (hF : FitC c) {ws : List (List UInt8)} (h : wordsOf 0 c.who c.way c.value c.n c.running c.asBytes c.port c.flow c.size c.data = some ws) : words_parse κ 0 (B (Lib.join ws [32])) = some (resP 0 (some (onlyC 0 c))) ∧ Lib.join ws [32] ≠ [] ∧ kd (Lib.join ws [32]) = 0 := by
  have hrt := rt0 hκ c hF.f h
  unfold wordsOf at h
  simp only at h
  cases h0 : whoOk c.who
  · rw [h0] at h; cases h
  rw [h0] at h; simp only [bif_t] at h
  cases h
  have := hF.d
  have := who_len c.who
  have hc0 := fun X => cut_some (a := whoL c.who) X (who_free _)
  have hc1 := cut_none (a := [108, 111, 99, 107]) (by decide)
  refine ⟨?_, ?_, ?_⟩
  · rw [parse0 hκ _ (Nat.le_trans (lensum _) (by simp only [ln0, ln1, lc, l0]; omega)), hrt]
  · rw [j2]; intro e; exact num_ne _ (List.append_eq_nil_iff.1 e).1
  · unfold kd
    simp only [j1, j2, hc0, hc1, who_ne c.who _ _ (by decide : 57 < (112 : UInt8).toNat), who_ne c.who _ _ (by decide : 57 < (116 : UInt8).toNat), who_ne c.who _ _ (by decide : 57 < (110 : UInt8).toNat), who_ne c.who _ _ (by decide : 57 < (100 : UInt8).toNat), bif_f]
    try rfl
theorem len0 (c : WordsCmd) (hF : FitC c) {ws : List (List UInt8)} (h : wordsOf 0 c.who c.way c.value c.n c.running c.asBytes c.port c.flow c.size c.data = some ws) : (Lib.join ws [32]).length ≤ 140737488353000 := by
  unfold wordsOf at h
  simp only at h
  cases h0 : whoOk c.who
  · rw [h0] at h; cases h
  rw [h0] at h; simp only [bif_t] at h
  cases h
  have := hF.d
  have := who_len c.who
  exact Nat.le_trans (lensum _) (by simp only [ln0, ln1, lc, l0]; omega)
theorem swap0 (c : WordsCmd) {ws : List (List UInt8)} (h : wordsOf 0 c.who c.way c.value c.n c.running c.asBytes c.port c.flow c.size c.data = some ws) : whoOk c.who = true ∧ ∃ a r, ws = whoL c.who :: a :: r ∧ ∀ n, whoOk n = true → wordsOf 0 n c.way c.value c.n c.running c.asBytes c.port c.flow c.size c.data = some (whoL n :: a :: r) := by
  unfold wordsOf at h
  simp only at h
  cases h0 : whoOk c.who
  · rw [h0] at h; cases h
  rw [h0] at h; simp only [bif_t] at h
  cases h
  refine ⟨rfl, _, _, rfl, fun n hn => ?_⟩
  unfold wordsOf
  simp only [hn, bif_t, bif_f]
theorem gof0 {κ : Nat} (l : List UInt8) (c : WordsCmd) (h : goP κ false (partsP 0) l (zeroC 0) = some c) : c.kind = 0 ∧ onlyC 0 c = c ∧ GF l c := by
  unfold partsP zeroC at h
  simp only [goP, rdP] at h
  have hl0 := cut_len l
  generalize cutM l = q0 at h hl0
  obtain ⟨a0, l1, m0⟩ := q0
  simp only at h hl0
  have hu0 := u_fit a0
  generalize uR a0 = u0 at hu0 h
  obtain ⟨x0, d0⟩ := u0
  simp only at hu0 h
  cases d0
  · cases h
  try simp only [bif_t, bif_f] at h
  cases m0
  · first | (cases h; done) | (simp only [bif_f, isW, List.isEmpty_cons, Bool.and_false, Bool.false_and, Bool.and_self] at h; cases h; done)
  try simp only [bif_t] at h
  generalize decide (l1 = [108, 111, 99, 107]) = d1 at h
  cases d1
  · cases h
  try simp only [bif_t, bif_f] at h
  cases h
  exact ⟨rfl, rfl, ⟨zfit, zfit, zfit, (Nat.zero_le _), (Nat.zero_le _), (fun x hx => by cases hx)⟩⟩
theorem prt1 {κ : Nat} (hκ : 40000 ≤ κ) (c : WordsCmd) (hF : FitC c) {ws : List (List UInt8)} (h : wordsOf 1 c.who c.way c.value c.n c.running c.asBytes c.port c.flow c.size c.data = some ws) : words_parse κ 1 (B (Lib.join ws [32])) = some (resP 1 (some (onlyC 1 c))) ∧ Lib.join ws [32] ≠ [] ∧ kd (Lib.join ws [32]) = 1 := by
  have hrt := rt1 hκ c hF.f h
  unfold wordsOf at h
  simp only at h
  cases h0 : whoOk c.who
  · rw [h0] at h; cases h
  rw [h0] at h; simp only [bif_t] at h
  cases h
  have := hF.d
  have := who_len c.who
  have hc0 := fun X => cut_some (a := whoL c.who) X (who_free _)
  have hc1 := cut_none (a := [117, 110, 108, 111, 99, 107]) (by decide)
  refine ⟨?_, ?_, ?_⟩
  · rw [parse1 hκ _ (Nat.le_trans (lensum _) (by simp only [ln0, ln1, lc, l0]; omega)), hrt]
  · rw [j2]; intro e; exact num_ne _ (List.append_eq_nil_iff.1 e).1
  · unfold kd
    simp only [j1, j2, hc0, hc1, who_ne c.who _ _ (by decide : 57 < (112 : UInt8).toNat), who_ne c.who _ _ (by decide : 57 < (116 : UInt8).toNat), who_ne c.who _ _ (by decide : 57 < (110 : UInt8).toNat), who_ne c.who _ _ (by decide : 57 < (100 : UInt8).toNat), bif_f]
    try rfl
theorem len1 (c : WordsCmd) (hF : FitC c) {ws : List (List UInt8)} (h : wordsOf 1 c.who c.way c.value c.n c.running c.asBytes c.port c.flow c.size c.data = some ws) : (Lib.join ws [32]).length ≤ 140737488353000 := by
  unfold wordsOf at h
  simp only at h
  cases h0 : whoOk c.who
  · rw [h0] at h; cases h
  rw [h0] at h; simp only [bif_t] at h
  cases h
  have := hF.d
  have := who_len c.who
  exact Nat.le_trans (lensum _) (by simp only [ln0, ln1, lc, l0]; omega)
theorem swap1 (c : WordsCmd) {ws : List (List UInt8)} (h : wordsOf 1 c.who c.way c.value c.n c.running c.asBytes c.port c.flow c.size c.data = some ws) : whoOk c.who = true ∧ ∃ a r, ws = whoL c.who :: a :: r ∧ ∀ n, whoOk n = true → wordsOf 1 n c.way c.value c.n c.running c.asBytes c.port c.flow c.size c.data = some (whoL n :: a :: r) := by
  unfold wordsOf at h
  simp only at h
  cases h0 : whoOk c.who
  · rw [h0] at h; cases h
  rw [h0] at h; simp only [bif_t] at h
  cases h
  refine ⟨rfl, _, _, rfl, fun n hn => ?_⟩
  unfold wordsOf
  simp only [hn, bif_t, bif_f]
theorem gof1 {κ : Nat} (l : List UInt8) (c : WordsCmd) (h : goP κ false (partsP 1) l (zeroC 1) = some c) : c.kind = 1 ∧ onlyC 1 c = c ∧ GF l c := by
  unfold partsP zeroC at h
  simp only [goP, rdP] at h
  have hl0 := cut_len l
  generalize cutM l = q0 at h hl0
  obtain ⟨a0, l1, m0⟩ := q0
  simp only at h hl0
  have hu0 := u_fit a0
  generalize uR a0 = u0 at hu0 h
  obtain ⟨x0, d0⟩ := u0
  simp only at hu0 h
  cases d0
  · cases h
  try simp only [bif_t, bif_f] at h
  cases m0
  · first | (cases h; done) | (simp only [bif_f, isW, List.isEmpty_cons, Bool.and_false, Bool.false_and, Bool.and_self] at h; cases h; done)
  try simp only [bif_t] at h
  generalize decide (l1 = [117, 110, 108, 111, 99, 107]) = d1 at h
  cases d1
  · cases h
  try simp only [bif_t, bif_f] at h
  cases h
  exact ⟨rfl, rfl, ⟨zfit, zfit, zfit, (Nat.zero_le _), (Nat.zero_le _), (fun x hx => by cases hx)⟩⟩
theorem prt2 {κ : Nat} (hκ : 40000 ≤ κ) (c : WordsCmd) (hF : FitC c) {ws : List (List UInt8)} (h : wordsOf 2 c.who c.way c.value c.n c.running c.asBytes c.port c.flow c.size c.data = some ws) : words_parse κ 2 (B (Lib.join ws [32])) = some (resP 2 (some (onlyC 2 c))) ∧ Lib.join ws [32] ≠ [] ∧ kd (Lib.join ws [32]) = 2 := by
  have hrt := rt2 hκ c hF.f h
  unfold wordsOf at h
  simp only at h
  cases h0 : whoOk c.who
  · rw [h0] at h; cases h
  rw [h0] at h; simp only [bif_t] at h
  cases h
  have := hF.d
  have := who_len c.who
  have hc0 := fun X => cut_some (a := whoL c.who) X (who_free _)
  have hc1 := cut_none (a := [100, 105, 115, 99, 97, 114, 100]) (by decide)
  refine ⟨?_, ?_, ?_⟩
  · rw [parse2 hκ _ (Nat.le_trans (lensum _) (by simp only [ln0, ln1, lc, l0]; omega)), hrt]
  · rw [j2]; intro e; exact num_ne _ (List.append_eq_nil_iff.1 e).1
  · unfold kd
    simp only [j1, j2, hc0, hc1, who_ne c.who _ _ (by decide : 57 < (112 : UInt8).toNat), who_ne c.who _ _ (by decide : 57 < (116 : UInt8).toNat), who_ne c.who _ _ (by decide : 57 < (110 : UInt8).toNat), who_ne c.who _ _ (by decide : 57 < (100 : UInt8).toNat), bif_f]
    try rfl
theorem len2 (c : WordsCmd) (hF : FitC c) {ws : List (List UInt8)} (h : wordsOf 2 c.who c.way c.value c.n c.running c.asBytes c.port c.flow c.size c.data = some ws) : (Lib.join ws [32]).length ≤ 140737488353000 := by
  unfold wordsOf at h
  simp only at h
  cases h0 : whoOk c.who
  · rw [h0] at h; cases h
  rw [h0] at h; simp only [bif_t] at h
  cases h
  have := hF.d
  have := who_len c.who
  exact Nat.le_trans (lensum _) (by simp only [ln0, ln1, lc, l0]; omega)
theorem swap2 (c : WordsCmd) {ws : List (List UInt8)} (h : wordsOf 2 c.who c.way c.value c.n c.running c.asBytes c.port c.flow c.size c.data = some ws) : whoOk c.who = true ∧ ∃ a r, ws = whoL c.who :: a :: r ∧ ∀ n, whoOk n = true → wordsOf 2 n c.way c.value c.n c.running c.asBytes c.port c.flow c.size c.data = some (whoL n :: a :: r) := by
  unfold wordsOf at h
  simp only at h
  cases h0 : whoOk c.who
  · rw [h0] at h; cases h
  rw [h0] at h; simp only [bif_t] at h
  cases h
  refine ⟨rfl, _, _, rfl, fun n hn => ?_⟩
  unfold wordsOf
  simp only [hn, bif_t, bif_f]
theorem gof2 {κ : Nat} (l : List UInt8) (c : WordsCmd) (h : goP κ false (partsP 2) l (zeroC 2) = some c) : c.kind = 2 ∧ onlyC 2 c = c ∧ GF l c := by
  unfold partsP zeroC at h
  simp only [goP, rdP] at h
  have hl0 := cut_len l
  generalize cutM l = q0 at h hl0
  obtain ⟨a0, l1, m0⟩ := q0
  simp only at h hl0
  have hu0 := u_fit a0
  generalize uR a0 = u0 at hu0 h
  obtain ⟨x0, d0⟩ := u0
  simp only at hu0 h
  cases d0
  · cases h
  try simp only [bif_t, bif_f] at h
  cases m0
  · first | (cases h; done) | (simp only [bif_f, isW, List.isEmpty_cons, Bool.and_false, Bool.false_and, Bool.and_self] at h; cases h; done)
  try simp only [bif_t] at h
  generalize decide (l1 = [100, 105, 115, 99, 97, 114, 100]) = d1 at h
  cases d1
  · cases h
  try simp only [bif_t, bif_f] at h
  cases h
  exact ⟨rfl, rfl, ⟨zfit, zfit, zfit, (Nat.zero_le _), (Nat.zero_le _), (fun x hx => by cases hx)⟩⟩
theorem prt3 {κ : Nat} (hκ : 40000 ≤ κ) (c : WordsCmd) (hF : FitC c) {ws : List (List UInt8)} (h : wordsOf 3 c.who c.way c.value c.n c.running c.asBytes c.port c.flow c.size c.data = some ws) : words_parse κ 3 (B (Lib.join ws [32])) = some (resP 3 (some (onlyC 3 c))) ∧ Lib.join ws [32] ≠ [] ∧ kd (Lib.join ws [32]) = 3 := by
  have hrt := rt3 hκ c hF.f h
  unfold wordsOf at h
  simp only at h
  cases h0 : whoOk c.who
  · rw [h0] at h; cases h
  rw [h0] at h; simp only [bif_t] at h
  cases h
  have := hF.d
  have := who_len c.who
  have hc0 := fun X => cut_some (a := whoL c.who) X (who_free _)
  have hc1 := cut_none (a := [99, 104, 101, 99, 107]) (by decide)
  refine ⟨?_, ?_, ?_⟩
  · rw [parse3 hκ _ (Nat.le_trans (lensum _) (by simp only [ln0, ln1, lc, l0]; omega)), hrt]
  · rw [j2]; intro e; exact num_ne _ (List.append_eq_nil_iff.1 e).1
  · unfold kd
    simp only [j1, j2, hc0, hc1, who_ne c.who _ _ (by decide : 57 < (112 : UInt8).toNat), who_ne c.who _ _ (by decide : 57 < (116 : UInt8).toNat), who_ne c.who _ _ (by decide : 57 < (110 : UInt8).toNat), who_ne c.who _ _ (by decide : 57 < (100 : UInt8).toNat), bif_f]
    try rfl
theorem len3 (c : WordsCmd) (hF : FitC c) {ws : List (List UInt8)} (h : wordsOf 3 c.who c.way c.value c.n c.running c.asBytes c.port c.flow c.size c.data = some ws) : (Lib.join ws [32]).length ≤ 140737488353000 := by
  unfold wordsOf at h
  simp only at h
  cases h0 : whoOk c.who
  · rw [h0] at h; cases h
  rw [h0] at h; simp only [bif_t] at h
  cases h
  have := hF.d
  have := who_len c.who
  exact Nat.le_trans (lensum _) (by simp only [ln0, ln1, lc, l0]; omega)
theorem swap3 (c : WordsCmd) {ws : List (List UInt8)} (h : wordsOf 3 c.who c.way c.value c.n c.running c.asBytes c.port c.flow c.size c.data = some ws) : whoOk c.who = true ∧ ∃ a r, ws = whoL c.who :: a :: r ∧ ∀ n, whoOk n = true → wordsOf 3 n c.way c.value c.n c.running c.asBytes c.port c.flow c.size c.data = some (whoL n :: a :: r) := by
  unfold wordsOf at h
  simp only at h
  cases h0 : whoOk c.who
  · rw [h0] at h; cases h
  rw [h0] at h; simp only [bif_t] at h
  cases h
  refine ⟨rfl, _, _, rfl, fun n hn => ?_⟩
  unfold wordsOf
  simp only [hn, bif_t, bif_f]
theorem gof3 {κ : Nat} (l : List UInt8) (c : WordsCmd) (h : goP κ false (partsP 3) l (zeroC 3) = some c) : c.kind = 3 ∧ onlyC 3 c = c ∧ GF l c := by
  unfold partsP zeroC at h
  simp only [goP, rdP] at h
  have hl0 := cut_len l
  generalize cutM l = q0 at h hl0
  obtain ⟨a0, l1, m0⟩ := q0
  simp only at h hl0
  have hu0 := u_fit a0
  generalize uR a0 = u0 at hu0 h
  obtain ⟨x0, d0⟩ := u0
  simp only at hu0 h
  cases d0
  · cases h
  try simp only [bif_t, bif_f] at h
  cases m0
  · first | (cases h; done) | (simp only [bif_f, isW, List.isEmpty_cons, Bool.and_false, Bool.false_and, Bool.and_self] at h; cases h; done)
  try simp only [bif_t] at h
  generalize decide (l1 = [99, 104, 101, 99, 107]) = d1 at h
  cases d1
  · cases h
  try simp only [bif_t, bif_f] at h
  cases h
  exact ⟨rfl, rfl, ⟨zfit, zfit, zfit, (Nat.zero_le _), (Nat.zero_le _), (fun x hx => by cases hx)⟩⟩
theorem prt4 {κ : Nat} (hκ : 40000 ≤ κ) (c : WordsCmd) (hF : FitC c) {ws : List (List UInt8)} (h : wordsOf 4 c.who c.way c.value c.n c.running c.asBytes c.port c.flow c.size c.data = some ws) : words_parse κ 4 (B (Lib.join ws [32])) = some (resP 4 (some (onlyC 4 c))) ∧ Lib.join ws [32] ≠ [] ∧ kd (Lib.join ws [32]) = 4 := by
  have hrt := rt4 hκ c hF.f h
  unfold wordsOf at h
  simp only at h
  cases h0 : whoOk c.who
  · rw [h0] at h; cases h
  rw [h0] at h; simp only [bif_t] at h
  cases h
  have := hF.d
  have := who_len c.who
  have hc0 := fun X => cut_some (a := whoL c.who) X (who_free _)
  have hc1 := cut_none (a := [99, 111, 110, 102, 105, 114, 109]) (by decide)
  refine ⟨?_, ?_, ?_⟩
  · rw [parse4 hκ _ (Nat.le_trans (lensum _) (by simp only [ln0, ln1, lc, l0]; omega)), hrt]
  · rw [j2]; intro e; exact num_ne _ (List.append_eq_nil_iff.1 e).1
  · unfold kd
    simp only [j1, j2, hc0, hc1, who_ne c.who _ _ (by decide : 57 < (112 : UInt8).toNat), who_ne c.who _ _ (by decide : 57 < (116 : UInt8).toNat), who_ne c.who _ _ (by decide : 57 < (110 : UInt8).toNat), who_ne c.who _ _ (by decide : 57 < (100 : UInt8).toNat), bif_f]
    try rfl
theorem len4 (c : WordsCmd) (hF : FitC c) {ws : List (List UInt8)} (h : wordsOf 4 c.who c.way c.value c.n c.running c.asBytes c.port c.flow c.size c.data = some ws) : (Lib.join ws [32]).length ≤ 140737488353000 := by
  unfold wordsOf at h
  simp only at h
  cases h0 : whoOk c.who
  · rw [h0] at h; cases h
  rw [h0] at h; simp only [bif_t] at h
  cases h
  have := hF.d
  have := who_len c.who
  exact Nat.le_trans (lensum _) (by simp only [ln0, ln1, lc, l0]; omega)
theorem swap4 (c : WordsCmd) {ws : List (List UInt8)} (h : wordsOf 4 c.who c.way c.value c.n c.running c.asBytes c.port c.flow c.size c.data = some ws) : whoOk c.who = true ∧ ∃ a r, ws = whoL c.who :: a :: r ∧ ∀ n, whoOk n = true → wordsOf 4 n c.way c.value c.n c.running c.asBytes c.port c.flow c.size c.data = some (whoL n :: a :: r) := by
  unfold wordsOf at h
  simp only at h
  cases h0 : whoOk c.who
  · rw [h0] at h; cases h
  rw [h0] at h; simp only [bif_t] at h
  cases h
  refine ⟨rfl, _, _, rfl, fun n hn => ?_⟩
  unfold wordsOf
  simp only [hn, bif_t, bif_f]
theorem gof4 {κ : Nat} (l : List UInt8) (c : WordsCmd) (h : goP κ false (partsP 4) l (zeroC 4) = some c) : c.kind = 4 ∧ onlyC 4 c = c ∧ GF l c := by
  unfold partsP zeroC at h
  simp only [goP, rdP] at h
  have hl0 := cut_len l
  generalize cutM l = q0 at h hl0
  obtain ⟨a0, l1, m0⟩ := q0
  simp only at h hl0
  have hu0 := u_fit a0
  generalize uR a0 = u0 at hu0 h
  obtain ⟨x0, d0⟩ := u0
  simp only at hu0 h
  cases d0
  · cases h
  try simp only [bif_t, bif_f] at h
  cases m0
  · first | (cases h; done) | (simp only [bif_f, isW, List.isEmpty_cons, Bool.and_false, Bool.false_and, Bool.and_self] at h; cases h; done)
  try simp only [bif_t] at h
  generalize decide (l1 = [99, 111, 110, 102, 105, 114, 109]) = d1 at h
  cases d1
  · cases h
  try simp only [bif_t, bif_f] at h
  cases h
  exact ⟨rfl, rfl, ⟨zfit, zfit, zfit, (Nat.zero_le _), (Nat.zero_le _), (fun x hx => by cases hx)⟩⟩
theorem prt5 {κ : Nat} (hκ : 40000 ≤ κ) (c : WordsCmd) (hF : FitC c) {ws : List (List UInt8)} (h : wordsOf 5 c.who c.way c.value c.n c.running c.asBytes c.port c.flow c.size c.data = some ws) : words_parse κ 5 (B (Lib.join ws [32])) = some (resP 5 (some (onlyC 5 c))) ∧ Lib.join ws [32] ≠ [] ∧ kd (Lib.join ws [32]) = 5 := by
  have hrt := rt5 hκ c hF.f h
  unfold wordsOf at h
  simp only at h
  cases h0 : whoOk c.who
  · rw [h0] at h; cases h
  rw [h0] at h; simp only [bif_t] at h
  cases h
  have := hF.d
  have := who_len c.who
  have hc0 := fun X => cut_some (a := whoL c.who) X (who_free _)
  have hc1 := cut_none (a := [99, 97, 110, 99, 101, 108]) (by decide)
  refine ⟨?_, ?_, ?_⟩
  · rw [parse5 hκ _ (Nat.le_trans (lensum _) (by simp only [ln0, ln1, lc, l0]; omega)), hrt]
  · rw [j2]; intro e; exact num_ne _ (List.append_eq_nil_iff.1 e).1
  · unfold kd
    simp only [j1, j2, hc0, hc1, who_ne c.who _ _ (by decide : 57 < (112 : UInt8).toNat), who_ne c.who _ _ (by decide : 57 < (116 : UInt8).toNat), who_ne c.who _ _ (by decide : 57 < (110 : UInt8).toNat), who_ne c.who _ _ (by decide : 57 < (100 : UInt8).toNat), bif_f]
    try rfl
theorem len5 (c : WordsCmd) (hF : FitC c) {ws : List (List UInt8)} (h : wordsOf 5 c.who c.way c.value c.n c.running c.asBytes c.port c.flow c.size c.data = some ws) : (Lib.join ws [32]).length ≤ 140737488353000 := by
  unfold wordsOf at h
  simp only at h
  cases h0 : whoOk c.who
  · rw [h0] at h; cases h
  rw [h0] at h; simp only [bif_t] at h
  cases h
  have := hF.d
  have := who_len c.who
  exact Nat.le_trans (lensum _) (by simp only [ln0, ln1, lc, l0]; omega)
theorem swap5 (c : WordsCmd) {ws : List (List UInt8)} (h : wordsOf 5 c.who c.way c.value c.n c.running c.asBytes c.port c.flow c.size c.data = some ws) : whoOk c.who = true ∧ ∃ a r, ws = whoL c.who :: a :: r ∧ ∀ n, whoOk n = true → wordsOf 5 n c.way c.value c.n c.running c.asBytes c.port c.flow c.size c.data = some (whoL n :: a :: r) := by
  unfold wordsOf at h
  simp only at h
  cases h0 : whoOk c.who
  · rw [h0] at h; cases h
  rw [h0] at h; simp only [bif_t] at h
  cases h
  refine ⟨rfl, _, _, rfl, fun n hn => ?_⟩
  unfold wordsOf
  simp only [hn, bif_t, bif_f]
theorem gof5 {κ : Nat} (l : List UInt8) (c : WordsCmd) (h : goP κ false (partsP 5) l (zeroC 5) = some c) : c.kind = 5 ∧ onlyC 5 c = c ∧ GF l c := by
  unfold partsP zeroC at h
  simp only [goP, rdP] at h
  have hl0 := cut_len l
  generalize cutM l = q0 at h hl0
  obtain ⟨a0, l1, m0⟩ := q0
  simp only at h hl0
  have hu0 := u_fit a0
  generalize uR a0 = u0 at hu0 h
  obtain ⟨x0, d0⟩ := u0
  simp only at hu0 h
  cases d0
  · cases h
  try simp only [bif_t, bif_f] at h
  cases m0
  · first | (cases h; done) | (simp only [bif_f, isW, List.isEmpty_cons, Bool.and_false, Bool.false_and, Bool.and_self] at h; cases h; done)
  try simp only [bif_t] at h
  generalize decide (l1 = [99, 97, 110, 99, 101, 108]) = d1 at h
  cases d1
  · cases h
  try simp only [bif_t, bif_f] at h
  cases h
  exact ⟨rfl, rfl, ⟨zfit, zfit, zfit, (Nat.zero_le _), (Nat.zero_le _), (fun x hx => by cases hx)⟩⟩
theorem prt6 {κ : Nat} (hκ : 40000 ≤ κ) (c : WordsCmd) (hF : FitC c) {ws : List (List UInt8)} (h : wordsOf 6 c.who c.way c.value c.n c.running c.asBytes c.port c.flow c.size c.data = some ws) : words_parse κ 6 (B (Lib.join ws [32])) = some (resP 6 (some (onlyC 6 c))) ∧ Lib.join ws [32] ≠ [] ∧ kd (Lib.join ws [32]) = 6 := by
  have hrt := rt6 hκ c hF.f h
  unfold wordsOf at h
  simp only at h
  cases h0 : whoOk c.who
  · rw [h0] at h; cases h
  rw [h0] at h; simp only [bif_t] at h
  cases h
  have := hF.d
  have := who_len c.who
  have hc0 := fun X => cut_some (a := whoL c.who) X (who_free _)
  have hc1 := cut_none (a := [115, 97, 118, 101]) (by decide)
  refine ⟨?_, ?_, ?_⟩
  · rw [parse6 hκ _ (Nat.le_trans (lensum _) (by simp only [ln0, ln1, lc, l0]; omega)), hrt]
  · rw [j2]; intro e; exact num_ne _ (List.append_eq_nil_iff.1 e).1
  · unfold kd
    simp only [j1, j2, hc0, hc1, who_ne c.who _ _ (by decide : 57 < (112 : UInt8).toNat), who_ne c.who _ _ (by decide : 57 < (116 : UInt8).toNat), who_ne c.who _ _ (by decide : 57 < (110 : UInt8).toNat), who_ne c.who _ _ (by decide : 57 < (100 : UInt8).toNat), bif_f]
    try rfl
theorem len6 (c : WordsCmd) (hF : FitC c) {ws : List (List UInt8)} (h : wordsOf 6 c.who c.way c.value c.n c.running c.asBytes c.port c.flow c.size c.data = some ws) : (Lib.join ws [32]).length ≤ 140737488353000 := by
  unfold wordsOf at h
  simp only at h
  cases h0 : whoOk c.who
  · rw [h0] at h; cases h
  rw [h0] at h; simp only [bif_t] at h
  cases h
  have := hF.d
  have := who_len c.who
  exact Nat.le_trans (lensum _) (by simp only [ln0, ln1, lc, l0]; omega)
theorem swap6 (c : WordsCmd) {ws : List (List UInt8)} (h : wordsOf 6 c.who c.way c.value c.n c.running c.asBytes c.port c.flow c.size c.data = some ws) : whoOk c.who = true ∧ ∃ a r, ws = whoL c.who :: a :: r ∧ ∀ n, whoOk n = true → wordsOf 6 n c.way c.value c.n c.running c.asBytes c.port c.flow c.size c.data = some (whoL n :: a :: r) := by
  unfold wordsOf at h
  simp only at h
  cases h0 : whoOk c.who
  · rw [h0] at h; cases h
  rw [h0] at h; simp only [bif_t] at h
  cases h
  refine ⟨rfl, _, _, rfl, fun n hn => ?_⟩
  unfold wordsOf
  simp only [hn, bif_t, bif_f]
theorem gof6 {κ : Nat} (l : List UInt8) (c : WordsCmd) (h : goP κ false (partsP 6) l (zeroC 6) = some c) : c.kind = 6 ∧ onlyC 6 c = c ∧ GF l c := by
  unfold partsP zeroC at h
  simp only [goP, rdP] at h
  have hl0 := cut_len l
  generalize cutM l = q0 at h hl0
  obtain ⟨a0, l1, m0⟩ := q0
  simp only at h hl0
  have hu0 := u_fit a0
  generalize uR a0 = u0 at hu0 h
  obtain ⟨x0, d0⟩ := u0
  simp only at hu0 h
  cases d0
  · cases h
  try simp only [bif_t, bif_f] at h
  cases m0
  · first | (cases h; done) | (simp only [bif_f, isW, List.isEmpty_cons, Bool.and_false, Bool.false_and, Bool.and_self] at h; cases h; done)
  try simp only [bif_t] at h
  generalize decide (l1 = [115, 97, 118, 101]) = d1 at h
  cases d1
  · cases h
  try simp only [bif_t, bif_f] at h
  cases h
  exact ⟨rfl, rfl, ⟨zfit, zfit, zfit, (Nat.zero_le _), (Nat.zero_le _), (fun x hx => by cases hx)⟩⟩
theorem prt7 {κ : Nat} (hκ : 40000 ≤ κ) (c : WordsCmd) (hF : FitC c) {ws : List (List UInt8)} (h : wordsOf 7 c.who c.way c.value c.n c.running c.asBytes c.port c.flow c.size c.data = some ws) : words_parse κ 7 (B (Lib.join ws [32])) = some (resP 7 (some (onlyC 7 c))) ∧ Lib.join ws [32] ≠ [] ∧ kd (Lib.join ws [32]) = 7 := by
  have hrt := rt7 hκ c hF.f h
  unfold wordsOf at h
  simp only at h
  cases h0 : whoOk c.who
  · rw [h0] at h; cases h
  rw [h0] at h; simp only [bif_t] at h
  cases h1 : wayOk c.way
  · rw [h1] at h; cases h
  rw [h1] at h; simp only [bif_t] at h
  cases h2 : Lex5.plainB c.value.data.toList
  · rw [h2] at h; cases h
  rw [h2] at h; simp only [bif_t] at h
  cases h
  have := hF.d
  have := who_len c.who
  have := way_len c.way
  have : c.value.data.toList.length ≤ 140737488351232 := hF.f.hval
  have hc0 := fun X => cut_some (a := whoL c.who) X (who_free _)
  have hc1 := fun X => cut_some (a := [115, 101, 116]) X (by decide)
  have hc2 := fun X => cut_some (a := wayL c.way) X (way_free _)
  refine ⟨?_, ?_, ?_⟩
  · rw [parse7 hκ _ (Nat.le_trans (lensum _) (by simp only [ln0, ln1, lc, l0]; omega)) (by simp only [j2, hc0]; omega) (by simp only [j1, j2, hc0, hc1, hc2]; omega) (by simp only [j1, j2, hc0, hc1, hc2]; omega), hrt]
  · rw [j2]; intro e; exact num_ne _ (List.append_eq_nil_iff.1 e).1
  · unfold kd
    simp only [j1, j2, hc0, hc1, hc2, who_ne c.who _ _ (by decide : 57 < (112 : UInt8).toNat), who_ne c.who _ _ (by decide : 57 < (116 : UInt8).toNat), who_ne c.who _ _ (by decide : 57 < (110 : UInt8).toNat), who_ne c.who _ _ (by decide : 57 < (100 : UInt8).toNat), bif_f]
    try rfl
theorem len7 (c : WordsCmd) (hF : FitC c) {ws : List (List UInt8)} (h : wordsOf 7 c.who c.way c.value c.n c.running c.asBytes c.port c.flow c.size c.data = some ws) : (Lib.join ws [32]).length ≤ 140737488353000 := by
  unfold wordsOf at h
  simp only at h
  cases h0 : whoOk c.who
  · rw [h0] at h; cases h
  rw [h0] at h; simp only [bif_t] at h
  cases h1 : wayOk c.way
  · rw [h1] at h; cases h
  rw [h1] at h; simp only [bif_t] at h
  cases h2 : Lex5.plainB c.value.data.toList
  · rw [h2] at h; cases h
  rw [h2] at h; simp only [bif_t] at h
  cases h
  have := hF.d
  have := who_len c.who
  have := way_len c.way
  have : c.value.data.toList.length ≤ 140737488351232 := hF.f.hval
  exact Nat.le_trans (lensum _) (by simp only [ln0, ln1, lc, l0]; omega)
theorem swap7 (c : WordsCmd) {ws : List (List UInt8)} (h : wordsOf 7 c.who c.way c.value c.n c.running c.asBytes c.port c.flow c.size c.data = some ws) : whoOk c.who = true ∧ ∃ a r, ws = whoL c.who :: a :: r ∧ ∀ n, whoOk n = true → wordsOf 7 n c.way c.value c.n c.running c.asBytes c.port c.flow c.size c.data = some (whoL n :: a :: r) := by
  unfold wordsOf at h
  simp only at h
  cases h0 : whoOk c.who
  · rw [h0] at h; cases h
  rw [h0] at h; simp only [bif_t] at h
  cases h1 : wayOk c.way
  · rw [h1] at h; cases h
  rw [h1] at h; simp only [bif_t] at h
  cases h2 : Lex5.plainB c.value.data.toList
  · rw [h2] at h; cases h
  rw [h2] at h; simp only [bif_t] at h
  cases h
  refine ⟨rfl, _, _, rfl, fun n hn => ?_⟩
  unfold wordsOf
  simp only [hn, h1, h2, bif_t, bif_f]
theorem gof7 {κ : Nat} (l : List UInt8) (c : WordsCmd) (h : goP κ false (partsP 7) l (zeroC 7) = some c) : c.kind = 7 ∧ onlyC 7 c = c ∧ GF l c := by
  unfold partsP zeroC at h
  simp only [goP, rdP] at h
  have hl0 := cut_len l
  generalize cutM l = q0 at h hl0
  obtain ⟨a0, l1, m0⟩ := q0
  simp only at h hl0
  have hu0 := u_fit a0
  generalize uR a0 = u0 at hu0 h
  obtain ⟨x0, d0⟩ := u0
  simp only at hu0 h
  cases d0
  · cases h
  try simp only [bif_t, bif_f] at h
  cases m0
  · first | (cases h; done) | (simp only [bif_f, isW, List.isEmpty_cons, Bool.and_false, Bool.false_and, Bool.and_self] at h; cases h; done)
  try simp only [bif_t] at h
  have hl1 := cut_len l1
  generalize cutM l1 = q1 at h hl1
  obtain ⟨a1, l2, m1⟩ := q1
  simp only at h hl1
  generalize decide (a1 = [115, 101, 116]) = d1 at h
  cases d1
  · cases h
  try simp only [bif_t, bif_f] at h
  cases m1
  · first | (cases h; done) | (simp only [bif_f, isW, List.isEmpty_cons, Bool.and_false, Bool.false_and, Bool.and_self] at h; cases h; done)
  try simp only [bif_t] at h
  have hl2 := cut_len l2
  generalize cutM l2 = q2 at h hl2
  obtain ⟨a2, l3, m2⟩ := q2
  simp only at h hl2
  generalize ((parV κ a2).1 == 0) = d2 at h
  cases d2
  · cases h
  try simp only [bif_t, bif_f] at h
  cases m2
  · first | (cases h; done) | (simp only [bif_f, isW, List.isEmpty_cons, Bool.and_false, Bool.false_and, Bool.and_self] at h; cases h; done)
  try simp only [bif_t] at h
  try simp only [bif_t, bif_f] at h
  cases h
  exact ⟨rfl, rfl, ⟨zfit, zfit, zfit, (by simp only [B_size]; omega), (Nat.zero_le _), (fun x hx => by cases hx)⟩⟩
theorem prt8 {κ : Nat} (hκ : 40000 ≤ κ) (c : WordsCmd) (hF : FitC c) {ws : List (List UInt8)} (h : wordsOf 8 c.who c.way c.value c.n c.running c.asBytes c.port c.flow c.size c.data = some ws) : words_parse κ 8 (B (Lib.join ws [32])) = some (resP 8 (some (onlyC 8 c))) ∧ Lib.join ws [32] ≠ [] ∧ kd (Lib.join ws [32]) = 8 := by
  have hrt := rt8 hκ c hF.f h
  unfold wordsOf at h
  simp only at h
  cases h0 : whoOk c.who
  · rw [h0] at h; cases h
  rw [h0] at h; simp only [bif_t] at h
  cases h1 : wayOk c.way
  · rw [h1] at h; cases h
  rw [h1] at h; simp only [bif_t] at h
  cases h
  have := hF.d
  have := who_len c.who
  have := way_len c.way
  have hc0 := fun X => cut_some (a := whoL c.who) X (who_free _)
  have hc1 := fun X => cut_some (a := [100, 101, 108]) X (by decide)
  refine ⟨?_, ?_, ?_⟩
  · rw [parse8 hκ _ (Nat.le_trans (lensum _) (by simp only [ln0, ln1, lc, l0]; omega)), hrt]
  · rw [j2]; intro e; exact num_ne _ (List.append_eq_nil_iff.1 e).1
  · unfold kd
    simp only [j1, j2, hc0, hc1, who_ne c.who _ _ (by decide : 57 < (112 : UInt8).toNat), who_ne c.who _ _ (by decide : 57 < (116 : UInt8).toNat), who_ne c.who _ _ (by decide : 57 < (110 : UInt8).toNat), who_ne c.who _ _ (by decide : 57 < (100 : UInt8).toNat), bif_f]
    try rfl
theorem len8 (c : WordsCmd) (hF : FitC c) {ws : List (List UInt8)} (h : wordsOf 8 c.who c.way c.value c.n c.running c.asBytes c.port c.flow c.size c.data = some ws) : (Lib.join ws [32]).length ≤ 140737488353000 := by
  unfold wordsOf at h
  simp only at h
  cases h0 : whoOk c.who
  · rw [h0] at h; cases h
  rw [h0] at h; simp only [bif_t] at h
  cases h1 : wayOk c.way
  · rw [h1] at h; cases h
  rw [h1] at h; simp only [bif_t] at h
  cases h
  have := hF.d
  have := who_len c.who
  have := way_len c.way
  exact Nat.le_trans (lensum _) (by simp only [ln0, ln1, lc, l0]; omega)
theorem swap8 (c : WordsCmd) {ws : List (List UInt8)} (h : wordsOf 8 c.who c.way c.value c.n c.running c.asBytes c.port c.flow c.size c.data = some ws) : whoOk c.who = true ∧ ∃ a r, ws = whoL c.who :: a :: r ∧ ∀ n, whoOk n = true → wordsOf 8 n c.way c.value c.n c.running c.asBytes c.port c.flow c.size c.data = some (whoL n :: a :: r) := by
  unfold wordsOf at h
  simp only at h
  cases h0 : whoOk c.who
  · rw [h0] at h; cases h
  rw [h0] at h; simp only [bif_t] at h
  cases h1 : wayOk c.way
  · rw [h1] at h; cases h
  rw [h1] at h; simp only [bif_t] at h
  cases h
  refine ⟨rfl, _, _, rfl, fun n hn => ?_⟩
  unfold wordsOf
  simp only [hn, h1, bif_t, bif_f]
theorem gof8 {κ : Nat} (l : List UInt8) (c : WordsCmd) (h : goP κ false (partsP 8) l (zeroC 8) = some c) : c.kind = 8 ∧ onlyC 8 c = c ∧ GF l c := by
  unfold partsP zeroC at h
  simp only [goP, rdP] at h
  have hl0 := cut_len l
  generalize cutM l = q0 at h hl0
  obtain ⟨a0, l1, m0⟩ := q0
  simp only at h hl0
  have hu0 := u_fit a0
  generalize uR a0 = u0 at hu0 h
  obtain ⟨x0, d0⟩ := u0
  simp only at hu0 h
  cases d0
  · cases h
  try simp only [bif_t, bif_f] at h
  cases m0
  · first | (cases h; done) | (simp only [bif_f, isW, List.isEmpty_cons, Bool.and_false, Bool.false_and, Bool.and_self] at h; cases h; done)
  try simp only [bif_t] at h
  have hl1 := cut_len l1
  generalize cutM l1 = q1 at h hl1
  obtain ⟨a1, l2, m1⟩ := q1
  simp only at h hl1
  generalize decide (a1 = [100, 101, 108]) = d1 at h
  cases d1
  · cases h
  try simp only [bif_t, bif_f] at h
  cases m1
  · first | (cases h; done) | (simp only [bif_f, isW, List.isEmpty_cons, Bool.and_false, Bool.false_and, Bool.and_self] at h; cases h; done)
  try simp only [bif_t] at h
  generalize ((parV κ l2).1 == 0) = d2 at h
  cases d2
  · cases h
  try simp only [bif_t, bif_f] at h
  cases h
  exact ⟨rfl, rfl, ⟨zfit, zfit, zfit, (Nat.zero_le _), (Nat.zero_le _), (fun x hx => by cases hx)⟩⟩
theorem prt9 {κ : Nat} (hκ : 40000 ≤ κ) (c : WordsCmd) (hF : FitC c) {ws : List (List UInt8)} (h : wordsOf 9 c.who c.way c.value c.n c.running c.asBytes c.port c.flow c.size c.data = some ws) : words_parse κ 9 (B (Lib.join ws [32])) = some (resP 9 (some (onlyC 9 c))) ∧ Lib.join ws [32] ≠ [] ∧ kd (Lib.join ws [32]) = 9 := by
  have hrt := rt9 hκ c hF.f h
  unfold wordsOf at h
  simp only at h
  cases h0 : whoOk c.who
  · rw [h0] at h; cases h
  rw [h0] at h; simp only [bif_t] at h
  by_cases hn : 0 < c.n
  · rw [decide_eq_true hn] at h; simp only [bif_t] at h
    cases h
    have := hF.d
    have := who_len c.who
    have := num_len hF.f.hn
    have hc0 := fun X => cut_some (a := whoL c.who) X (who_free _)
    have hc1 := fun X => cut_some (a := [99, 111, 109, 109, 105, 116]) X (by decide)
    refine ⟨?_, ?_, ?_⟩
    · rw [parse9 hκ _ (Nat.le_trans (lensum _) (by simp only [ln0, ln1, lc, l0]; omega)), hrt]
    · rw [j2]; intro e; exact num_ne _ (List.append_eq_nil_iff.1 e).1
    · unfold kd
      simp only [j1, j2, hc0, hc1, who_ne c.who _ _ (by decide : 57 < (112 : UInt8).toNat), who_ne c.who _ _ (by decide : 57 < (116 : UInt8).toNat), who_ne c.who _ _ (by decide : 57 < (110 : UInt8).toNat), who_ne c.who _ _ (by decide : 57 < (100 : UInt8).toNat), bif_f]
      try rfl
  · rw [decide_eq_false hn] at h; simp only [bif_f] at h
    cases h
    have := hF.d
    have := who_len c.who
    have := num_len hF.f.hn
    have hc0 := fun X => cut_some (a := whoL c.who) X (who_free _)
    have hc1 := cut_none (a := [99, 111, 109, 109, 105, 116]) (by decide)
    refine ⟨?_, ?_, ?_⟩
    · rw [parse9 hκ _ (Nat.le_trans (lensum _) (by simp only [ln0, ln1, lc, l0]; omega)), hrt]
    · rw [j2]; intro e; exact num_ne _ (List.append_eq_nil_iff.1 e).1
    · unfold kd
      simp only [j1, j2, hc0, hc1, who_ne c.who _ _ (by decide : 57 < (112 : UInt8).toNat), who_ne c.who _ _ (by decide : 57 < (116 : UInt8).toNat), who_ne c.who _ _ (by decide : 57 < (110 : UInt8).toNat), who_ne c.who _ _ (by decide : 57 < (100 : UInt8).toNat), bif_f]
      try rfl
theorem len9 (c : WordsCmd) (hF : FitC c) {ws : List (List UInt8)} (h : wordsOf 9 c.who c.way c.value c.n c.running c.asBytes c.port c.flow c.size c.data = some ws) : (Lib.join ws [32]).length ≤ 140737488353000 := by
  unfold wordsOf at h
  simp only at h
  cases h0 : whoOk c.who
  · rw [h0] at h; cases h
  rw [h0] at h; simp only [bif_t] at h
  by_cases hn : 0 < c.n
  · rw [decide_eq_true hn] at h; simp only [bif_t] at h
    cases h
    have := hF.d
    have := who_len c.who
    have := num_len hF.f.hn
    exact Nat.le_trans (lensum _) (by simp only [ln0, ln1, lc, l0]; omega)
  · rw [decide_eq_false hn] at h; simp only [bif_f] at h
    cases h
    have := hF.d
    have := who_len c.who
    have := num_len hF.f.hn
    exact Nat.le_trans (lensum _) (by simp only [ln0, ln1, lc, l0]; omega)
theorem swap9 (c : WordsCmd) {ws : List (List UInt8)} (h : wordsOf 9 c.who c.way c.value c.n c.running c.asBytes c.port c.flow c.size c.data = some ws) : whoOk c.who = true ∧ ∃ a r, ws = whoL c.who :: a :: r ∧ ∀ n, whoOk n = true → wordsOf 9 n c.way c.value c.n c.running c.asBytes c.port c.flow c.size c.data = some (whoL n :: a :: r) := by
  unfold wordsOf at h
  simp only at h
  cases h0 : whoOk c.who
  · rw [h0] at h; cases h
  rw [h0] at h; simp only [bif_t] at h
  by_cases hz : 0 < c.n
  · rw [decide_eq_true hz] at h; simp only [bif_t] at h
    cases h
    refine ⟨rfl, _, _, rfl, fun n hn => ?_⟩
    unfold wordsOf
    simp only [hn, hz, decide_true, bif_t, bif_f]
  · rw [decide_eq_false hz] at h; simp only [bif_f] at h
    cases h
    refine ⟨rfl, _, _, rfl, fun n hn => ?_⟩
    unfold wordsOf
    simp only [hn, hz, decide_false, bif_t, bif_f]
theorem gof9 {κ : Nat} (l : List UInt8) (c : WordsCmd) (h : goP κ true (partsP 9) l (zeroC 9) = some c) : c.kind = 9 ∧ onlyC 9 c = c ∧ GF l c := by
  unfold partsP zeroC at h
  simp only [goP, rdP] at h
  have hl0 := cut_len l
  generalize cutM l = q0 at h hl0
  obtain ⟨a0, l1, m0⟩ := q0
  simp only at h hl0
  have hu0 := u_fit a0
  generalize uR a0 = u0 at hu0 h
  obtain ⟨x0, d0⟩ := u0
  simp only at hu0 h
  cases d0
  · cases h
  try simp only [bif_t, bif_f] at h
  cases m0
  · first | (cases h; done) | (simp only [bif_f, isW, List.isEmpty_cons, Bool.and_false, Bool.false_and, Bool.and_self] at h; cases h; done)
  try simp only [bif_t] at h
  have hl1 := cut_len l1
  generalize cutM l1 = q1 at h hl1
  obtain ⟨a1, l2, m1⟩ := q1
  simp only at h hl1
  generalize decide (a1 = [99, 111, 109, 109, 105, 116]) = d1 at h
  cases d1
  · cases h
  try simp only [bif_t, bif_f] at h
  cases m1
  · simp only [bif_f, isW, List.isEmpty_nil, Bool.and_self, bif_t] at h
    cases h
    exact ⟨rfl, rfl, ⟨zfit, zfit, zfit, (Nat.zero_le _), (Nat.zero_le _), (fun x hx => by cases hx)⟩⟩
  try simp only [bif_t] at h
  have hu2 := u_fit l2
  generalize ((uR l2).2 && decide ((uR l2).1 > 0)) = d2 at h
  cases d2
  · cases h
  try simp only [bif_t, bif_f] at h
  cases h
  exact ⟨rfl, rfl, ⟨hu2, zfit, zfit, (Nat.zero_le _), (Nat.zero_le _), (fun x hx => by cases hx)⟩⟩
theorem prt10 {κ : Nat} (hκ : 40000 ≤ κ) (c : WordsCmd) (hF : FitC c) {ws : List (List UInt8)} (h : wordsOf 10 c.who c.way c.value c.n c.running c.asBytes c.port c.flow c.size c.data = some ws) : words_parse κ 10 (B (Lib.join ws [32])) = some (resP 10 (some (onlyC 10 c))) ∧ Lib.join ws [32] ≠ [] ∧ kd (Lib.join ws [32]) = 10 := by
  have hrt := rt10 hκ c hF.f h
  unfold wordsOf at h
  simp only at h
  cases h0 : whoOk c.who
  · rw [h0] at h; cases h
  rw [h0] at h; simp only [bif_t] at h
  cases h
  have := hF.d
  have := who_len c.who
  have := num_len hF.f.hn
  have hc0 := fun X => cut_some (a := whoL c.who) X (who_free _)
  have hc1 := fun X => cut_some (a := [114, 111, 108, 108, 98, 97, 99, 107]) X (by decide)
  refine ⟨?_, ?_, ?_⟩
  · rw [parse10 hκ _ (Nat.le_trans (lensum _) (by simp only [ln0, ln1, lc, l0]; omega)), hrt]
  · rw [j2]; intro e; exact num_ne _ (List.append_eq_nil_iff.1 e).1
  · unfold kd
    simp only [j1, j2, hc0, hc1, who_ne c.who _ _ (by decide : 57 < (112 : UInt8).toNat), who_ne c.who _ _ (by decide : 57 < (116 : UInt8).toNat), who_ne c.who _ _ (by decide : 57 < (110 : UInt8).toNat), who_ne c.who _ _ (by decide : 57 < (100 : UInt8).toNat), bif_f]
    try rfl
theorem len10 (c : WordsCmd) (hF : FitC c) {ws : List (List UInt8)} (h : wordsOf 10 c.who c.way c.value c.n c.running c.asBytes c.port c.flow c.size c.data = some ws) : (Lib.join ws [32]).length ≤ 140737488353000 := by
  unfold wordsOf at h
  simp only at h
  cases h0 : whoOk c.who
  · rw [h0] at h; cases h
  rw [h0] at h; simp only [bif_t] at h
  cases h
  have := hF.d
  have := who_len c.who
  have := num_len hF.f.hn
  exact Nat.le_trans (lensum _) (by simp only [ln0, ln1, lc, l0]; omega)
theorem swap10 (c : WordsCmd) {ws : List (List UInt8)} (h : wordsOf 10 c.who c.way c.value c.n c.running c.asBytes c.port c.flow c.size c.data = some ws) : whoOk c.who = true ∧ ∃ a r, ws = whoL c.who :: a :: r ∧ ∀ n, whoOk n = true → wordsOf 10 n c.way c.value c.n c.running c.asBytes c.port c.flow c.size c.data = some (whoL n :: a :: r) := by
  unfold wordsOf at h
  simp only at h
  cases h0 : whoOk c.who
  · rw [h0] at h; cases h
  rw [h0] at h; simp only [bif_t] at h
  cases h
  refine ⟨rfl, _, _, rfl, fun n hn => ?_⟩
  unfold wordsOf
  simp only [hn, bif_t, bif_f]
theorem gof10 {κ : Nat} (l : List UInt8) (c : WordsCmd) (h : goP κ false (partsP 10) l (zeroC 10) = some c) : c.kind = 10 ∧ onlyC 10 c = c ∧ GF l c := by
  unfold partsP zeroC at h
  simp only [goP, rdP] at h
  have hl0 := cut_len l
  generalize cutM l = q0 at h hl0
  obtain ⟨a0, l1, m0⟩ := q0
  simp only at h hl0
  have hu0 := u_fit a0
  generalize uR a0 = u0 at hu0 h
  obtain ⟨x0, d0⟩ := u0
  simp only at hu0 h
  cases d0
  · cases h
  try simp only [bif_t, bif_f] at h
  cases m0
  · first | (cases h; done) | (simp only [bif_f, isW, List.isEmpty_cons, Bool.and_false, Bool.false_and, Bool.and_self] at h; cases h; done)
  try simp only [bif_t] at h
  have hl1 := cut_len l1
  generalize cutM l1 = q1 at h hl1
  obtain ⟨a1, l2, m1⟩ := q1
  simp only at h hl1
  generalize decide (a1 = [114, 111, 108, 108, 98, 97, 99, 107]) = d1 at h
  cases d1
  · cases h
  try simp only [bif_t, bif_f] at h
  cases m1
  · first | (cases h; done) | (simp only [bif_f, isW, List.isEmpty_cons, Bool.and_false, Bool.false_and, Bool.and_self] at h; cases h; done)
  try simp only [bif_t] at h
  have hu2 := u_fit l2
  generalize uR l2 = u2 at hu2 h
  obtain ⟨x2, d2⟩ := u2
  simp only at hu2 h
  cases d2
  · cases h
  try simp only [bif_t, bif_f] at h
  cases h
  exact ⟨rfl, rfl, ⟨hu2, zfit, zfit, (Nat.zero_le _), (Nat.zero_le _), (fun x hx => by cases hx)⟩⟩
theorem prt11 {κ : Nat} (hκ : 40000 ≤ κ) (c : WordsCmd) (hF : FitC c) {ws : List (List UInt8)} (h : wordsOf 11 c.who c.way c.value c.n c.running c.asBytes c.port c.flow c.size c.data = some ws) : words_parse κ 11 (B (Lib.join ws [32])) = some (resP 11 (some (onlyC 11 c))) ∧ Lib.join ws [32] ≠ [] ∧ kd (Lib.join ws [32]) = 11 := by
  have hrt := rt11 hκ c hF.f h
  unfold wordsOf at h
  simp only at h
  cases h0 : whoOk c.who
  · rw [h0] at h; cases h
  rw [h0] at h; simp only [bif_t] at h
  cases h
  have := hF.d
  have := who_len c.who
  have := num_len hF.f.hn
  have hc0 := fun X => cut_some (a := whoL c.who) X (who_free _)
  have hc1 := fun X => cut_some (a := [112, 114, 117, 110, 101]) X (by decide)
  refine ⟨?_, ?_, ?_⟩
  · rw [parse11 hκ _ (Nat.le_trans (lensum _) (by simp only [ln0, ln1, lc, l0]; omega)), hrt]
  · rw [j2]; intro e; exact num_ne _ (List.append_eq_nil_iff.1 e).1
  · unfold kd
    simp only [j1, j2, hc0, hc1, who_ne c.who _ _ (by decide : 57 < (112 : UInt8).toNat), who_ne c.who _ _ (by decide : 57 < (116 : UInt8).toNat), who_ne c.who _ _ (by decide : 57 < (110 : UInt8).toNat), who_ne c.who _ _ (by decide : 57 < (100 : UInt8).toNat), bif_f]
    try rfl
theorem len11 (c : WordsCmd) (hF : FitC c) {ws : List (List UInt8)} (h : wordsOf 11 c.who c.way c.value c.n c.running c.asBytes c.port c.flow c.size c.data = some ws) : (Lib.join ws [32]).length ≤ 140737488353000 := by
  unfold wordsOf at h
  simp only at h
  cases h0 : whoOk c.who
  · rw [h0] at h; cases h
  rw [h0] at h; simp only [bif_t] at h
  cases h
  have := hF.d
  have := who_len c.who
  have := num_len hF.f.hn
  exact Nat.le_trans (lensum _) (by simp only [ln0, ln1, lc, l0]; omega)
theorem swap11 (c : WordsCmd) {ws : List (List UInt8)} (h : wordsOf 11 c.who c.way c.value c.n c.running c.asBytes c.port c.flow c.size c.data = some ws) : whoOk c.who = true ∧ ∃ a r, ws = whoL c.who :: a :: r ∧ ∀ n, whoOk n = true → wordsOf 11 n c.way c.value c.n c.running c.asBytes c.port c.flow c.size c.data = some (whoL n :: a :: r) := by
  unfold wordsOf at h
  simp only at h
  cases h0 : whoOk c.who
  · rw [h0] at h; cases h
  rw [h0] at h; simp only [bif_t] at h
  cases h
  refine ⟨rfl, _, _, rfl, fun n hn => ?_⟩
  unfold wordsOf
  simp only [hn, bif_t, bif_f]
theorem gof11 {κ : Nat} (l : List UInt8) (c : WordsCmd) (h : goP κ false (partsP 11) l (zeroC 11) = some c) : c.kind = 11 ∧ onlyC 11 c = c ∧ GF l c := by
  unfold partsP zeroC at h
  simp only [goP, rdP] at h
  have hl0 := cut_len l
  generalize cutM l = q0 at h hl0
  obtain ⟨a0, l1, m0⟩ := q0
  simp only at h hl0
  have hu0 := u_fit a0
  generalize uR a0 = u0 at hu0 h
  obtain ⟨x0, d0⟩ := u0
  simp only at hu0 h
  cases d0
  · cases h
  try simp only [bif_t, bif_f] at h
  cases m0
  · first | (cases h; done) | (simp only [bif_f, isW, List.isEmpty_cons, Bool.and_false, Bool.false_and, Bool.and_self] at h; cases h; done)
  try simp only [bif_t] at h
  have hl1 := cut_len l1
  generalize cutM l1 = q1 at h hl1
  obtain ⟨a1, l2, m1⟩ := q1
  simp only at h hl1
  generalize decide (a1 = [112, 114, 117, 110, 101]) = d1 at h
  cases d1
  · cases h
  try simp only [bif_t, bif_f] at h
  cases m1
  · first | (cases h; done) | (simp only [bif_f, isW, List.isEmpty_cons, Bool.and_false, Bool.false_and, Bool.and_self] at h; cases h; done)
  try simp only [bif_t] at h
  have hu2 := u_fit l2
  generalize uR l2 = u2 at hu2 h
  obtain ⟨x2, d2⟩ := u2
  simp only at hu2 h
  cases d2
  · cases h
  try simp only [bif_t, bif_f] at h
  cases h
  exact ⟨rfl, rfl, ⟨hu2, zfit, zfit, (Nat.zero_le _), (Nat.zero_le _), (fun x hx => by cases hx)⟩⟩
theorem prt12 {κ : Nat} (hκ : 40000 ≤ κ) (c : WordsCmd) (hF : FitC c) {ws : List (List UInt8)} (h : wordsOf 12 c.who c.way c.value c.n c.running c.asBytes c.port c.flow c.size c.data = some ws) : words_parse κ 12 (B (Lib.join ws [32])) = some (resP 12 (some (onlyC 12 c))) ∧ Lib.join ws [32] ≠ [] ∧ kd (Lib.join ws [32]) = 12 := by
  have hrt := rt12 hκ c hF.f h
  unfold wordsOf at h
  simp only at h
  cases h0 : whoOk c.who
  · rw [h0] at h; cases h
  rw [h0] at h; simp only [bif_t] at h
  cases h
  have := hF.d
  have := who_len c.who
  have := store_len c.running
  have := form_len c.asBytes
  have := num_len hF.f.hn
  have hc0 := fun X => cut_some (a := whoL c.who) X (who_free _)
  have hc1 := fun X => cut_some (a := [115, 104, 111, 119]) X (by decide)
  have hc2 := fun X => cut_some (a := storeL c.running) X (store_free _)
  have hc3 := fun X => cut_some (a := formL c.asBytes) X (form_free _)
  refine ⟨?_, ?_, ?_⟩
  · rw [parse12 hκ _ (Nat.le_trans (lensum _) (by simp only [ln0, ln1, lc, l0]; omega)), hrt]
  · rw [j2]; intro e; exact num_ne _ (List.append_eq_nil_iff.1 e).1
  · unfold kd
    simp only [j1, j2, hc0, hc1, hc2, hc3, who_ne c.who _ _ (by decide : 57 < (112 : UInt8).toNat), who_ne c.who _ _ (by decide : 57 < (116 : UInt8).toNat), who_ne c.who _ _ (by decide : 57 < (110 : UInt8).toNat), who_ne c.who _ _ (by decide : 57 < (100 : UInt8).toNat), bif_f]
    try rfl
theorem len12 (c : WordsCmd) (hF : FitC c) {ws : List (List UInt8)} (h : wordsOf 12 c.who c.way c.value c.n c.running c.asBytes c.port c.flow c.size c.data = some ws) : (Lib.join ws [32]).length ≤ 140737488353000 := by
  unfold wordsOf at h
  simp only at h
  cases h0 : whoOk c.who
  · rw [h0] at h; cases h
  rw [h0] at h; simp only [bif_t] at h
  cases h
  have := hF.d
  have := who_len c.who
  have := store_len c.running
  have := form_len c.asBytes
  have := num_len hF.f.hn
  exact Nat.le_trans (lensum _) (by simp only [ln0, ln1, lc, l0]; omega)
theorem swap12 (c : WordsCmd) {ws : List (List UInt8)} (h : wordsOf 12 c.who c.way c.value c.n c.running c.asBytes c.port c.flow c.size c.data = some ws) : whoOk c.who = true ∧ ∃ a r, ws = whoL c.who :: a :: r ∧ ∀ n, whoOk n = true → wordsOf 12 n c.way c.value c.n c.running c.asBytes c.port c.flow c.size c.data = some (whoL n :: a :: r) := by
  unfold wordsOf at h
  simp only at h
  cases h0 : whoOk c.who
  · rw [h0] at h; cases h
  rw [h0] at h; simp only [bif_t] at h
  cases h
  refine ⟨rfl, _, _, rfl, fun n hn => ?_⟩
  unfold wordsOf
  simp only [hn, bif_t, bif_f]
theorem gof12 {κ : Nat} (l : List UInt8) (c : WordsCmd) (h : goP κ false (partsP 12) l (zeroC 12) = some c) : c.kind = 12 ∧ onlyC 12 c = c ∧ GF l c := by
  unfold partsP zeroC at h
  simp only [goP, rdP] at h
  have hl0 := cut_len l
  generalize cutM l = q0 at h hl0
  obtain ⟨a0, l1, m0⟩ := q0
  simp only at h hl0
  have hu0 := u_fit a0
  generalize uR a0 = u0 at hu0 h
  obtain ⟨x0, d0⟩ := u0
  simp only at hu0 h
  cases d0
  · cases h
  try simp only [bif_t, bif_f] at h
  cases m0
  · first | (cases h; done) | (simp only [bif_f, isW, List.isEmpty_cons, Bool.and_false, Bool.false_and, Bool.and_self] at h; cases h; done)
  try simp only [bif_t] at h
  have hl1 := cut_len l1
  generalize cutM l1 = q1 at h hl1
  obtain ⟨a1, l2, m1⟩ := q1
  simp only at h hl1
  generalize decide (a1 = [115, 104, 111, 119]) = d1 at h
  cases d1
  · cases h
  try simp only [bif_t, bif_f] at h
  cases m1
  · first | (cases h; done) | (simp only [bif_f, isW, List.isEmpty_cons, Bool.and_false, Bool.false_and, Bool.and_self] at h; cases h; done)
  try simp only [bif_t] at h
  have hl2 := cut_len l2
  generalize cutM l2 = q2 at h hl2
  obtain ⟨a2, l3, m2⟩ := q2
  simp only at h hl2
  generalize (decide (a2 = [114, 117, 110, 110, 105, 110, 103]) || decide (a2 = [99, 97, 110, 100, 105, 100, 97, 116, 101])) = d2 at h
  cases d2
  · cases h
  try simp only [bif_t, bif_f] at h
  cases m2
  · first | (cases h; done) | (simp only [bif_f, isW, List.isEmpty_cons, Bool.and_false, Bool.false_and, Bool.and_self] at h; cases h; done)
  try simp only [bif_t] at h
  have hl3 := cut_len l3
  generalize cutM l3 = q3 at h hl3
  obtain ⟨a3, l4, m3⟩ := q3
  simp only at h hl3
  generalize (decide (a3 = [98, 121, 116, 101, 115]) || decide (a3 = [116, 101, 120, 116])) = d3 at h
  cases d3
  · cases h
  try simp only [bif_t, bif_f] at h
  cases m3
  · first | (cases h; done) | (simp only [bif_f, isW, List.isEmpty_cons, Bool.and_false, Bool.false_and, Bool.and_self] at h; cases h; done)
  try simp only [bif_t] at h
  have hu4 := u_fit l4
  generalize uR l4 = u4 at hu4 h
  obtain ⟨x4, d4⟩ := u4
  simp only at hu4 h
  cases d4
  · cases h
  try simp only [bif_t, bif_f] at h
  cases h
  exact ⟨rfl, rfl, ⟨hu4, zfit, zfit, (Nat.zero_le _), (Nat.zero_le _), (fun x hx => by cases hx)⟩⟩
theorem prt13 {κ : Nat} (hκ : 40000 ≤ κ) (c : WordsCmd) (hF : FitC c) {ws : List (List UInt8)} (h : wordsOf 13 c.who c.way c.value c.n c.running c.asBytes c.port c.flow c.size c.data = some ws) : words_parse κ 13 (B (Lib.join ws [32])) = some (resP 13 (some (onlyC 13 c))) ∧ Lib.join ws [32] ≠ [] ∧ kd (Lib.join ws [32]) = 13 := by
  have hrt := rt13 hκ c hF.f h
  unfold wordsOf at h
  simp only at h
  cases h0 : whoOk c.who
  · rw [h0] at h; cases h
  rw [h0] at h; simp only [bif_t] at h
  cases h
  have := hF.d
  have := who_len c.who
  have := dat_len c.data
  have hc0 := fun X => cut_some (a := whoL c.who) X (who_free _)
  have hc1 := fun X => cut_some (a := [108, 111, 97, 100]) X (by decide)
  have hc2 := fun X => cut_some (a := [116, 101, 120, 116]) X (by decide)
  refine ⟨?_, ?_, ?_⟩
  · rw [parse13 hκ _ (Nat.le_trans (lensum _) (by simp only [ln0, ln1, lc, l0]; omega)), hrt]
  · rw [j2]; intro e; exact num_ne _ (List.append_eq_nil_iff.1 e).1
  · unfold kd
    simp only [j1, j2, hc0, hc1, hc2, who_ne c.who _ _ (by decide : 57 < (112 : UInt8).toNat), who_ne c.who _ _ (by decide : 57 < (116 : UInt8).toNat), who_ne c.who _ _ (by decide : 57 < (110 : UInt8).toNat), who_ne c.who _ _ (by decide : 57 < (100 : UInt8).toNat), bif_f]
    try rfl
theorem len13 (c : WordsCmd) (hF : FitC c) {ws : List (List UInt8)} (h : wordsOf 13 c.who c.way c.value c.n c.running c.asBytes c.port c.flow c.size c.data = some ws) : (Lib.join ws [32]).length ≤ 140737488353000 := by
  unfold wordsOf at h
  simp only at h
  cases h0 : whoOk c.who
  · rw [h0] at h; cases h
  rw [h0] at h; simp only [bif_t] at h
  cases h
  have := hF.d
  have := who_len c.who
  have := dat_len c.data
  exact Nat.le_trans (lensum _) (by simp only [ln0, ln1, lc, l0]; omega)
theorem swap13 (c : WordsCmd) {ws : List (List UInt8)} (h : wordsOf 13 c.who c.way c.value c.n c.running c.asBytes c.port c.flow c.size c.data = some ws) : whoOk c.who = true ∧ ∃ a r, ws = whoL c.who :: a :: r ∧ ∀ n, whoOk n = true → wordsOf 13 n c.way c.value c.n c.running c.asBytes c.port c.flow c.size c.data = some (whoL n :: a :: r) := by
  unfold wordsOf at h
  simp only at h
  cases h0 : whoOk c.who
  · rw [h0] at h; cases h
  rw [h0] at h; simp only [bif_t] at h
  cases h
  refine ⟨rfl, _, _, rfl, fun n hn => ?_⟩
  unfold wordsOf
  simp only [hn, bif_t, bif_f]
theorem gof13 {κ : Nat} (l : List UInt8) (c : WordsCmd) (h : goP κ false (partsP 13) l (zeroC 13) = some c) : c.kind = 13 ∧ onlyC 13 c = c ∧ GF l c := by
  unfold partsP zeroC at h
  simp only [goP, rdP] at h
  have hl0 := cut_len l
  generalize cutM l = q0 at h hl0
  obtain ⟨a0, l1, m0⟩ := q0
  simp only at h hl0
  have hu0 := u_fit a0
  generalize uR a0 = u0 at hu0 h
  obtain ⟨x0, d0⟩ := u0
  simp only at hu0 h
  cases d0
  · cases h
  try simp only [bif_t, bif_f] at h
  cases m0
  · first | (cases h; done) | (simp only [bif_f, isW, List.isEmpty_cons, Bool.and_false, Bool.false_and, Bool.and_self] at h; cases h; done)
  try simp only [bif_t] at h
  have hl1 := cut_len l1
  generalize cutM l1 = q1 at h hl1
  obtain ⟨a1, l2, m1⟩ := q1
  simp only at h hl1
  generalize decide (a1 = [108, 111, 97, 100]) = d1 at h
  cases d1
  · cases h
  try simp only [bif_t, bif_f] at h
  cases m1
  · first | (cases h; done) | (simp only [bif_f, isW, List.isEmpty_cons, Bool.and_false, Bool.false_and, Bool.and_self] at h; cases h; done)
  try simp only [bif_t] at h
  have hl2 := cut_len l2
  generalize cutM l2 = q2 at h hl2
  obtain ⟨a2, l3, m2⟩ := q2
  simp only at h hl2
  generalize decide (a2 = [116, 101, 120, 116]) = d2 at h
  cases d2
  · cases h
  try simp only [bif_t, bif_f] at h
  cases m2
  · first | (cases h; done) | (simp only [bif_f, isW, List.isEmpty_cons, Bool.and_false, Bool.false_and, Bool.and_self] at h; cases h; done)
  try simp only [bif_t] at h
  try simp only [bif_t, bif_f] at h
  cases h
  exact ⟨rfl, rfl, ⟨zfit, zfit, zfit, (Nat.zero_le _), (by simp only [ints_len]; omega), ints_byt _⟩⟩
theorem prt14 {κ : Nat} (hκ : 40000 ≤ κ) (c : WordsCmd) (hF : FitC c) {ws : List (List UInt8)} (h : wordsOf 14 c.who c.way c.value c.n c.running c.asBytes c.port c.flow c.size c.data = some ws) : words_parse κ 14 (B (Lib.join ws [32])) = some (resP 14 (some (onlyC 14 c))) ∧ Lib.join ws [32] ≠ [] ∧ kd (Lib.join ws [32]) = 14 := by
  have hrt := rt14 hκ c hF.f h
  unfold wordsOf at h
  simp only at h
  cases h0 : whoOk c.who
  · rw [h0] at h; cases h
  rw [h0] at h; simp only [bif_t] at h
  cases h
  have := hF.d
  have := who_len c.who
  have := hexL_len (datL c.data)
  have := dat_len c.data
  have hc0 := fun X => cut_some (a := whoL c.who) X (who_free _)
  have hc1 := fun X => cut_some (a := [108, 111, 97, 100]) X (by decide)
  have hc2 := fun X => cut_some (a := [98, 121, 116, 101, 115]) X (by decide)
  refine ⟨?_, ?_, ?_⟩
  · rw [parse14 hκ _ (Nat.le_trans (lensum _) (by simp only [ln0, ln1, lc, l0]; omega)), hrt]
  · rw [j2]; intro e; exact num_ne _ (List.append_eq_nil_iff.1 e).1
  · unfold kd
    simp only [j1, j2, hc0, hc1, hc2, who_ne c.who _ _ (by decide : 57 < (112 : UInt8).toNat), who_ne c.who _ _ (by decide : 57 < (116 : UInt8).toNat), who_ne c.who _ _ (by decide : 57 < (110 : UInt8).toNat), who_ne c.who _ _ (by decide : 57 < (100 : UInt8).toNat), bif_f]
    try rfl
theorem len14 (c : WordsCmd) (hF : FitC c) {ws : List (List UInt8)} (h : wordsOf 14 c.who c.way c.value c.n c.running c.asBytes c.port c.flow c.size c.data = some ws) : (Lib.join ws [32]).length ≤ 140737488353000 := by
  unfold wordsOf at h
  simp only at h
  cases h0 : whoOk c.who
  · rw [h0] at h; cases h
  rw [h0] at h; simp only [bif_t] at h
  cases h
  have := hF.d
  have := who_len c.who
  have := hexL_len (datL c.data)
  have := dat_len c.data
  exact Nat.le_trans (lensum _) (by simp only [ln0, ln1, lc, l0]; omega)
theorem swap14 (c : WordsCmd) {ws : List (List UInt8)} (h : wordsOf 14 c.who c.way c.value c.n c.running c.asBytes c.port c.flow c.size c.data = some ws) : whoOk c.who = true ∧ ∃ a r, ws = whoL c.who :: a :: r ∧ ∀ n, whoOk n = true → wordsOf 14 n c.way c.value c.n c.running c.asBytes c.port c.flow c.size c.data = some (whoL n :: a :: r) := by
  unfold wordsOf at h
  simp only at h
  cases h0 : whoOk c.who
  · rw [h0] at h; cases h
  rw [h0] at h; simp only [bif_t] at h
  cases h
  refine ⟨rfl, _, _, rfl, fun n hn => ?_⟩
  unfold wordsOf
  simp only [hn, bif_t, bif_f]
theorem gof14 {κ : Nat} (l : List UInt8) (c : WordsCmd) (h : goP κ false (partsP 14) l (zeroC 14) = some c) : c.kind = 14 ∧ onlyC 14 c = c ∧ GF l c := by
  unfold partsP zeroC at h
  simp only [goP, rdP] at h
  have hl0 := cut_len l
  generalize cutM l = q0 at h hl0
  obtain ⟨a0, l1, m0⟩ := q0
  simp only at h hl0
  have hu0 := u_fit a0
  generalize uR a0 = u0 at hu0 h
  obtain ⟨x0, d0⟩ := u0
  simp only at hu0 h
  cases d0
  · cases h
  try simp only [bif_t, bif_f] at h
  cases m0
  · first | (cases h; done) | (simp only [bif_f, isW, List.isEmpty_cons, Bool.and_false, Bool.false_and, Bool.and_self] at h; cases h; done)
  try simp only [bif_t] at h
  have hl1 := cut_len l1
  generalize cutM l1 = q1 at h hl1
  obtain ⟨a1, l2, m1⟩ := q1
  simp only at h hl1
  generalize decide (a1 = [108, 111, 97, 100]) = d1 at h
  cases d1
  · cases h
  try simp only [bif_t, bif_f] at h
  cases m1
  · first | (cases h; done) | (simp only [bif_f, isW, List.isEmpty_cons, Bool.and_false, Bool.false_and, Bool.and_self] at h; cases h; done)
  try simp only [bif_t] at h
  have hl2 := cut_len l2
  generalize cutM l2 = q2 at h hl2
  obtain ⟨a2, l3, m2⟩ := q2
  simp only at h hl2
  generalize decide (a2 = [98, 121, 116, 101, 115]) = d2 at h
  cases d2
  · cases h
  try simp only [bif_t, bif_f] at h
  cases m2
  · first | (cases h; done) | (simp only [bif_f, isW, List.isEmpty_cons, Bool.and_false, Bool.false_and, Bool.and_self] at h; cases h; done)
  try simp only [bif_t] at h
  have hu3 := un_fit l3
  generalize unR l3 = u3 at hu3 h
  obtain ⟨d3, x3⟩ := u3
  simp only at hu3 h
  cases d3
  · cases h
  try simp only [bif_t, bif_f] at h
  cases h
  exact ⟨rfl, rfl, ⟨zfit, zfit, zfit, (Nat.zero_le _), (Nat.le_trans hu3.1 (by omega)), hu3.2⟩⟩
theorem prt15 {κ : Nat} (hκ : 40000 ≤ κ) (c : WordsCmd) (hF : FitC c) {ws : List (List UInt8)} (h : wordsOf 15 c.who c.way c.value c.n c.running c.asBytes c.port c.flow c.size c.data = some ws) : words_parse κ 15 (B (Lib.join ws [32])) = some (resP 15 (some (onlyC 15 c))) ∧ Lib.join ws [32] ≠ [] ∧ kd (Lib.join ws [32]) = 15 := by
  have hrt := rt15 hκ c hF.f h
  unfold wordsOf at h
  simp only at h
  cases h0 : Pa15.idn c.port
  · rw [h0] at h; cases h
  rw [h0] at h; simp only [bif_t] at h
  cases h
  have := hF.d
  have := id_len h0
  have := num_len hF.f.hfl
  have := num_len hF.f.hsz
  have hc0 := fun X => cut_some (a := [112, 97, 99, 107, 101, 116]) X (by decide)
  have hc1 := fun X => cut_some (a := c.port.data.toList) X (id_free h0)
  have hc2 := fun X => cut_some (a := numL c.flow) X (num_free _)
  refine ⟨?_, ?_, ?_⟩
  · rw [parse15 hκ _ (Nat.le_trans (lensum _) (by simp only [ln0, ln1, lc, l0]; omega)), hrt]
  · rw [j2]; simp
  · unfold kd
    simp only [j1, j2, hc0, hc1, hc2]
    try rfl
theorem len15 (c : WordsCmd) (hF : FitC c) {ws : List (List UInt8)} (h : wordsOf 15 c.who c.way c.value c.n c.running c.asBytes c.port c.flow c.size c.data = some ws) : (Lib.join ws [32]).length ≤ 140737488353000 := by
  unfold wordsOf at h
  simp only at h
  cases h0 : Pa15.idn c.port
  · rw [h0] at h; cases h
  rw [h0] at h; simp only [bif_t] at h
  cases h
  have := hF.d
  have := id_len h0
  have := num_len hF.f.hfl
  have := num_len hF.f.hsz
  exact Nat.le_trans (lensum _) (by simp only [ln0, ln1, lc, l0]; omega)
theorem gof15 {κ : Nat} (l : List UInt8) (c : WordsCmd) (h : goP κ false (partsP 15) l (zeroC 15) = some c) : c.kind = 15 ∧ onlyC 15 c = c ∧ GF l c := by
  unfold partsP zeroC at h
  simp only [goP, rdP] at h
  have hl0 := cut_len l
  generalize cutM l = q0 at h hl0
  obtain ⟨a0, l1, m0⟩ := q0
  simp only at h hl0
  generalize decide (a0 = [112, 97, 99, 107, 101, 116]) = d0 at h
  cases d0
  · cases h
  try simp only [bif_t, bif_f] at h
  cases m0
  · first | (cases h; done) | (simp only [bif_f, isW, List.isEmpty_cons, Bool.and_false, Bool.false_and, Bool.and_self] at h; cases h; done)
  try simp only [bif_t] at h
  have hl1 := cut_len l1
  generalize cutM l1 = q1 at h hl1
  obtain ⟨a1, l2, m1⟩ := q1
  simp only at h hl1
  try simp only [bif_t, bif_f] at h
  cases m1
  · first | (cases h; done) | (simp only [bif_f, isW, List.isEmpty_cons, Bool.and_false, Bool.false_and, Bool.and_self] at h; cases h; done)
  try simp only [bif_t] at h
  have hl2 := cut_len l2
  generalize cutM l2 = q2 at h hl2
  obtain ⟨a2, l3, m2⟩ := q2
  simp only at h hl2
  have hu2 := u_fit a2
  generalize uR a2 = u2 at hu2 h
  obtain ⟨x2, d2⟩ := u2
  simp only at hu2 h
  cases d2
  · cases h
  try simp only [bif_t, bif_f] at h
  cases m2
  · first | (cases h; done) | (simp only [bif_f, isW, List.isEmpty_cons, Bool.and_false, Bool.false_and, Bool.and_self] at h; cases h; done)
  try simp only [bif_t] at h
  have hu3 := u_fit l3
  generalize uR l3 = u3 at hu3 h
  obtain ⟨x3, d3⟩ := u3
  simp only at hu3 h
  cases d3
  · cases h
  try simp only [bif_t, bif_f] at h
  cases h
  exact ⟨rfl, rfl, ⟨zfit, hu2, hu3, (Nat.zero_le _), (Nat.zero_le _), (fun x hx => by cases hx)⟩⟩
theorem prt16 {κ : Nat} (hκ : 40000 ≤ κ) (c : WordsCmd) (hF : FitC c) {ws : List (List UInt8)} (h : wordsOf 16 c.who c.way c.value c.n c.running c.asBytes c.port c.flow c.size c.data = some ws) : words_parse κ 16 (B (Lib.join ws [32])) = some (resP 16 (some (onlyC 16 c))) ∧ Lib.join ws [32] ≠ [] ∧ kd (Lib.join ws [32]) = 16 := by
  have hrt := rt16 hκ c hF.f h
  unfold wordsOf at h
  simp only at h
  cases h
  have := hF.d
  have := num_len hF.f.hn
  have hc0 := fun X => cut_some (a := [116, 105, 99, 107]) X (by decide)
  refine ⟨?_, ?_, ?_⟩
  · rw [parse16 hκ _ (Nat.le_trans (lensum _) (by simp only [ln0, ln1, lc, l0]; omega)), hrt]
  · rw [j2]; simp
  · unfold kd
    simp only [j1, j2, hc0]
    try rfl
theorem len16 (c : WordsCmd) (hF : FitC c) {ws : List (List UInt8)} (h : wordsOf 16 c.who c.way c.value c.n c.running c.asBytes c.port c.flow c.size c.data = some ws) : (Lib.join ws [32]).length ≤ 140737488353000 := by
  unfold wordsOf at h
  simp only at h
  cases h
  have := hF.d
  have := num_len hF.f.hn
  exact Nat.le_trans (lensum _) (by simp only [ln0, ln1, lc, l0]; omega)
theorem gof16 {κ : Nat} (l : List UInt8) (c : WordsCmd) (h : goP κ false (partsP 16) l (zeroC 16) = some c) : c.kind = 16 ∧ onlyC 16 c = c ∧ GF l c := by
  unfold partsP zeroC at h
  simp only [goP, rdP] at h
  have hl0 := cut_len l
  generalize cutM l = q0 at h hl0
  obtain ⟨a0, l1, m0⟩ := q0
  simp only at h hl0
  generalize decide (a0 = [116, 105, 99, 107]) = d0 at h
  cases d0
  · cases h
  try simp only [bif_t, bif_f] at h
  cases m0
  · first | (cases h; done) | (simp only [bif_f, isW, List.isEmpty_cons, Bool.and_false, Bool.false_and, Bool.and_self] at h; cases h; done)
  try simp only [bif_t] at h
  have hu1 := u_fit l1
  generalize uR l1 = u1 at hu1 h
  obtain ⟨x1, d1⟩ := u1
  simp only at hu1 h
  cases d1
  · cases h
  try simp only [bif_t, bif_f] at h
  cases h
  exact ⟨rfl, rfl, ⟨hu1, zfit, zfit, (Nat.zero_le _), (Nat.zero_le _), (fun x hx => by cases hx)⟩⟩
theorem prt17 {κ : Nat} (hκ : 40000 ≤ κ) (c : WordsCmd) (hF : FitC c) {ws : List (List UInt8)} (h : wordsOf 17 c.who c.way c.value c.n c.running c.asBytes c.port c.flow c.size c.data = some ws) : words_parse κ 17 (B (Lib.join ws [32])) = some (resP 17 (some (onlyC 17 c))) ∧ Lib.join ws [32] ≠ [] ∧ kd (Lib.join ws [32]) = 17 := by
  have hrt := rt17 hκ c hF.f h
  unfold wordsOf at h
  simp only at h
  cases h0 : Pa15.idn c.port
  · rw [h0] at h; cases h
  rw [h0] at h; simp only [bif_t] at h
  cases h
  have := hF.d
  have := id_len h0
  have hc0 := fun X => cut_some (a := [110, 101, 120, 116]) X (by decide)
  refine ⟨?_, ?_, ?_⟩
  · rw [parse17 hκ _ (Nat.le_trans (lensum _) (by simp only [ln0, ln1, lc, l0]; omega)), hrt]
  · rw [j2]; simp
  · unfold kd
    simp only [j1, j2, hc0]
    try rfl
theorem len17 (c : WordsCmd) (hF : FitC c) {ws : List (List UInt8)} (h : wordsOf 17 c.who c.way c.value c.n c.running c.asBytes c.port c.flow c.size c.data = some ws) : (Lib.join ws [32]).length ≤ 140737488353000 := by
  unfold wordsOf at h
  simp only at h
  cases h0 : Pa15.idn c.port
  · rw [h0] at h; cases h
  rw [h0] at h; simp only [bif_t] at h
  cases h
  have := hF.d
  have := id_len h0
  exact Nat.le_trans (lensum _) (by simp only [ln0, ln1, lc, l0]; omega)
theorem gof17 {κ : Nat} (l : List UInt8) (c : WordsCmd) (h : goP κ false (partsP 17) l (zeroC 17) = some c) : c.kind = 17 ∧ onlyC 17 c = c ∧ GF l c := by
  unfold partsP zeroC at h
  simp only [goP, rdP] at h
  have hl0 := cut_len l
  generalize cutM l = q0 at h hl0
  obtain ⟨a0, l1, m0⟩ := q0
  simp only at h hl0
  generalize decide (a0 = [110, 101, 120, 116]) = d0 at h
  cases d0
  · cases h
  try simp only [bif_t, bif_f] at h
  cases m0
  · first | (cases h; done) | (simp only [bif_f, isW, List.isEmpty_cons, Bool.and_false, Bool.false_and, Bool.and_self] at h; cases h; done)
  try simp only [bif_t] at h
  try simp only [bif_t, bif_f] at h
  cases h
  exact ⟨rfl, rfl, ⟨zfit, zfit, zfit, (Nat.zero_le _), (Nat.zero_le _), (fun x hx => by cases hx)⟩⟩
theorem prt18 {κ : Nat} (hκ : 40000 ≤ κ) (c : WordsCmd) (hF : FitC c) {ws : List (List UInt8)} (h : wordsOf 18 c.who c.way c.value c.n c.running c.asBytes c.port c.flow c.size c.data = some ws) : words_parse κ 18 (B (Lib.join ws [32])) = some (resP 18 (some (onlyC 18 c))) ∧ Lib.join ws [32] ≠ [] ∧ kd (Lib.join ws [32]) = 18 := by
  have hrt := rt18 hκ c hF.f h
  unfold wordsOf at h
  simp only at h
  cases h0 : Pa15.idn c.port
  · rw [h0] at h; cases h
  rw [h0] at h; simp only [bif_t] at h
  cases h
  have := hF.d
  have := id_len h0
  have hc0 := fun X => cut_some (a := [100, 117, 109, 112]) X (by decide)
  refine ⟨?_, ?_, ?_⟩
  · rw [parse18 hκ _ (Nat.le_trans (lensum _) (by simp only [ln0, ln1, lc, l0]; omega)), hrt]
  · rw [j2]; simp
  · unfold kd
    simp only [j1, j2, hc0]
    try rfl
theorem len18 (c : WordsCmd) (hF : FitC c) {ws : List (List UInt8)} (h : wordsOf 18 c.who c.way c.value c.n c.running c.asBytes c.port c.flow c.size c.data = some ws) : (Lib.join ws [32]).length ≤ 140737488353000 := by
  unfold wordsOf at h
  simp only at h
  cases h0 : Pa15.idn c.port
  · rw [h0] at h; cases h
  rw [h0] at h; simp only [bif_t] at h
  cases h
  have := hF.d
  have := id_len h0
  exact Nat.le_trans (lensum _) (by simp only [ln0, ln1, lc, l0]; omega)
theorem gof18 {κ : Nat} (l : List UInt8) (c : WordsCmd) (h : goP κ false (partsP 18) l (zeroC 18) = some c) : c.kind = 18 ∧ onlyC 18 c = c ∧ GF l c := by
  unfold partsP zeroC at h
  simp only [goP, rdP] at h
  have hl0 := cut_len l
  generalize cutM l = q0 at h hl0
  obtain ⟨a0, l1, m0⟩ := q0
  simp only at h hl0
  generalize decide (a0 = [100, 117, 109, 112]) = d0 at h
  cases d0
  · cases h
  try simp only [bif_t, bif_f] at h
  cases m0
  · first | (cases h; done) | (simp only [bif_f, isW, List.isEmpty_cons, Bool.and_false, Bool.false_and, Bool.and_self] at h; cases h; done)
  try simp only [bif_t] at h
  try simp only [bif_t, bif_f] at h
  cases h
  exact ⟨rfl, rfl, ⟨zfit, zfit, zfit, (Nat.zero_le _), (Nat.zero_le _), (fun x hx => by cases hx)⟩⟩
theorem prt_all {κ : Nat} (hκ : 40000 ≤ κ) (c : WordsCmd) (hF : FitC c) {ws : List (List UInt8)} : ∀ (j : Nat) (hj : j < 19), wordsOf j c.who c.way c.value c.n c.running c.asBytes c.port c.flow c.size c.data = some ws → words_parse κ (j : Int) (B (Lib.join ws [32])) = some (resP j (some (onlyC j c))) ∧ Lib.join ws [32] ≠ [] ∧ kd (Lib.join ws [32]) = j
  | 0, _, h => prt0 hκ c hF h
  | 1, _, h => prt1 hκ c hF h
  | 2, _, h => prt2 hκ c hF h
  | 3, _, h => prt3 hκ c hF h
  | 4, _, h => prt4 hκ c hF h
  | 5, _, h => prt5 hκ c hF h
  | 6, _, h => prt6 hκ c hF h
  | 7, _, h => prt7 hκ c hF h
  | 8, _, h => prt8 hκ c hF h
  | 9, _, h => prt9 hκ c hF h
  | 10, _, h => prt10 hκ c hF h
  | 11, _, h => prt11 hκ c hF h
  | 12, _, h => prt12 hκ c hF h
  | 13, _, h => prt13 hκ c hF h
  | 14, _, h => prt14 hκ c hF h
  | 15, _, h => prt15 hκ c hF h
  | 16, _, h => prt16 hκ c hF h
  | 17, _, h => prt17 hκ c hF h
  | 18, _, h => prt18 hκ c hF h
  | n + 19, h, _ => absurd h (by omega)
theorem line_all {κ : Nat} (hκ : 40000 ≤ κ) (c : WordsCmd) (hF : Fit c.way c.value c.n c.flow c.size c.data) : ∀ (j : Nat) (hj : j < 19), words_line κ (j : Int) c.who c.way c.value c.n c.running c.asBytes c.port c.flow c.size c.data = some (lineC j c)
  | 0, _ => line0 hκ _ _ _ _ _ _ _ _ _ _ hF
  | 1, _ => line1 hκ _ _ _ _ _ _ _ _ _ _ hF
  | 2, _ => line2 hκ _ _ _ _ _ _ _ _ _ _ hF
  | 3, _ => line3 hκ _ _ _ _ _ _ _ _ _ _ hF
  | 4, _ => line4 hκ _ _ _ _ _ _ _ _ _ _ hF
  | 5, _ => line5 hκ _ _ _ _ _ _ _ _ _ _ hF
  | 6, _ => line6 hκ _ _ _ _ _ _ _ _ _ _ hF
  | 7, _ => line7 hκ _ _ _ _ _ _ _ _ _ _ hF
  | 8, _ => line8 hκ _ _ _ _ _ _ _ _ _ _ hF
  | 9, _ => line9 hκ _ _ _ _ _ _ _ _ _ _ hF
  | 10, _ => line10 hκ _ _ _ _ _ _ _ _ _ _ hF
  | 11, _ => line11 hκ _ _ _ _ _ _ _ _ _ _ hF
  | 12, _ => line12 hκ _ _ _ _ _ _ _ _ _ _ hF
  | 13, _ => line13 hκ _ _ _ _ _ _ _ _ _ _ hF
  | 14, _ => line14 hκ _ _ _ _ _ _ _ _ _ _ hF
  | 15, _ => line15 hκ _ _ _ _ _ _ _ _ _ _ hF
  | 16, _ => line16 hκ _ _ _ _ _ _ _ _ _ _ hF
  | 17, _ => line17 hκ _ _ _ _ _ _ _ _ _ _ hF
  | 18, _ => line18 hκ _ _ _ _ _ _ _ _ _ _ hF
  | n + 19, h => absurd h (by omega)
theorem parse_all {κ : Nat} (hκ : 40000 ≤ κ) (l : List UInt8) (hl : l.length ≤ 15000) : ∀ (j : Nat) (hj : j < 19), words_parse κ (j : Int) (B l) = some (resP j (goP κ (j == 9) (partsP j) l (zeroC j)))
  | 0, _ => parse0 hκ l hl
  | 1, _ => parse1 hκ l hl
  | 2, _ => parse2 hκ l hl
  | 3, _ => parse3 hκ l hl
  | 4, _ => parse4 hκ l hl
  | 5, _ => parse5 hκ l hl
  | 6, _ => parse6 hκ l hl
  | 7, _ => parse7 hκ l (by omega) (by have := cut_len l; omega) (by have := cut_len l; have := cut_len (cutM l).2.1; have := cut_len (cutM (cutM l).2.1).2.1; omega) (by have := cut_len l; have := cut_len (cutM l).2.1; have := cut_len (cutM (cutM l).2.1).2.1; omega)
  | 8, _ => parse8 hκ l hl
  | 9, _ => parse9 hκ l hl
  | 10, _ => parse10 hκ l hl
  | 11, _ => parse11 hκ l hl
  | 12, _ => parse12 hκ l hl
  | 13, _ => parse13 hκ l hl
  | 14, _ => parse14 hκ l hl
  | 15, _ => parse15 hκ l hl
  | 16, _ => parse16 hκ l hl
  | 17, _ => parse17 hκ l hl
  | 18, _ => parse18 hκ l hl
  | n + 19, h => absurd h (by omega)
theorem gof_all {κ : Nat} (l : List UInt8) (c : WordsCmd) : ∀ (j : Nat) (hj : j < 19), goP κ (j == 9) (partsP j) l (zeroC j) = some c → c.kind = j ∧ onlyC j c = c ∧ GF l c
  | 0, _, h => gof0 l c h
  | 1, _, h => gof1 l c h
  | 2, _, h => gof2 l c h
  | 3, _, h => gof3 l c h
  | 4, _, h => gof4 l c h
  | 5, _, h => gof5 l c h
  | 6, _, h => gof6 l c h
  | 7, _, h => gof7 l c h
  | 8, _, h => gof8 l c h
  | 9, _, h => gof9 l c h
  | 10, _, h => gof10 l c h
  | 11, _, h => gof11 l c h
  | 12, _, h => gof12 l c h
  | 13, _, h => gof13 l c h
  | 14, _, h => gof14 l c h
  | 15, _, h => gof15 l c h
  | 16, _, h => gof16 l c h
  | 17, _, h => gof17 l c h
  | 18, _, h => gof18 l c h
  | n + 19, h, _ => absurd h (by omega)
theorem rt_all {κ : Nat} (hκ : 40000 ≤ κ) (c : WordsCmd) (hF : Fit c.way c.value c.n c.flow c.size c.data) {ws : List (List UInt8)} : ∀ (j : Nat) (hj : j < 19), wordsOf j c.who c.way c.value c.n c.running c.asBytes c.port c.flow c.size c.data = some ws → goP κ (j == 9) (partsP j) (Lib.join ws [32]) (zeroC j) = some (onlyC j c)
  | 0, _, h => rt0 hκ c hF h
  | 1, _, h => rt1 hκ c hF h
  | 2, _, h => rt2 hκ c hF h
  | 3, _, h => rt3 hκ c hF h
  | 4, _, h => rt4 hκ c hF h
  | 5, _, h => rt5 hκ c hF h
  | 6, _, h => rt6 hκ c hF h
  | 7, _, h => rt7 hκ c hF h
  | 8, _, h => rt8 hκ c hF h
  | 9, _, h => rt9 hκ c hF h
  | 10, _, h => rt10 hκ c hF h
  | 11, _, h => rt11 hκ c hF h
  | 12, _, h => rt12 hκ c hF h
  | 13, _, h => rt13 hκ c hF h
  | 14, _, h => rt14 hκ c hF h
  | 15, _, h => rt15 hκ c hF h
  | 16, _, h => rt16 hκ c hF h
  | 17, _, h => rt17 hκ c hF h
  | 18, _, h => rt18 hκ c hF h
  | n + 19, h, _ => absurd h (by omega)
theorem only_line (c : WordsCmd) : ∀ (j : Nat) (hj : j < 19), lineC j (onlyC j c) = lineC j c
  | 0, _ => rfl
  | 1, _ => rfl
  | 2, _ => rfl
  | 3, _ => rfl
  | 4, _ => rfl
  | 5, _ => rfl
  | 6, _ => rfl
  | 7, _ => rfl
  | 8, _ => rfl
  | 9, _ => rfl
  | 10, _ => rfl
  | 11, _ => rfl
  | 12, _ => rfl
  | 13, _ => rfl
  | 14, _ => rfl
  | 15, _ => rfl
  | 16, _ => rfl
  | 17, _ => rfl
  | 18, _ => rfl
  | n + 19, h => absurd h (by omega)
theorem len_all (c : WordsCmd) (hF : FitC c) {ws : List (List UInt8)} : ∀ (j : Nat) (hj : j < 19), wordsOf j c.who c.way c.value c.n c.running c.asBytes c.port c.flow c.size c.data = some ws → (Lib.join ws [32]).length ≤ 140737488353000
  | 0, _, h => len0 c hF h
  | 1, _, h => len1 c hF h
  | 2, _, h => len2 c hF h
  | 3, _, h => len3 c hF h
  | 4, _, h => len4 c hF h
  | 5, _, h => len5 c hF h
  | 6, _, h => len6 c hF h
  | 7, _, h => len7 c hF h
  | 8, _, h => len8 c hF h
  | 9, _, h => len9 c hF h
  | 10, _, h => len10 c hF h
  | 11, _, h => len11 c hF h
  | 12, _, h => len12 c hF h
  | 13, _, h => len13 c hF h
  | 14, _, h => len14 c hF h
  | 15, _, h => len15 c hF h
  | 16, _, h => len16 c hF h
  | 17, _, h => len17 c hF h
  | 18, _, h => len18 c hF h
  | n + 19, h, _ => absurd h (by omega)
theorem swap_all (c : WordsCmd) {ws : List (List UInt8)} : ∀ (j : Nat) (hj : j < 15), wordsOf j c.who c.way c.value c.n c.running c.asBytes c.port c.flow c.size c.data = some ws → whoOk c.who = true ∧ ∃ a r, ws = whoL c.who :: a :: r ∧ ∀ n, whoOk n = true → wordsOf j n c.way c.value c.n c.running c.asBytes c.port c.flow c.size c.data = some (whoL n :: a :: r)
  | 0, _, h => swap0 c h
  | 1, _, h => swap1 c h
  | 2, _, h => swap2 c h
  | 3, _, h => swap3 c h
  | 4, _, h => swap4 c h
  | 5, _, h => swap5 c h
  | 6, _, h => swap6 c h
  | 7, _, h => swap7 c h
  | 8, _, h => swap8 c h
  | 9, _, h => swap9 c h
  | 10, _, h => swap10 c h
  | 11, _, h => swap11 c h
  | 12, _, h => swap12 c h
  | 13, _, h => swap13 c h
  | 14, _, h => swap14 c h
  | n + 15, h, _ => absurd h (by omega)
theorem only_who (c : WordsCmd) : ∀ (j : Nat) (hj : j < 19), onlyC j c = c → (15 ≤ j → c.who = 0) ∧ (j < 15 → ∀ n, onlyC j { c with who := n } = { c with who := n })
  | 0, _, h => ⟨fun q => absurd q (by omega), fun _ n => (congrArg (fun x : WordsCmd => { x with who := n }) h)⟩
  | 1, _, h => ⟨fun q => absurd q (by omega), fun _ n => (congrArg (fun x : WordsCmd => { x with who := n }) h)⟩
  | 2, _, h => ⟨fun q => absurd q (by omega), fun _ n => (congrArg (fun x : WordsCmd => { x with who := n }) h)⟩
  | 3, _, h => ⟨fun q => absurd q (by omega), fun _ n => (congrArg (fun x : WordsCmd => { x with who := n }) h)⟩
  | 4, _, h => ⟨fun q => absurd q (by omega), fun _ n => (congrArg (fun x : WordsCmd => { x with who := n }) h)⟩
  | 5, _, h => ⟨fun q => absurd q (by omega), fun _ n => (congrArg (fun x : WordsCmd => { x with who := n }) h)⟩
  | 6, _, h => ⟨fun q => absurd q (by omega), fun _ n => (congrArg (fun x : WordsCmd => { x with who := n }) h)⟩
  | 7, _, h => ⟨fun q => absurd q (by omega), fun _ n => (congrArg (fun x : WordsCmd => { x with who := n }) h)⟩
  | 8, _, h => ⟨fun q => absurd q (by omega), fun _ n => (congrArg (fun x : WordsCmd => { x with who := n }) h)⟩
  | 9, _, h => ⟨fun q => absurd q (by omega), fun _ n => (congrArg (fun x : WordsCmd => { x with who := n }) h)⟩
  | 10, _, h => ⟨fun q => absurd q (by omega), fun _ n => (congrArg (fun x : WordsCmd => { x with who := n }) h)⟩
  | 11, _, h => ⟨fun q => absurd q (by omega), fun _ n => (congrArg (fun x : WordsCmd => { x with who := n }) h)⟩
  | 12, _, h => ⟨fun q => absurd q (by omega), fun _ n => (congrArg (fun x : WordsCmd => { x with who := n }) h)⟩
  | 13, _, h => ⟨fun q => absurd q (by omega), fun _ n => (congrArg (fun x : WordsCmd => { x with who := n }) h)⟩
  | 14, _, h => ⟨fun q => absurd q (by omega), fun _ n => (congrArg (fun x : WordsCmd => { x with who := n }) h)⟩
  | 15, _, h => ⟨fun _ => (congrArg WordsCmd.who h).symm, fun q => absurd q (by omega)⟩
  | 16, _, h => ⟨fun _ => (congrArg WordsCmd.who h).symm, fun q => absurd q (by omega)⟩
  | 17, _, h => ⟨fun _ => (congrArg WordsCmd.who h).symm, fun q => absurd q (by omega)⟩
  | 18, _, h => ⟨fun _ => (congrArg WordsCmd.who h).symm, fun q => absurd q (by omega)⟩
  | n + 19, h, _ => absurd h (by omega)
theorem way_short {w : List ApiStep} (h : wayOk w = true) : w.length ≤ 6 := by
  unfold wayOk at h
  rw [Bool.and_eq_true] at h
  have h1 : seq (Pa15.showV w) (B []) = false := by simpa using h.2
  unfold Pa15.showV at h1
  by_cases h6 : w.length > 6
  · have := of_decide_eq_true h.1
    rw [if_neg (by omega), if_pos h6] at h1; simp [seq] at h1
  · omega
theorem only_way (c : WordsCmd) {ws : List (List UInt8)} : ∀ (j : Nat) (hj : j < 19), wordsOf j c.who c.way c.value c.n c.running c.asBytes c.port c.flow c.size c.data = some ws → (onlyC j c).way.length ≤ 6
  | 0, _, _ => Nat.zero_le _
  | 1, _, _ => Nat.zero_le _
  | 2, _, _ => Nat.zero_le _
  | 3, _, _ => Nat.zero_le _
  | 4, _, _ => Nat.zero_le _
  | 5, _, _ => Nat.zero_le _
  | 6, _, _ => Nat.zero_le _
  | 7, _, h => by
    unfold wordsOf at h
    simp only at h
    cases h0 : whoOk c.who
    · rw [h0] at h; cases h
    · cases h1 : wayOk c.way
      · rw [h0, h1] at h; cases h
      · exact way_short h1
  | 8, _, h => by
    unfold wordsOf at h
    simp only at h
    cases h0 : whoOk c.who
    · rw [h0] at h; cases h
    · cases h1 : wayOk c.way
      · rw [h0, h1] at h; cases h
      · exact way_short h1
  | 9, _, _ => Nat.zero_le _
  | 10, _, _ => Nat.zero_le _
  | 11, _, _ => Nat.zero_le _
  | 12, _, _ => Nat.zero_le _
  | 13, _, _ => Nat.zero_le _
  | 14, _, _ => Nat.zero_le _
  | 15, _, _ => Nat.zero_le _
  | 16, _, _ => Nat.zero_le _
  | 17, _, _ => Nat.zero_le _
  | 18, _, _ => Nat.zero_le _
  | n + 19, h, _ => absurd h (by omega)
end Go.Proofs.YtdoifigogbdodaaGreatDoor.Wo


namespace Go.Proofs.YtdoifigogbdodaaGreatDoor.Wo
open Go Ev Ev.Seat Go.Lib
def kj (c : WordsCmd) : Option Nat := if 0 ≤ c.kind ∧ c.kind < 19 then some c.kind.toNat else none
theorem kj_some {c : WordsCmd} {j : Nat} (h : kj c = some j) : j < 19 ∧ c.kind = (j : Int) := by
  unfold kj at h
  split at h
  · cases h; omega
  · cases h
theorem kj_none {c : WordsCmd} (h : kj c = none) : c.kind < 0 ∨ 18 < c.kind := by
  unfold kj at h
  split at h
  · cases h
  · omega
theorem kj_of {c : WordsCmd} {j : Nat} (hj : j < 19) (h : c.kind = (j : Int)) : kj c = some j := by
  unfold kj
  rw [h, if_pos (by omega)]; simp
def rightB (c : WordsCmd) : Bool := match kj c with
  | some j => (lineC j c).2 && sameB c (onlyC j c)
  | none => false
def lineB (c : WordsCmd) : ByteArray := match kj c with
  | some j => bif rightB c then (lineC j c).1 else B []
  | none => B []
theorem resL_some {o : Option (List (List UInt8))} (h : (resL o).2 = true) : ∃ ws, o = some ws := by
  cases o with
  | none => cases h
  | some ws => exact ⟨ws, rfl⟩
theorem right_eq {κ : Nat} (hκ : 40000 ≤ κ) (c : WordsCmd) (hF : FitC c) : words_Right κ c.kind c.who c.way c.value c.n c.running c.asBytes c.port c.flow c.size c.data = some (rightB c) := by
  unfold words_Right rightB
  cases hk : kj c with
  | none =>
    rw [line_other (kj_none hk)]; rfl
  | some j =>
    obtain ⟨hj, hkind⟩ := kj_some hk
    have hl := line_all hκ c hF.f j hj
    rw [← hkind] at hl
    rw [hl]
    simp only [Option.bind_some]
    cases hw : wordsOf j c.who c.way c.value c.n c.running c.asBytes c.port c.flow c.size c.data with
    | none =>
      have hz : lineC j c = (B [], false) := by unfold lineC; rw [hw]; rfl
      rw [hz]; rfl
    | some ws =>
      have hz : lineC j c = (B (Lib.join ws [32]), true) := by unfold lineC; rw [hw]; rfl
      obtain ⟨h1, h2, h3⟩ := prt_all hκ c hF j hj hw
      rw [hz]
      simp only [Bool.not_true, bif_f]
      rw [hkind, h1]
      have hs : seq (B (Lib.join ws [32])) (B []) = false := by rw [seq_B]; exact decide_eq_false h2
      have h4 := same_eq (κ := κ) c (onlyC j c) (by have := only_way c j hj hw; omega) (by have := only_way c j hj hw; omega)
      rw [hkind] at h4
      simp only [Option.bind_some, resP, only_line c j hj, hz, hs, Bool.not_false, Bool.and_self, words_Right.v0, bif_t, h4, Bool.true_and]
theorem line_eq {κ : Nat} (hκ : 40000 ≤ κ) (c : WordsCmd) (hF : FitC c) : words_Line κ c.kind c.who c.way c.value c.n c.running c.asBytes c.port c.flow c.size c.data = some (lineB c) := by
  unfold words_Line
  rw [right_eq hκ c hF]
  simp only [Option.bind_some]
  unfold lineB
  cases hk : kj c with
  | none =>
    have : rightB c = false := by unfold rightB; rw [hk]
    rw [this]; rfl
  | some j =>
    cases hr : rightB c
    · rfl
    · obtain ⟨hj, hkind⟩ := kj_some hk
      have hl := line_all hκ c hF.f j hj
      rw [← hkind] at hl
      rw [hl]; rfl
structure VL (j : Nat) (l : List UInt8) (c : WordsCmd) : Prop where
  lt : j < 19
  kind : c.kind = (j : Int)
  only : onlyC j c = c
  ws : ∃ ws, wordsOf j c.who c.way c.value c.n c.running c.asBytes c.port c.flow c.size c.data = some ws ∧ Lib.join ws [32] = l
theorem VL.lineC {j : Nat} {l : List UInt8} {c : WordsCmd} (h : VL j l c) : lineC j c = (B l, true) := by
  obtain ⟨ws, h1, h2⟩ := h.ws
  unfold Wo.lineC; rw [h1, ← h2]; rfl
theorem VL.right {j : Nat} {l : List UInt8} {c : WordsCmd} (h : VL j l c) : rightB c = true ∧ lineB c = B l := by
  have hr : rightB c = true := by
    unfold rightB
    rw [kj_of h.lt h.kind]
    simp only [h.lineC, h.only, same_self, Bool.and_self]
  refine ⟨hr, ?_⟩
  unfold lineB
  rw [kj_of h.lt h.kind, hr]
  simp only [h.lineC, bif_t]
theorem VL.read {κ : Nat} (hκ : 40000 ≤ κ) {j : Nat} {l : List UInt8} {c : WordsCmd} (h : VL j l c) (hF : Fit c.way c.value c.n c.flow c.size c.data) : goP κ (j == 9) (partsP j) l (zeroC j) = some c := by
  obtain ⟨ws, h1, h2⟩ := h.ws
  have := rt_all hκ c hF j h.lt h1
  rw [h2, h.only] at this; exact this
theorem VL.kd {j : Nat} {l : List UInt8} {c : WordsCmd} (h : VL j l c) (hF : FitC c) : kd l = j ∧ l ≠ [] := by
  obtain ⟨ws, h1, h2⟩ := h.ws
  obtain ⟨_, h3, h4⟩ := prt_all (κ := 40000) (Nat.le_refl _) c hF j h.lt h1
  rw [h2] at h3 h4
  exact ⟨h4, h3⟩
theorem VL.same {i j : Nat} {l : List UInt8} {c d : WordsCmd} (hc : VL i l c) (hd : VL j l d) (fc : FitC c) (fd : FitC d) : c = d := by
  have h1 := (hc.kd fc).1
  have h2 := (hd.kd fd).1
  have h3 : i = j := h1.symm.trans h2
  subst h3
  have e1 := hc.read (κ := 40000) (Nat.le_refl _) fc.f
  have e2 := hd.read (κ := 40000) (Nat.le_refl _) fd.f
  rw [e1] at e2
  exact Option.some.inj e2

def findJ (κ : Nat) (l : List UInt8) (j : Nat) : Option WordsCmd := match goP κ (j == 9) (partsP j) l (zeroC j) with
  | some c => bif (lineC j c).2 && seq (lineC j c).1 (B l) then some c else none
  | none => none
def firstF (κ : Nat) (l : List UInt8) : Nat → Nat → Option WordsCmd
  | 0, _ => none
  | d + 1, j => match findJ κ l j with
    | some c => some c
    | none => firstF κ l d (j + 1)
theorem fit_of {l : List UInt8} {c : WordsCmd} (h : GF l c) (hl : l.length ≤ 7000) : FitC c :=
  ⟨⟨h.n, h.fl, h.sz, Nat.le_trans h.val (by omega), Nat.le_trans h.dat (by omega), h.byt⟩, Nat.le_trans h.dat hl⟩
theorem find_vl {κ : Nat} {l : List UInt8} {j : Nat} (hj : j < 19) {c : WordsCmd} (h : findJ κ l j = some c) : VL j l c ∧ GF l c := by
  unfold findJ at h
  split at h
  · rename_i d hd
    obtain ⟨h1, h2, h3⟩ := gof_all l d j hj hd
    cases hb : (lineC j d).2 && seq (lineC j d).1 (B l)
    · rw [hb] at h; cases h
    · rw [hb] at h
      cases h
      rw [Bool.and_eq_true] at hb
      obtain ⟨ws, hw⟩ := resL_some hb.1
      refine ⟨⟨hj, h1, h2, ws, hw, ?_⟩, h3⟩
      have h4 := Va8.seq_iff.1 hb.2
      have h5 : lineC j c = (B (Lib.join ws [32]), true) := by unfold lineC; rw [hw]; rfl
      rw [h5] at h4
      exact B_inj.1 h4
  · cases h
theorem vl_find {κ : Nat} (hκ : 40000 ≤ κ) {l : List UInt8} {j : Nat} {c : WordsCmd} (h : VL j l c) (hF : FitC c) : findJ κ l j = some c := by
  unfold findJ
  rw [h.read hκ hF.f]
  simp only [h.lineC, seq_B, decide_true, Bool.and_self, bif_t]
def zeroT : Int × Int × ByteArray × Int × Bool × Bool × ByteArray × Int × Int := (0, 0, B [], 0, false, false, B [], 0, 0)
theorem parse_loop {κ : Nat} (hκ : 40000 ≤ κ) (l : List UInt8) (hl : l.length ≤ 7000) : ∀ (d j K : Nat), d + j = 19 → d < K →
    words_Parse.l2 κ K (B l, (j : Int), 0, 0, B [], 0, false, false, B [], 0, 0) = some (match firstF κ l d j with
      | some c => .inr (0, c.kind, c.who, c.way, c.value, c.n, c.running, c.asBytes, c.port, c.flow, c.size, c.data)
      | none => .inl (0, 0, B [], 0, false, false, B [], 0, 0))
  | d, j, 0, _, h => by omega
  | 0, j, K + 1, h, _ => by
    simp only [words_Parse.l2]
    unfold words_Parse.w2
    rw [show decide ((j : Int) ≤ 18) = false from decide_eq_false (by omega)]
    rfl
  | d + 1, j, K + 1, h, hk => by
    have hj : j < 19 := by omega
    simp only [words_Parse.l2]
    unfold words_Parse.w2
    rw [show decide ((j : Int) ≤ 18) = true from decide_eq_true (by omega), parse_all hκ l (by omega) j hj]
    simp only [bif_t, Option.bind_some]
    have ih := parse_loop hκ l hl d (j + 1) K (by omega) (by omega)
    have hw : IntKind.wrap IntKind.i64 ((j : Int) + 1) = ((j + 1 : Nat) : Int) := wrap1 j (by omega)
    have hfirst : firstF κ l (d + 1) j = (match findJ κ l j with | some c => some c | none => firstF κ l d (j + 1)) := rfl
    rw [hfirst]
    unfold findJ
    cases hg : goP κ (j == 9) (partsP j) l (zeroC j) with
    | none =>
      simp only [resP, words_Parse.v3, bif_f, Option.bind_some, hw]
      exact ih
    | some c =>
      obtain ⟨h1, h2, h3⟩ := gof_all l c j hj hg
      have hF := fit_of h3 hl
      cases hb : (lineC j c).2
      · simp only [resP, hb, Bool.false_and, words_Parse.v3, bif_f, Option.bind_some, hw]
        exact ih
      · obtain ⟨ws, hws⟩ := resL_some hb
        have hz : lineC j c = (B (Lib.join ws [32]), true) := by unfold lineC; rw [hws]; rfl
        have hv : VL j (Lib.join ws [32]) c := ⟨hj, h1, h2, ws, hws, rfl⟩
        have hne : seq (B (Lib.join ws [32])) (B []) = false := by rw [seq_B]; exact decide_eq_false (hv.kd hF).2
        have hline := line_eq hκ c hF
        rw [hv.right.2] at hline
        simp only [resP, hz, hne, Bool.not_false, Bool.and_self, words_Parse.v3, bif_t, hline, Option.bind_some, Bool.true_and]
        cases seq (B (Lib.join ws [32])) (B l)
        · simp only [bif_f, hw]
          exact ih
        · rfl
def ParseR (o : Option WordsCmd) : Int × Int × (List ApiStep) × ByteArray × Int × Bool × Bool × ByteArray × Int × Int × (List Int) × Int := match o with
  | some c => (c.kind, c.who, c.way, c.value, c.n, c.running, c.asBytes, c.port, c.flow, c.size, c.data, 0)
  | none => (0, 0, [], B [], 0, false, false, B [], 0, 0, [], 40)
theorem Parse_eq {κ : Nat} (hκ : 40000 ≤ κ) (l : List UInt8) (hl : l.length ≤ 7000) : words_Parse κ (B l) = some (ParseR (firstF κ l 19 0)) := by
  unfold words_Parse
  rw [show words_Parse.l2 κ κ (B l, (0 : Int), 0, 0, (ByteArray.mk (List.toArray [])), 0, false, false, (ByteArray.mk (List.toArray [])), 0, 0) = _ from parse_loop hκ l hl 19 0 κ (by omega) (by omega)]
  cases firstF κ l 19 0 <;> rfl
theorem first_find {κ : Nat} {l : List UInt8} : ∀ {d j : Nat} {c : WordsCmd}, d + j = 19 → firstF κ l d j = some c → ∃ i, i < 19 ∧ findJ κ l i = some c
  | 0, j, c, _, h => by cases h
  | d + 1, j, c, hd, h => by
    unfold firstF at h
    split at h
    · rename_i x hx; cases h; exact ⟨j, by omega, hx⟩
    · exact first_find (by omega) h
theorem first_none {κ : Nat} {l : List UInt8} : ∀ {d j : Nat}, d + j = 19 → firstF κ l d j = none → ∀ i, j ≤ i → i < 19 → findJ κ l i = none
  | 0, j, hd, h, i, h1, h2 => by omega
  | d + 1, j, hd, h, i, h1, h2 => by
    unfold firstF at h
    split at h
    · cases h
    · rename_i hx
      by_cases e : i = j
      · subst e; exact hx
      · exact first_none (by omega) h i (by omega) h2
theorem first_of {κ : Nat} (hκ : 40000 ≤ κ) {l : List UInt8} (hl : l.length ≤ 7000) {j : Nat} {c : WordsCmd} (h : VL j l c) (hF : FitC c) : firstF κ l 19 0 = some c := by
  cases hf : firstF κ l 19 0 with
  | none =>
    have := first_none (d := 19) (j := 0) rfl hf j (Nat.zero_le _) h.lt
    rw [vl_find hκ h hF] at this; cases this
  | some d =>
    obtain ⟨i, hi, hd⟩ := first_find rfl hf
    obtain ⟨h1, h2⟩ := find_vl hi hd
    rw [h1.same h (fit_of h2 hl) hF]
theorem first_is {κ : Nat} {l : List UInt8} {c : WordsCmd} (h : firstF κ l 19 0 = some c) : (∃ j, VL j l c) ∧ GF l c := by
  obtain ⟨i, hi, hd⟩ := first_find rfl h
  obtain ⟨h1, h2⟩ := find_vl hi hd
  exact ⟨⟨i, h1⟩, h2⟩

end Go.Proofs.YtdoifigogbdodaaGreatDoor.Wo


namespace Go.Proofs.YtdoifigogbdodaaGreatDoor.Wo
open Go Ev Ev.Seat Go.Lib
theorem awake_eq : l33_awake 40000 = some true := by kernel_rfl
theorem VL.len {j : Nat} {l : List UInt8} {c : WordsCmd} (h : VL j l c) (hF : FitC c) : l.length ≤ 140737488353000 := by
  obtain ⟨ws, h1, h2⟩ := h.ws
  rw [← h2]; exact len_all c hF j h.lt h1
theorem VL.way {j : Nat} {l : List UInt8} {c : WordsCmd} (h : VL j l c) : c.way.length ≤ 6 := by
  obtain ⟨ws, h1, h2⟩ := h.ws
  have := only_way c j h.lt h1
  rwa [h.only] at this
theorem who_one {w : Int} (h1 : 1 ≤ w) (h2 : w ≤ 9) : whoL w = [UInt8.ofNat (48 + w.toNat)] := by
  unfold whoL numL
  rw [IntKind.wrap_u64, show w % 18446744073709551616 = w from by omega]
  exact Va8.dec_small (by omega)
theorem WordsWho_eq (l : List UInt8) (a : Int) (ha : 0 ≤ a ∧ a < 256) : l33_WordsWho 40000 (B l) a = some true := by
  unfold l33_WordsWho
  rw [awake_eq, B_size]
  simp only [Option.bind_some, Bool.not_true, bif_f]
  by_cases hl : l.length ≤ 3000
  · rw [show decide (((l.length : Nat) : Int) > 3000) = false from decide_eq_false (by omega), Parse_eq (Nat.le_refl _) l (by omega)]
    simp only [bif_f, Option.bind_some]
    cases hf : firstF 40000 l 19 0 with
    | none => rfl
    | some c =>
      obtain ⟨⟨j, v⟩, g⟩ := first_is hf
      have hF := fit_of g (by omega)
      rw [show (ParseR (some c)).2.2.2.2.2.2.2.2.2.2.2 = 0 from rfl, show ((0 : Int) != 0) = false from rfl]
      simp only [bif_f]
      by_cases hj : 15 ≤ j
      · rw [show decide ((ParseR (some c)).1 ≥ 15) = true from decide_eq_true (by show c.kind ≥ 15; rw [v.kind]; omega), show (ParseR (some c)).2.1 = c.who from rfl, (only_who c j v.lt v.only).1 hj]; rfl
      · rw [show decide ((ParseR (some c)).1 ≥ 15) = false from decide_eq_false (by show ¬ c.kind ≥ 15; rw [v.kind]; omega)]
        simp only [bif_f, ParseR]
        obtain ⟨ws, hws, hjoin⟩ := v.ws
        obtain ⟨hw, x, r, hx, hsw⟩ := swap_all c j (by omega) hws
        obtain ⟨w1, w9⟩ := who_wrap hw
        have hl1 : l = UInt8.ofNat (48 + c.who.toNat) :: 32 :: Lib.join (x :: r) [32] := by
          rw [← hjoin, hx, j2, who_one w1 w9]; rfl
        generalize hn : a % 9 + 1 = n
        have n1 : 1 ≤ n ∧ n ≤ 9 := by omega
        have hnok : whoOk n = true := by unfold whoOk; rw [decide_eq_true n1.1, decide_eq_true n1.2]; rfl
        have v' : VL j (UInt8.ofNat (48 + n.toNat) :: 32 :: Lib.join (x :: r) [32]) { c with who := n } := by
          refine ⟨v.lt, v.kind, (only_who c j v.lt v.only).2 (by omega) n, _, hsw n hnok, ?_⟩
          rw [j2, who_one n1.1 n1.2]; rfl
        have hF' : FitC { c with who := n } := ⟨hF.f, hF.d⟩
        have hlen : (UInt8.ofNat (48 + n.toNat) :: 32 :: Lib.join (x :: r) [32]).length = l.length := by rw [hl1]; simp
        unfold l33_WordsWho.v2
        have hl2 : 2 ≤ l.length := by rw [hl1]; simp
        rw [show decide (c.who < 1) = false from decide_eq_false (by omega), show decide (c.who > 9) = false from decide_eq_false (by omega), B_size, show decide (((l.length : Nat) : Int) < 2) = false from decide_eq_false (by omega)]
        simp only [bif_f]
        rw [show (Array.toList (ByteArray.data (B l)))[Int.toNat 0]? = some (UInt8.ofNat (48 + c.who.toNat)) from by rw [hl1]; rfl]
        have hbyte : (UInt8.ofNat (48 + c.who.toNat)).toNat = 48 + c.who.toNat := by simp; omega
        have hcmp : (IntKind.wrap IntKind.i64 (((UInt8.toNat (UInt8.ofNat (48 + c.who.toNat)) : Nat) : Int)) != IntKind.wrap IntKind.i64 (48 + c.who)) = false := by
          rw [hbyte, Pa15.wrap_in _ (by omega) (by omega), Pa15.wrap_in _ (by omega) (by omega)]
          simp [bne]; omega
        simp only [Option.bind_some, hcmp, bif_f]
        have hN : IntKind.wrap IntKind.i64 (Int.tmod (IntKind.wrap IntKind.i64 a) 9 + 1) = n := by
          rw [Pa15.wrap_in a (by omega) (by omega), Int.tmod_eq_emod_of_nonneg ha.1, Pa15.wrap_in _ (by omega) (by omega)]; exact hn
        have hN8 : IntKind.wrap IntKind.u8 (IntKind.wrap IntKind.i64 (48 + n)) = 48 + n := by
          rw [Pa15.wrap_in _ (by omega) (by omega), IntKind.wrap_u8]; omega
        rw [hN, hN8, B_size]
        have ht : (ByteArray.mk (List.toArray (List.map (fun x => UInt8.ofNat (Int.toNat x)) ((48 + n) :: [])))) ++ ByteArray.extract (B l) (Int.toNat 1) (Int.toNat ((l.length : Nat) : Int)) = B (UInt8.ofNat (48 + n.toNat) :: 32 :: Lib.join (x :: r) [32]) := by
          rw [show B l = (⟨l.toArray⟩ : ByteArray) from rfl, Pa15.ext_mid, Int.toNat_natCast, show Int.toNat 1 = 1 from rfl]
          have h1 : (l.drop 1).take (l.length - 1) = 32 :: Lib.join (x :: r) [32] := by
            rw [List.take_of_length_le (by simp), hl1]; rfl
          rw [h1, show (List.map (fun x => UInt8.ofNat (Int.toNat x)) ((48 + n) :: [])) = [UInt8.ofNat (48 + n.toNat)] from by rw [List.map_cons, List.map_nil, show (48 + n).toNat = 48 + n.toNat from by omega]]
          exact Va8.mk_append [UInt8.ofNat (48 + n.toNat)] _
        rw [show decide (((l.length : Nat) : Int) ≤ ((l.length : Nat) : Int)) = true from decide_eq_true (by omega), show decide ((0 : Int) ≤ 1) = true from rfl, show decide ((1 : Int) ≤ ((l.length : Nat) : Int)) = true from decide_eq_true (by omega)]
        simp only [Bool.and_self, bif_t]
        rw [ht]
        rw [show ∀ k : Nat, k ≤ 1000000 → Nat.ble k maxI = true from fun k hk => Nat.ble_eq_true_of_le (by unfold maxI; omega)]
        · simp only [bif_t]
          rw [Parse_eq (Nat.le_refl _) _ (by rw [hlen]; omega), first_of (Nat.le_refl _) (by rw [hlen]; omega) v' hF']
          simp only [Option.bind_some, ParseR]
          unfold l33_WordsWho.v4
          have hs := same_eq (κ := 40000) { c with who := n } { c with who := n } (by have := v.way; simp only; omega) (by have := v.way; simp only; omega)
          simp only at hs
          have hli := line_eq (κ := 40000) (Nat.le_refl _) { c with who := n } hF'
          rw [v'.right.2] at hli
          simp only at hli
          rw [hs, same_self, hli]
          simp only [show ((0 : Int) == 0) = true from rfl, bif_t, Option.bind_some, seq_B, decide_true]
        · have : (ByteArray.mk (List.toArray (List.map (fun x => UInt8.ofNat (Int.toNat x)) ((48 + n) :: [])))).size = 1 := rfl
          rw [this, show B l = (⟨l.toArray⟩ : ByteArray) from rfl, Pa15.ext_mid, Pa15.sized, List.length_take]
          omega
  · rw [show decide (((l.length : Nat) : Int) > 3000) = true from decide_eq_true (by omega)]; rfl
end Go.Proofs.YtdoifigogbdodaaGreatDoor.Wo
namespace Go.Proofs.YtdoifigogbdodaaGreatDoor.Wo
open Go Ev Ev.Seat Go.Lib
theorem u8_of {a : Int} (w : (Lit.int .u8 a).wf = true) : 0 ≤ a ∧ a < 256 := by
  have : 0 ≤ a ∧ a ≤ 255 := by simpa [Lit.wf, IntKind.min, IntKind.max, IntKind.signed, IntKind.bits] using w
  omega
theorem WordsWho_row (s : ByteArray) (who : Int) (w : (Lit.int .u8 who).wf = true) : l33_WordsWho 40000 s who = some true := by
  rw [← B_of s]
  exact WordsWho_eq s.data.toList who (u8_of w)
end Go.Proofs.YtdoifigogbdodaaGreatDoor.Wo

