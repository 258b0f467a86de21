/- How an argument of any plain type is opened: what a value reads as gives the Lean value that its cells show. Of no one function. -/
import Derived.Test.YtbbkchclefkikaaDoorWWords
import Derived.Deep.Slices
import Derived.SizedLaws
import Derived.ChangeArms
namespace Go.Proofs.YtbbkchclefkikaaDoor.OpenKd
open Go.ChangeShapes Go.WideShapes Go.RowKit Go.Proofs.YtbbkchclefkikaaDoorW.PrintWords

/-- Cells that read at type t (with fuel N at most) show a value of kind d; wf: what is known of it. -/
def OpensF {α : Type} (P : Program) (d : Kd α) (t : TypeId) (wf : α → Prop) (N : Nat) : Prop :=
  d.sz = P.cellsOf t ∧ ∀ (H : Type) (enc : TypeId × Value → H) (w : World) (base : Nat) (spare : Nat → Bool) (held : Bool) (fuel : Nat) (cs : List Value) (x : DataW H × List MemPlace),
    fuel ≤ N → DataW.trod enc P w base spare held fuel t cs = some x → (∀ n ∈ x.1.weights P t, n ≤ reachBytes) → ∃ a, d.K w a cs ∧ wf a
def Opens {α : Type} (P : Program) (d : Kd α) (t : TypeId) (wf : α → Prop) : Prop := ∀ N, OpensF P d t wf N

theorem OpensF.mono {α : Type} {P : Program} {d : Kd α} {t : TypeId} {wf wf' : α → Prop} {N : Nat} (h : OpensF P d t wf N) (hw : ∀ a, wf a → wf' a) : OpensF P d t wf' N :=
  ⟨h.1, fun H enc w base spare held fuel cs x hN hx hz => by
    obtain ⟨a, hk, ha⟩ := h.2 H enc w base spare held fuel cs x hN hx hz
    exact ⟨a, hk, hw a ha⟩⟩
theorem OpensF.le {α : Type} {P : Program} {d : Kd α} {t : TypeId} {wf : α → Prop} {N M : Nat} (h : OpensF P d t wf N) (hm : M ≤ N) : OpensF P d t wf M :=
  ⟨h.1, fun H enc w base spare held fuel cs x hN hx hz => h.2 H enc w base spare held fuel cs x (Nat.le_trans hN hm) hx hz⟩
theorem opens_int {P : Program} {t : TypeId} {k : IntKind} (ht : P.underlying t = some (.int k)) (hc : P.cellsOf t = 1) (N : Nat) : OpensF P (Kd.int k) t (fun n => (Lit.int k n).wf = true) N :=
  ⟨hc.symm, fun H enc w base spare held fuel cs x _ hx _ => by
    obtain ⟨n, rfl, rfl, hw⟩ := DataW.trod_int ht hx
    exact ⟨n, rfl, hw⟩⟩
theorem opens_bool {P : Program} {t : TypeId} (ht : P.underlying t = some .bool) (hc : P.cellsOf t = 1) (N : Nat) : OpensF P Kd.bool t (fun _ => True) N :=
  ⟨hc.symm, fun H enc w base spare held fuel cs x _ hx _ => by
    obtain ⟨n, rfl, rfl⟩ := DataW.trod_bool ht hx
    exact ⟨n, rfl, trivial⟩⟩
theorem opens_string {P : Program} {t : TypeId} (ht : P.underlying t = some .string) (hc : P.cellsOf t = 1) (N : Nat) : OpensF P Kd.string t (fun s => s.size ≤ 140737488351232) N :=
  ⟨hc.symm, fun H enc w base spare held fuel cs x _ hx hz => by
    obtain ⟨s, rfl, rfl, hs⟩ := DataW.trod_string ht hx
    refine ⟨s, rfl, ?_⟩
    have := hz s.data.toList.length (by simp [DataW.weights])
    rw [Array.length_toList] at this
    exact this⟩
/-- What is known of a slice's elements, and how many there may be. -/
def WfL {α : Type} (B : Nat) (wf : α → Prop) (l : List α) : Prop := l.length * B ≤ 140737488351232 ∧ l.length ≤ maxLen ∧ ∀ a ∈ l, wf a
theorem weights_all {H : Type} {P : Program} {e : TypeId} : ∀ {ds : List (DataW H)} {n : Nat}, n ∈ DataW.weightsAll P e ds ↔ ∃ d ∈ ds, n ∈ d.weights P e
  | [], n => by simp [DataW.weightsAll]
  | d :: r, n => by simp [DataW.weightsAll, weights_all (ds := r)]
theorem slice_open {α : Type} {P : Program} {d : Kd α} {t e : TypeId} {wf : α → Prop} {N : Nat} (ht : P.underlying t = some (.slice e)) (h : OpensF P d e wf N)
    {H : Type} {enc : TypeId × Value → H} {w : World} {base : Nat} {spare : Nat → Bool} {held : Bool} {fuel : Nat} {cs : List Value} {x : DataW H × List MemPlace}
    (hN : fuel ≤ N + 1) (hx : DataW.trod enc P w base spare held fuel t cs = some x) (hz : ∀ n ∈ x.1.weights P t, n ≤ reachBytes) :
    ∃ (A : Option Addr) (c : Nat) (l : List α), cs = [.slice A l.length c] ∧ l.length ≤ c ∧ d.C w A l.length l ∧ WfL (P.bytesOf e) wf l := by
  rcases DataW.trod_slice ht hx with ⟨rfl, rfl⟩ | ⟨a, len, cap, elems, rest, n, hf, rfl, rfl, hb, hl, hm, hlen, hel, hsp, hns⟩
  · exact ⟨none, 0, [], rfl, Nat.le_refl _, ⟨rfl, by simp, fun h => absurd h (by simp)⟩, by simp [WfL]⟩
  · have hall : ∀ i, i < len → ∃ a' cs', w.cells? base (a.add (i * P.cellsOf e)) (P.cellsOf e) = some cs' ∧ d.K w a' cs' ∧ wf a' := by
      intro i hi
      have h1 := hel i hi
      rw [List.getElem?_eq_getElem (by omega)] at h1
      obtain ⟨cs', h2, h3⟩ := Option.bind_eq_some_iff.1 h1
      obtain ⟨a', hk, hw⟩ := h.2 H enc w base spare held n cs' _ (by omega) h3 (fun m hm => by
        refine hz m ?_
        simp only [DataW.weights, ht, List.mem_cons, List.mem_append, weights_all]
        exact .inr (.inl ⟨_, List.mem_map.2 ⟨elems[i]'(by omega), List.getElem_mem _, rfl⟩, hm⟩))
      exact ⟨a', cs', h2, hk, hw⟩
    obtain ⟨f, hf⟩ : ∃ f : Fin len → α, ∀ i : Fin len, ∃ cs', w.cells? base (a.add (i.1 * P.cellsOf e)) (P.cellsOf e) = some cs' ∧ d.K w (f i) cs' ∧ wf (f i) :=
      ⟨fun i => Classical.choose (hall i.1 i.2), fun i => Classical.choose_spec (hall i.1 i.2)⟩
    refine ⟨some a, cap, List.ofFn f, by simp, by simpa using hl, ⟨rfl, ?_, fun _ => ⟨a, rfl, fun j p hp => ?_⟩⟩, ?_, ?_, ?_⟩
    · simp only [List.length_ofFn]; unfold maxLen at hm; omega
    · have hj : j < len := by
        have := (List.getElem?_eq_some_iff.1 hp).1
        simpa using this
      have hp' : f ⟨j, hj⟩ = p := by
        rw [List.getElem?_eq_getElem (by simpa using hj)] at hp
        simpa using hp
      obtain ⟨cs', h2, hk, _⟩ := hf ⟨j, hj⟩
      rw [hp'] at hk
      refine ⟨cs', d.K_len hk, hk, fun i u hu => ?_⟩
      obtain ⟨_, _, h5⟩ := World.cells?_some h2
      have hi : i < P.cellsOf e := by
        have := (List.getElem?_eq_some_iff.1 hu).1
        rw [d.K_len hk, h.1] at this
        exact this
      have h6 := h5 i hi
      rw [h.1, ← Deep.add_add]
      rw [h6]; exact hu
    · have := hz ((elems.length + rest.length) * P.bytesOf e) (by simp [DataW.weights, ht])
      rw [List.length_ofFn]
      refine Nat.le_trans (Nat.mul_le_mul_right _ ?_) this
      omega
    · simpa using Nat.le_trans hl hm
    · intro b hb'
      obtain ⟨i, rfl⟩ := List.mem_ofFn.1 hb'
      obtain ⟨_, _, _, hw⟩ := hf i
      exact hw
theorem opens_slice {α : Type} {P : Program} {d : Kd α} {t e : TypeId} {wf : α → Prop} {N : Nat} (ht : P.underlying t = some (.slice e)) (hc : P.cellsOf t = 1) (h : OpensF P d e wf N) : OpensF P (Kd.slice e d) t (WfL (P.bytesOf e) wf) (N + 1) :=
  ⟨hc.symm, fun H enc w base spare held fuel cs x hN hx hz => by
    obtain ⟨A, c, l, rfl, hl, hC, hw⟩ := slice_open ht h hN hx hz
    exact ⟨l, ⟨A, c, rfl, hl, hC⟩, hw⟩⟩

/-! ### structs -/
def RowF {α : Type} (P : Program) (d : Kd α) (fs : List Field) (off : Nat) (wf : α → Prop) (N : Nat) : Prop :=
  ∀ (H : Type) (enc : TypeId × Value → H) (w : World) (base : Nat) (spare : Nat → Bool) (held : Bool) (fuel : Nat) (cs : List Value) (xs : List (DataW H × List MemPlace)),
    fuel ≤ N → cs.length = off + d.sz → xs.length = fs.length →
    (∀ (i : Nat) (f : Field), fs[i]? = some f → DataW.trod enc P w base spare held fuel f.type ((cs.drop f.offset).take (P.cellsOf f.type)) = xs[i]?) →
    (∀ (i : Nat) (f : Field) (x : DataW H × List MemPlace), fs[i]? = some f → xs[i]? = some x → ∀ n ∈ x.1.weights P f.type, n ≤ reachBytes) →
    ∃ a, d.K w a (cs.drop off) ∧ wf a
theorem row_last {α : Type} {P : Program} {d : Kd α} {f : Field} {off : Nat} {wf : α → Prop} {N : Nat} (h : OpensF P d f.type wf N) (ho : f.offset = off) : RowF P d [f] off wf N := by
  intro H enc w base spare held fuel cs xs hN hl hx hr hz
  match xs, hx with
  | [x], _ =>
    have h1 := hr 0 f rfl
    obtain ⟨a, hk, hw⟩ := h.2 H enc w base spare held fuel _ x hN h1 (hz 0 f x rfl rfl)
    rw [ho, ← h.1, List.take_of_length_le (by rw [List.length_drop]; omega)] at hk
    exact ⟨a, hk, hw⟩
theorem row_cons {α β : Type} {P : Program} {a : Kd α} {b : Kd β} {f : Field} {fs : List Field} {off : Nat} {wa : α → Prop} {wb : β → Prop} {N : Nat} (h : OpensF P a f.type wa N) (ho : f.offset = off) (hr : RowF P b fs (off + a.sz) wb N) :
    RowF P (Kd.pair a b) (f :: fs) off (fun x => wa x.1 ∧ wb x.2) N := by
  intro H enc w base spare held fuel cs xs hN hl hx hrd hz
  match xs, hx with
  | x :: xs, hx =>
    have hl' : cs.length = off + (a.sz + b.sz) := hl
    have h1 := hrd 0 f rfl
    obtain ⟨y, hk, hw⟩ := h.2 H enc w base spare held fuel _ x hN h1 (hz 0 f x rfl rfl)
    rw [ho, ← h.1] at hk
    obtain ⟨z, hk2, hw2⟩ := hr H enc w base spare held fuel cs xs hN (by omega) (by simpa using hx) (fun i g hg => hrd (i + 1) g (by simpa using hg)) (fun i g y' hg hy => hz (i + 1) g y' (by simpa using hg) (by simpa using hy))
    refine ⟨(y, z), ⟨_, _, ?_, hk, hk2⟩, hw, hw2⟩
    rw [← List.drop_drop, List.take_append_drop]
theorem RowF.iso {α β : Type} {P : Program} {d : Kd α} {fs : List Field} {off : Nat} {wf : α → Prop} {N : Nat} (h : RowF P d fs off wf N) (f : β → α) (g : α → β) (hg : ∀ x, f (g x) = x) : RowF P (Kd.iso d f) fs off (fun y => wf (f y)) N := by
  intro H enc w base spare held fuel cs xs hN hl hx hr hz
  obtain ⟨a, hk, hw⟩ := h H enc w base spare held fuel cs xs hN hl hx hr hz
  exact ⟨g a, by show d.K w (f (g a)) _; rw [hg]; exact hk, by show wf (f (g a)); rw [hg]; exact hw⟩
theorem weights_each {H : Type} {P : Program} : ∀ {ts : List TypeId} {ds : List (DataW H)} {i : Nat} {t : TypeId} {d : DataW H}, ts[i]? = some t → ds[i]? = some d → ∀ n ∈ d.weights P t, n ∈ DataW.weightsEach P ts ds :=
  fun ht hd n hn => DataW.weights_mem_each ht hd n hn
theorem opens_struct {α : Type} {P : Program} {d : Kd α} {t : TypeId} {fs : Array Field} {wf : α → Prop} {N : Nat} (ht : P.underlying t = some (.struct fs)) (hc : P.cellsOf t = d.sz) (h : RowF P d fs.toList 0 wf N) : OpensF P d t wf (N + 1) :=
  ⟨hc.symm, fun H enc w base spare held fuel cs x hN hx hz => by
    obtain ⟨xs, n, hf, rfl, hl, hlx, hr⟩ := DataW.trod_struct ht hx
    obtain ⟨a, hk, hw⟩ := h H enc w base spare held n cs xs (by omega) (by rw [Nat.zero_add]; omega) (by simpa using hlx) (fun i f hf' => hr i f (by simpa using hf')) (fun i f x hf' hx' m hm => by
      refine hz m ?_
      simp only [DataW.weights, ht]
      exact weights_each (i := i) (t := f.type) (d := x.1) (by rw [List.getElem?_map, hf']; rfl) (by rw [List.getElem?_map, hx']; rfl) m hm)
    exact ⟨a, hk, hw⟩⟩

/-! ### a parameter -/
theorem param_slice {α : Type} {P : Program} {d : Kd α} {t e : TypeId} {wf : α → Prop} (ht : P.underlying t = some (.slice e)) (h : Opens P d e wf)
    {H : Type} {enc : TypeId × Value → H} {w : World} {base : Nat} {spare : Nat → Bool} {held : Bool} {v : Value} {x : DataW H} {ps : List MemPlace} {r : Reach} {b0 : Nat} (hv : Value.okWide P w r b0 t v)
    {ts : List TypeId} {ds : List (DataW H)} {j : Nat} (hsz : (DataW.weightsEach P ts ds).all (· ≤ reachBytes) = true) (hj : ts[j]? = some t) (hd : ds[j]? = some x) (hx : DataW.Trod enc P w base spare held t v x ps) :
    ∃ (A : Option Addr) (c : Nat) (l : List α), v = .slice A l.length c ∧ l.length ≤ c ∧ d.C w A l.length l ∧ WfL (P.bytesOf e) wf l := by
  obtain ⟨fuel, hf⟩ := hx
  obtain ⟨a, len, cap, rfl⟩ := okWide_slice ht hv
  obtain ⟨A, c, l, he, hl, hC, hw⟩ := slice_open ht (h fuel) (by omega) hf (fun n hn => by simpa using List.all_eq_true.1 hsz _ (DataW.weights_mem_each hj hd n hn))
  simp only [Value.cells] at he
  injection he with he
  exact ⟨A, c, l, he, hl, hC, hw⟩
theorem param_struct {α : Type} {P : Program} {d : Kd α} {t : TypeId} {fs : Array Field} {wf : α → Prop} (ht : P.underlying t = some (.struct fs)) (h : Opens P d t wf)
    {H : Type} {enc : TypeId × Value → H} {w : World} {base : Nat} {spare : Nat → Bool} {held : Bool} {v : Value} {x : DataW H} {ps : List MemPlace} {r : Reach} {b0 : Nat} (hv : Value.okWide P w r b0 t v)
    {ts : List TypeId} {ds : List (DataW H)} {j : Nat} (hsz : (DataW.weightsEach P ts ds).all (· ≤ reachBytes) = true) (hj : ts[j]? = some t) (hd : ds[j]? = some x) (hx : DataW.Trod enc P w base spare held t v x ps) :
    ∃ (cs : Array Value) (a : α), v = .agg cs ∧ d.K w a cs.toList ∧ wf a := by
  obtain ⟨fuel, hf⟩ := hx
  obtain ⟨cs, rfl, _⟩ := okWide_struct ht hv
  obtain ⟨a, hk, hw⟩ := (h fuel).2 H enc w base spare held fuel _ _ (Nat.le_refl _) hf (fun n hn => by simpa using List.all_eq_true.1 hsz _ (DataW.weights_mem_each hj hd n hn))
  exact ⟨cs, a, rfl, hk, hw⟩
end Go.Proofs.YtbbkchclefkikaaDoor.OpenKd
