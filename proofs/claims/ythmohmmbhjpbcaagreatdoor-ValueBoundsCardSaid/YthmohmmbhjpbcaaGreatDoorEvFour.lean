import Derived.Test.YthmohmmbhjpbcaaGreatDoorEvThree
import Derived.Recover
import Derived.Below
import Derived.WalkKit
import Derived.ProofKit
import Derived.OpenShut
import Derived.ShutString
import Derived.Deep.Slices
import Derived.SizedLaws
import Derived.ChangeArms
import Derived.RowKit
set_option linter.unusedVariables false
set_option linter.unusedSimpArgs false
set_option maxHeartbeats 1000000
namespace Go.Proofs.YthmohmmbhjpbcaaGreatDoor.Ev
open Go
variable {T : Nat → Type} {C : Cdc T} {P : Program} {σ : Lk} {H : List (AObj T)} {w : World} {G : Nat → Option (List (V T))} {R : Type}

def modeB (pan : Bool) (v : Value) : FrameMode := bif pan then .panicking [{ v, recovered := false }] else .returning
def modeA (pan : Bool) (v : Value) : FrameMode := bif pan then .panicking [{ v, recovered := true }] else .returning
abbrev EntryD (T : Nat → Type) := (R : Type) → Bool → AV T → List (AV T) → List (AObj T) → (AV T → List (AObj T) → Option R) → Option R
abbrev GamD (T : Nat → Type) := FuncId → EntryD T
def EOkD (P : Program) (C : Cdc T) (G : Nat → Option (List (V T))) (g : FuncId) (e : EntryD T) : Prop :=
  ∀ (R : Type) (pan : Bool) (p : AV T) (args : List (AV T)) (H : List (AObj T)) (k : AV T → List (AObj T) → Option R) (r : R), e R pan p args H k = some r →
    ∀ (σ : Lk) (w : World) (v : Value) (vs : List Value), Rp C σ H w G → RepA C σ H w p v → RepL C σ H w args vs →
      (callFunc g vs.toArray).run P w = .ok (.enter g vs.toArray) w ∧ CallsD P g vs.toArray (modeB pan v) w fun en u' w' => u' = modeA pan v ∧ ∃ x H', k x H' = some r ∧ Ends C G σ H w (.ret x H') en w'
def GOkD (P : Program) (C : Cdc T) (G : Nat → Option (List (V T))) (Γ : GamD T) : Prop := ∀ g, EOkD P C G g (Γ g)
def isRecover (o : Oper) : Bool :=
  match o.guard, o.op with
  | none, .call { callee := .builtin .recover, args, .. } => Nat.beq args.size 0
  | _, _ => false

def funR (C : Cdc T) (P : Program) (G : Nat → Option (List (V T))) (Γ : Gam T) (cut : Key → Option (Cut T)) (NR : NormT T) (fn : Func) (pan : Bool) (p : AV T) (args : List (AV T)) (H : List (AObj T)) (K : AV T → List (AObj T) → Option R) : Option R :=
  match fn.body with
  | some (.seq (.region _ ops false) c) => match ops.toList with
    | o :: rest => bif Nat.ble args.length fn.ntmps && isRecover o then
        finA o.dst fn.ntmps (envOf args) [] (bif pan then p else .v .if0) H [] fun env H1 ds =>
          opsA C P G Γ fn.ntmps (fun j => (ops[j]?).bind (·.dst)) rest env H1 ds (fun env H1 ds => codeA C P G Γ fn.ntmps cut c env H1 ds fun
            | .normal, env, H', [] => (resA C P G env H' fn.results.toList).bind fun xs => oneN NR (oneOf xs) H' fun x H => K x H
            | .ret, env, H', [] => (resA C P G env H' fn.results.toList).bind fun xs => oneN NR (oneOf xs) H' fun x H => K x H
            | _, _, _, _ => none) (fun _ _ _ _ => none)
      else none
    | _ => none
  | _ => none

theorem opsS_ok (hC : CdcOk C) {Γ : Gam T} (hΓ : GOk P C G Γ) {n : Nat} {B : Base T} {ops : Array Oper} {dsts : Nat → Option Nat} (hd : ∀ j, dsts j = (ops[j]?).bind (·.dst)) {K : KS T R} {r : R} {Q : Exit → Act → List Frame → World → Prop} {cs : List Frame}
    (hK : ∀ σ' env' H' ds' a' w', K env' H' ds' = some r → St C G n B σ' env' H' ds' a' w' → Q .normal a' cs w') :
    ∀ (l : List Oper) (k : Nat), (∀ j, l[j]? = ops[k + j]?) → ∀ (σ : Lk) (env : Env T) (H : List (AObj T)) (ds : Ds T) (a : Act) (w : World), St C G n B σ env H ds a w → opsA C P G Γ n dsts l env H ds K (fun _ _ _ _ => none) = some r → wpOpsS P ops Q (List.range' k l.length) a cs w := by
  intro l
  induction l with
  | nil => intro k _ σ env H ds a w st h; exact hK _ _ _ _ _ _ h st
  | cons o l ih =>
    intro k hk σ env H ds a w st h
    have ho : ops[k]? = some o := by have := hk 0; simpa using this.symm
    have := operA_ok hC hΓ st hd h (next := fun a w => wpOpsS P ops Q (List.range' (k + 1) l.length) a cs w) (Q := fun _ _ _ => False)
      (fun σ' env' H' ds' a' w' h' st' => ih (k + 1) (fun j => by have := hk (j + 1); simp at this; rw [this]; congr 1; omega) σ' env' H' ds' a' w' st' h')
      (fun σ' env' p H' ds' v w' h' st' => by cases h')
    rw [List.length_cons, List.range'_succ]
    simp only [wpOpsS, ho]
    split
    · rename_i hw
      rw [if_pos hw] at this
      unfold Oper.wp at this
      split
      · rename_i w' hr; rw [hr] at this; exact this.elim
      · rename_i r' hnot
        generalize (execOp a.eval o).run P w = rr at this
        -- what is not recovered is as before
        cases rr with
        | ok x w1 =>
          cases x <;> first
            | exact this
            | (exact this.elim)
            | (refine this.mono fun e w2 he => ?_
               cases e with
               | returned v => exact he
               | panicked c => exact he.elim
               | outgrown => obtain ⟨_, _, hf⟩ := he; exact hf.elim)
        | halt x w1 => cases x <;> exact this.elim
    · rename_i hw
      rw [if_neg hw] at this
      exact this

theorem funR_ok (hC : CdcOk C) {Γ : Gam T} (hΓ : GOk P C G Γ) (hm : P.follows .mixedOrders = true) {cut : Key → Option (Cut T)} {NR : NormT T} {f : FuncId} {fn : Func} (hf : P.funcs[f]? = some fn) {pan : Bool} {p : AV T}
    {args : List (AV T)} {H : List (AObj T)} (hNR : NormOk C G H.length NR) (hcut : ∀ x c, fn.body = some (.seq x c) → CutsOk P C G fn.ntmps H.length cut c) {K : AV T → List (AObj T) → Option R} {r : R} (h : funR C P G Γ cut NR fn pan p args H K = some r) :
    ∀ (σ : Lk) (w : World) (v : Value) (vs : List Value), Rp C σ H w G → RepA C σ H w p v → RepL C σ H w args vs → CallsD P f vs.toArray (modeB pan v) w fun en u' w' => u' = modeA pan v ∧ ∃ x H', K x H' = some r ∧ Ends C G σ H w (.ret x H') en w' := by
  intro σ w v vs hR hp ha
  unfold funR at h
  split at h
  · rename_i id ops c hb
    split at h
    · rename_i o rest hops
      cases hle : Nat.ble args.length fn.ntmps && isRecover o
      · rw [hle] at h; cases h
      · rw [hle] at h
        simp only [cond_true] at h
        rw [Bool.and_eq_true] at hle
        have hle' := Nat.le_of_ble_eq_true hle.1
        have hlen := ha.length
        refine callsD_of_wpS hf hb fun c₀ cs hmode => wpS_seq (wpS_region ?_)
        have st : St C G fn.ntmps ⟨σ, H, w⟩ σ (envOf args) H [] { tmps := vs.toArray ++ Array.replicate (fn.ntmps - vs.toArray.size) undef, defers := [] } w :=
          ⟨hR, Anc.refl C σ H w, by simp; omega, envOf_rep ha _, rfl⟩
        generalize ({ tmps := vs.toArray ++ Array.replicate (fn.ntmps - vs.toArray.size) undef, defers := [] } : Act) = a0 at st ⊢
        have hsz : ops.size = rest.length + 1 := by have := congrArg List.length hops; simpa using this
        have ho0 : ops[0]? = some o := by rw [← Array.getElem?_toList, hops]; rfl
        rw [List.range_eq_range', hsz, List.range'_succ]
        simp only [wpOpsS, ho0]
        have hrec := hle.2
        unfold isRecover at hrec
        split at hrec
        · rename_i ar tys hg hop
          have hw : Region.wanted o (yielded ops a0.tmps) = true := by simp [Region.wanted, hg]
          rw [if_pos hw]
          have hrun : (execOp a0.eval o).run P w = .ok .recover w := by
            unfold execOp
            rw [hop]
            rfl
          rw [hrun]
          simp only
          -- what is recovered
          have fin : ∀ (x : AV T) (y : Value) (cs' : List Frame), RepA C σ H w x y → x = (bif pan then p else .v .if0) → cs' = { c₀ with mode := modeA pan v } :: cs →
              wpOpsS P ops (Exit.thenS (Code.wpS P c (bodyPostS P fn c₀ cs fun en u' w' => u' = modeA pan v ∧ ∃ x H', K x H' = some r ∧ Ends C G σ H w (.ret x H') en w')) (bodyPostS P fn c₀ cs fun en u' w' => u' = modeA pan v ∧ ∃ x H', K x H' = some r ∧ Ends C G σ H w (.ret x H') en w')) (List.range' 1 rest.length) (a0.put o.dst y) cs' w := by
            intro x y cs' hx hxe hcs
            rw [← hxe] at h
            obtain ⟨env', ds', h', st'⟩ := finA_ok st (Step.refl hR) hx h
            refine opsS_ok hC hΓ (ops := ops) (fun j => rfl) (fun σ' env' H' ds' a' w' hk st' => ?_) rest 1 (fun j => ?_) σ env' H ds' _ w st' h'
            · show Code.wpS P c _ a' cs' w'
              refine wpS_of_wp (wp_mono (codeA_ok hC hΓ hm (B := ⟨σ, H, w⟩) rfl c (hcut _ c hb) _ σ' env' H' ds' a' w' st' hk) fun e a'' w'' hpost => ?_)
              obtain ⟨σ2, ex, env2, H2, ds2, q1, q2, q3⟩ := hpost
              have done : ∀ env2 H2 ds2 σ2, (resA C P G env2 H2 fn.results.toList).bind (fun xs => oneN NR (oneOf xs) H2 fun x H => K x H) = some r → ds2 = [] → St C G fn.ntmps ⟨σ, H, w⟩ σ2 env2 H2 ds2 a'' w'' →
                  a''.defers = [] ∧ ∃ u', cs' = { c₀ with mode := u' } :: cs ∧ ∃ v2, (results fn a''.tmps).run P w'' = .ok v2 w'' ∧ u' = modeA pan v ∧ ∃ x H', K x H' = some r ∧ Ends C G σ H w (.ret x H') (.returned v2) w'' := by
                intro env2 H2 ds2 σ2 hh hds q3
                subst hds
                obtain ⟨xs, hxs, hh⟩ := Option.bind_eq_some_iff.1 hh
                obtain ⟨v2, k1, k2⟩ := run_results (P := P) q3.rp q3.env hxs
                obtain ⟨x', H'', σ'', z1, z2, z3, z4⟩ := oneN_ok hNR (B := ⟨σ, H, w⟩) rfl q3.rp q3.anc k2 hh
                exact ⟨q3.ds, _, hcs, v2, k1, rfl, x', H'', z1, v2, σ'', rfl, z2, z3, z4⟩
              cases ex with
              | normal =>
                cases (show e = _ from q2)
                cases ds2 with
                | nil => exact done _ _ _ _ q1 rfl q3
                | cons => cases q1
              | ret =>
                cases (show e = _ from q2)
                cases ds2 with
                | nil => exact done _ _ _ _ q1 rfl q3
                | cons => cases q1
              | exit i => cases ds2 <;> cases q1
              | pan p => cases ds2 <;> cases q1
            · have := congrArg (fun l : List Oper => l[j + 1]?) hops
              simp at this
              rw [← this, Nat.add_comm]
          cases pan with
          | false =>
            have hm0 : c₀.mode = .returning := hmode
            have hrd : recoverD (c₀ :: cs) = none := by simp [recoverD, hm0]
            rw [hrd]
            refine fin (.v .if0) .nilIface _ .if0 rfl ?_
            have : ({ c₀ with mode := FrameMode.returning } : Frame) = c₀ := by rw [← hm0]
            show c₀ :: cs = { c₀ with mode := FrameMode.returning } :: cs
            rw [this]
          | true =>
            have hm0 : c₀.mode = .panicking [{ v, recovered := false }] := hmode
            have hrd : recoverD (c₀ :: cs) = some (v, { c₀ with mode := .panicking [{ v, recovered := true }] } :: cs) := by simp [recoverD, hm0]
            rw [hrd]
            exact fin p v _ hp rfl rfl
        · cases hrec
    · cases h
  · cases h

def GamD.addS (Δ : GamD T) (g : Nat) (pan : Bool) {I X : Type} (s : Spec T I X) (f : I → Option X) : GamD T :=
  fun h R pan' p args H k => bif Nat.beq h g && (pan == pan') then (match s.dcI (p :: args) H with
    | some i => (f i).bind fun x => s.goO R x fun o => match o with
      | .ret y H' => k y H'
      | .panic _ _ => none
    | none => Δ h R pan' p args H k) else Δ h R pan' p args H k

def funRL (C : Cdc T) (P : Program) (G : Nat → Option (List (V T))) (Γ : Gam T) (cut : Key → Option (Cut T)) (NR : NormT T) (fn : Func) (pan : Bool) (as : List (AV T)) (H : List (AObj T)) (K : AV T → List (AObj T) → Option R) : Option R :=
  match as with
  | p :: args => funR C P G Γ cut NR fn pan p args H K
  | [] => none

theorem GOkD.addS {I X : Type} {s : Spec T I X} (hs : SpecOk s) (hC : CdcOk C) (hm : P.follows .mixedOrders = true) {Δ : GamD T} (hΔ : GOkD P C G Δ) {Γ : Gam T} (hΓ : GOk P C G Γ) {cut : Key → Option (Cut T)} {g : Nat} {pan : Bool} {fn : Func} {c x : Code} {NR : NormT T} {nB : Nat}
    (hf : P.funcs[g]? = some fn) (hb : fn.body = some (.seq x c)) (hn : (fn.name == "runtime.NumGoroutine") = false) (hnB : ∀ i, (s.ecH i).length = nB) (hNR : NormOk C G nB NR) (hcut : CutsOk P C G fn.ntmps nB cut c)
    {f : I → Option X} (hev : ∀ i, funRL C P G Γ cut NR fn pan (s.ecA i) (s.ecH i) (fun y H => s.dcO (.ret y H)) = f i) : GOkD P C G (Δ.addS g pan s f) := by
  intro h R pan' p args H k r hr
  unfold GamD.addS at hr
  cases hq : Nat.beq h g && (pan == pan')
  · rw [hq] at hr; exact hΔ h R pan' p args H k r hr
  · rw [hq] at hr
    simp only [cond_true] at hr
    rw [Bool.and_eq_true] at hq
    split at hr
    · rename_i i hi
      have hg := Nat.eq_of_beq_eq_true hq.1
      subst hg
      have hp : pan = pan' := by simpa using hq.2
      subst hp
      obtain ⟨z, hz, hk⟩ := Option.bind_eq_some_iff.1 hr
      rw [hs.hG] at hk
      obtain ⟨ha, hH⟩ := hs.hI _ _ _ hi
      intro σ w v vs hR hpv hvs
      refine ⟨callable hf hb hn _ w, ?_⟩
      have hev' := hev i
      rw [← ha, ← hH] at hev'
      unfold funRL at hev'
      rw [hz] at hev'
      have hH' : H.length = nB := by rw [hH]; exact hnB i
      refine (funR_ok hC hΓ hm hf (by rw [hH']; exact hNR) (fun x' c' hc => by rw [hb] at hc; cases hc; rw [hH']; exact hcut) hev' σ w v vs hR hpv hvs).mono fun en u' w' ⟨hu, y, H', k1, k2⟩ => ⟨hu, ?_⟩
      rw [← hs.hO _ _ k1] at hk
      exact ⟨y, H', hk, k2⟩
    · exact hΔ h R pan' p args H k r hr
end Go.Proofs.YthmohmmbhjpbcaaGreatDoor.Ev


namespace Go.Proofs.YthmohmmbhjpbcaaGreatDoor.Ev
open Go

def FinerL {T : Nat → Type} : List (V T) → List (V T) → Prop
  | [], [] => True
  | a :: l, b :: m => Finer a b ∧ FinerL l m
  | _, _ => False
theorem Finer.rfl {T : Nat → Type} {a : V T} : Finer a a := .inl (Eq.refl a)
theorem FinerL.length {T : Nat → Type} : ∀ {l m : List (V T)}, FinerL l m → l.length = m.length
  | [], [], _ => Eq.refl _
  | a :: l, b :: m, h => congrArg (· + 1) h.2.length
  | [], _ :: _, h => h.elim
  | _ :: _, [], h => h.elim
theorem FinerL.get {T : Nat → Type} : ∀ {l m : List (V T)}, FinerL l m → ∀ (j : Nat) (a b : V T), l[j]? = some a → m[j]? = some b → Finer a b
  | [], [], _, j, a, b, h, _ => by simp at h
  | x :: l, y :: m, h, 0, a, b, h1, h2 => by simp at h1 h2; subst h1; subst h2; exact h.1
  | x :: l, y :: m, h, j + 1, a, b, h1, h2 => h.2.get j a b (by simpa using h1) (by simpa using h2)
  | [], _ :: _, h, _, _, _, _, _ => h.elim
  | _ :: _, [], h, _, _, _, _, _ => h.elim

structure Co (T : Nat → Type) (X : Type) where
  size : Nat
  enc : X → List (V T)
  dec : List (V T) → Option X
  len : ∀ x, (enc x).length = size
  fin : ∀ cs x, dec cs = some x → FinerL cs (enc x)
  pos : 0 < size

def coNone (T : Nat → Type) (X : Type) : Co T X := ⟨1, fun _ => [.b true], fun _ => none, fun _ => rfl, fun _ _ h => (by cases h), Nat.one_pos⟩

def mkC {T : Nat → Type} (co : (t : Nat) → Co T (T t)) (typed : Nat → Bool) (bt : Nat) (ofB : Int → T bt) (toB : T bt → Int) : Cdc T :=
  { enc := fun t => (co t).enc, dec := fun t => (co t).dec, size := fun t => (co t).size, typed, bt, ofB, toB }
theorem mkC_ok {T : Nat → Type} {co : (t : Nat) → Co T (T t)} {typed : Nat → Bool} {bt : Nat} {ofB : Int → T bt} {toB : T bt → Int}
    (h1 : ∀ x, (co bt).enc x = [.i .u8 (toB x)]) (h2 : ∀ n, toB (ofB n) = n) : CdcOk (mkC co typed bt ofB toB) :=
  ⟨fun t x => (co t).len x, fun t cs x h => ((co t).fin cs x h).get, fun t cs x h => ((co t).fin cs x h).length.trans ((co t).len x), fun t => (co t).pos, h1, h2⟩

end Go.Proofs.YthmohmmbhjpbcaaGreatDoor.Ev


namespace Go.Proofs.YthmohmmbhjpbcaaGreatDoor.Ev
open Go Go.RowKit
variable {T : Nat → Type} {C : Cdc T} {P : Program} {σ : Lk} {w w' : World} {G : Nat → Option (List (V T))} {R : Type}

theorem move_below (hb : Below w.heap.size w w') {F : Nat → Nat → Prop} : ∀ b off x, Cell C σ [] w b off x → Cell C σ [] w' b off x := by
  intro b off x ⟨h1, h2⟩
  exact ⟨h1, (cell_of_block (hb.block b (cell_lt h2))).trans h2⟩

theorem rp_below (hR : Rp C σ [] w G) (hb : Below w.heap.size w w') : Rp C σ [] w' G ∧ Anc C σ [] w σ [] w' := by
  have hc : ∀ b off x, Cell C σ [] w b off x → Cell C σ [] w' b off x := move_below (F := σ.F) hb
  have nil : ∀ {i : Nat} {o : AObj T}, ([] : List (AObj T))[i]? = some o → False := fun h => by simp at h
  refine ⟨⟨fun i j oi oj b hi => (nil hi).elim, fun i o b hi => (nil hi).elim, fun i o hi => (nil hi).elim, fun g l hg => (hR.glob g l hg).mono hc, fun i o b hi => (nil hi).elim, fun b off hF => Nat.lt_of_lt_of_le (hR.fb b off hF) hb.size⟩,
    ⟨rfl, hb.os, hb.tape, hb.output, hb.size, Nat.le_refl _, fun _ _ _ h => h, fun b off hlt _ => cell_of_block (hb.block b hlt), fun b hlt _ => hb.block b hlt, fun _ _ _ _ => rfl, fun _ o _ h1 h2 h3 => .inl ⟨o, h1, h2, h3⟩, fun _ o o' h h' hr => by rw [h] at h'; cases h'; exact hr⟩⟩

theorem Spec.lib {I X : Type} {s : Spec T I X} (hs : SpecOk s) {g : FuncId} {f : I → Option X} (hcall : ∀ (vs : Array Value) (w : World), (callFunc g vs).run P w = .ok (.enter g vs) w)
    (hH : ∀ i, s.ecH i = [])
    (h : ∀ i x, f i = some x → ∀ (σ : Lk) (w : World) (vs : List Value), Rp C σ [] w G → RepL C σ [] w (s.ecA i) vs → ∃ y, s.ecO x = .ret y [] ∧
      Calls P g vs.toArray w fun e w' => Below w.heap.size w w' ∧ ∃ v, e = .returned v ∧ RepA C σ [] w' y v) : EOk P C G g (s.entry f) := by
  intro R args H k r hr
  intro σ w vs hR ha
  unfold Spec.entry at hr
  obtain ⟨i, hi, h'⟩ := Option.bind_eq_some_iff.1 hr
  obtain ⟨x, hx, hk⟩ := Option.bind_eq_some_iff.1 h'
  rw [hs.hG] at hk
  obtain ⟨h1, h2⟩ := hs.hI _ _ _ hi
  rw [hH] at h2
  subst h1; subst h2
  obtain ⟨y, hy, hc⟩ := h i x hx σ w vs hR ha
  refine .inl ⟨hcall _ w, hc.mono fun e w' ⟨hb, v, he, hv⟩ => ⟨_, hk, ?_⟩⟩
  rw [hy]
  obtain ⟨q1, q2⟩ := rp_below hR hb
  exact ⟨v, σ, he, q1, q2, hv⟩

theorem below_of_anc {σ' : Lk} {H' : List (AObj T)} (hA : Anc C σ [] w σ' H' w') : Below w.heap.size w w' :=
  ⟨hA.os, hA.tape, hA.output, hA.size, fun b hb => hA.block b hb fun i o hi => by simp at hi⟩

theorem calls_of_eok {g : FuncId} {e : Entry T} (h : EOk P C G g e) (hen : ∀ (vs : Array Value) (w : World), (callFunc g vs).run P w = .ok (.enter g vs) w) {args : List (AV T)} {X : Type} {r : X} {k : Out T → Option X} (he : e X args [] k = some r) (hG : ∀ g l, G g = some l → RepCs C (Cell C ⟨fun _ => none, fun _ _ => False⟩ ([] : List (AObj T)) w) l g 0) {vs : List Value}
    (ha : RepL C ⟨fun _ => none, fun _ _ => False⟩ [] w args vs) :
    Calls P g vs.toArray w fun e w' => Below w.heap.size w w' ∧ ∃ out σ' H', k out = some r ∧ match out with
      | .ret x H2 => H2 = H' ∧ ∃ v, e = .returned v ∧ RepA C σ' H' w' x v
      | .panic p H2 => H2 = H' ∧ ∃ v, e = .panicked [{ v, recovered := false }] ∧ RepA C σ' H' w' p v := by
  have nil : ∀ {i : Nat} {o : AObj T}, ([] : List (AObj T))[i]? = some o → False := fun h => by simp at h
  have hR : Rp C ⟨fun _ => none, fun _ _ => False⟩ [] w G :=
    ⟨fun i j oi oj b hi => (nil hi).elim, fun i o b hi => (nil hi).elim, fun i o hi => (nil hi).elim, fun g l hg => hG g l hg, fun i o b hi => (nil hi).elim, fun b off hF => hF.elim⟩
  have h2 : Calls P g vs.toArray w fun e w' => ∃ out, k out = some r ∧ Ends C G ⟨fun _ => none, fun _ _ => False⟩ [] w out e w' := by
    rcases h X args [] k r he _ w vs hR ha with ⟨_, h2⟩ | ⟨v, w', h1, _⟩
    · exact h2
    · rw [hen] at h1; cases h1
  refine h2.mono fun e w' ⟨out, ho, hend⟩ => ?_
  cases out with
  | ret x H' =>
    obtain ⟨v, σ', k1, k2, k3, k4⟩ := hend
    exact ⟨below_of_anc k3, _, σ', H', ho, rfl, v, k1, k4⟩
  | panic p H' =>
    obtain ⟨v, σ', k1, k2, k3, k4⟩ := hend
    exact ⟨below_of_anc k3, _, σ', H', ho, rfl, v, k1, k4⟩

end Go.Proofs.YthmohmmbhjpbcaaGreatDoor.Ev


namespace Go.Proofs.YthmohmmbhjpbcaaGreatDoor.Ev
open Go Go.ChangeShapes Go.WideShapes Go.RowKit
open Go.ChangeMaps (open_string shut_string)
variable {T : Nat → Type} {C : Cdc T} {P : Program}

abbrev CW (w : World) (b off : Nat) (x : Value) : Prop := w.cell? ⟨b, off, none⟩ = some x
def RepVs (C : Cdc T) (w : World) (vs : List (V T)) (cs : List Value) : Prop := vs.length = cs.length ∧ ∀ (j : Nat) v c, vs[j]? = some v → cs[j]? = some c → RepV C (CW w) v c
def OpensF {α : Type} (C : Cdc T) (P : Program) (f : α → List (V T)) (sz : Nat) (t : TypeId) (wf : α → Prop) (N : Nat) : Prop :=
  sz = P.cellsOf t ∧ ∀ (H : Type) (enc : TypeId × Value → H) (w : World) (base : Nat) (spare : Nat → Bool) (held : Bool) (fuel : Nat) (cs : List Value) (x : DataW H × List MemPlace),
    fuel ≤ N → DataW.trod enc P w base spare held fuel t cs = some x → (∀ n ∈ x.1.weights P t, n ≤ reachBytes) → cs.length = sz ∧ ∃ a, RepVs C w (f a) cs ∧ wf a

theorem OpensF.mono {α : Type} {f : α → List (V T)} {sz : Nat} {t : TypeId} {wf wf' : α → Prop} {N : Nat} (h : OpensF C P f sz t wf N) (hw : ∀ a, wf a → wf' a) : OpensF C P f sz t wf' N :=
  ⟨h.1, fun H enc w base spare held fuel cs x hN hx hz => by
    obtain ⟨hl, a, hk, ha⟩ := h.2 H enc w base spare held fuel cs x hN hx hz
    exact ⟨hl, a, hk, hw a ha⟩⟩
theorem OpensF.le {α : Type} {f : α → List (V T)} {sz : Nat} {t : TypeId} {wf : α → Prop} {N M : Nat} (h : OpensF C P f sz t wf N) (hm : M ≤ N) : OpensF C P f sz t wf M :=
  ⟨h.1, fun H enc w base spare held fuel cs x hN hx hz => h.2 H enc w base spare held fuel cs x (Nat.le_trans hN hm) hx hz⟩
theorem RepVs.one {w : World} {v : V T} {c : Value} (h : RepV C (CW w) v c) : RepVs C w [v] [c] :=
  ⟨rfl, fun j v' c' h1 h2 => by
    cases j with
    | zero => cases h1; cases h2; exact h
    | succ j => simp at h1⟩
theorem opens_int {t : TypeId} {k : IntKind} (ht : P.underlying t = some (.int k)) (hc : P.cellsOf t = 1) (N : Nat) : OpensF C P (fun n => [.i k n]) 1 t (fun n => (Lit.int k n).wf = true) N :=
  ⟨hc.symm, fun H enc w base spare held fuel cs x _ hx _ => by
    obtain ⟨n, rfl, rfl, hw⟩ := DataW.trod_int ht hx
    exact ⟨rfl, n, .one (.i k n), hw⟩⟩
theorem opens_string {t : TypeId} (ht : P.underlying t = some .string) (hc : P.cellsOf t = 1) (N : Nat) : OpensF C P (fun s => [.s s]) 1 t (fun s => s.size ≤ 140737488351232) N :=
  ⟨hc.symm, fun H enc w base spare held fuel cs x _ hx hz => by
    obtain ⟨s, rfl, rfl, hs⟩ := DataW.trod_string ht hx
    refine ⟨rfl, s, .one (.s s), ?_⟩
    have := hz s.data.toList.length (by simp [DataW.weights])
    rw [Array.length_toList] at this
    exact this⟩
def WfL {α : Type} (B : Nat) (wf : α → Prop) (l : List α) : Prop := l.length * B ≤ 140737488351232 ∧ l.length ≤ maxLen ∧ ∀ a ∈ l, wf a
theorem weights_all {H : Type} {e : TypeId} : ∀ {ds : List (DataW H)} {n : Nat}, n ∈ DataW.weightsAll P e ds ↔ ∃ d ∈ ds, n ∈ d.weights P e
  | [], n => by simp [DataW.weightsAll]
  | d :: r, n => by simp [DataW.weightsAll, weights_all (ds := r)]
theorem cell_spot {w : World} {a : Addr} {x : Value} (h : w.cell? a = some x) : a.spot = none := by
  unfold World.cell? at h
  cases hs : a.spot with
  | none => rfl
  | some s =>
    rw [hs] at h
    split at h
    · simp at h
    · cases h
theorem addr_add {a : Addr} (h : a.spot = none) (n : Nat) : a.add n = ⟨a.block, a.off + n, none⟩ := by
  unfold Addr.add
  split
  · rename_i h0
    subst h0
    cases a
    simp only at h
    subst h; rfl
  · rfl

theorem slice_open {t e : TypeId} {wf : T e → Prop} {N : Nat} (hC : CdcOk C) (ht : P.underlying t = some (.slice e)) (h : OpensF C P (C.enc e) (C.size e) e wf N)
    {H : Type} {enc : TypeId × Value → H} {w : World} {base : Nat} {spare : Nat → Bool} {held : Bool} {fuel : Nat} {cs : List Value} {x : DataW H × List MemPlace}
    (hN : fuel ≤ N + 1) (hx : DataW.trod enc P w base spare held fuel t cs = some x) (hz : ∀ n ∈ x.1.weights P t, n ≤ reachBytes) :
    ∃ (A : Option Addr) (n c : Nat) (l : List (T e)), cs = [.slice A n c] ∧ RepV C (CW w) (.sl e l) (.slice A n c) ∧ WfL (P.bytesOf e) wf l := by
  rcases DataW.trod_slice ht hx with ⟨rfl, rfl⟩ | ⟨a, len, cap, elems, rest, n, hf, rfl, rfl, hb, hl, hm, hlen, hel, hsp, hns⟩
  · exact ⟨none, 0, 0, [], rfl, .sl0 e none 0, by simp [WfL]⟩
  · have hall : ∀ i, i < len → ∃ a' cs', w.cells? base (a.add (i * P.cellsOf e)) (P.cellsOf e) = some cs' ∧ RepVs C w (C.enc e a') cs' ∧ wf a' := by
      intro i hi
      have h1 := hel i hi
      rw [List.getElem?_eq_getElem (by omega)] at h1
      obtain ⟨cs', h2, h3⟩ := Option.bind_eq_some_iff.1 h1
      obtain ⟨_, a', hk, hw⟩ := h.2 H enc w base spare held n cs' _ (by omega) h3 (fun m hm => by
        refine hz m ?_
        simp only [DataW.weights, ht, List.mem_cons, List.mem_append, weights_all]
        exact .inr (.inl ⟨_, List.mem_map.2 ⟨elems[i]'(by omega), List.getElem_mem _, rfl⟩, hm⟩))
      exact ⟨a', cs', h2, hk, hw⟩
    obtain ⟨f, hf⟩ : ∃ f : Fin len → T e, ∀ i : Fin len, ∃ cs', w.cells? base (a.add (i.1 * P.cellsOf e)) (P.cellsOf e) = some cs' ∧ RepVs C w (C.enc e (f i)) cs' ∧ wf (f i) :=
      ⟨fun i => Classical.choose (hall i.1 i.2), fun i => Classical.choose_spec (hall i.1 i.2)⟩
    obtain ⟨g, hg⟩ : ∃ g : Fin len → List Value, ∀ i : Fin len, w.cells? base (a.add (i.1 * P.cellsOf e)) (P.cellsOf e) = some (g i) ∧ RepVs C w (C.enc e (f i)) (g i) ∧ wf (f i) :=
      ⟨fun i => Classical.choose (hf i), fun i => Classical.choose_spec (hf i)⟩
    have hsz := h.1
    have hwf : WfL (P.bytesOf e) wf (List.ofFn f) := by
      refine ⟨?_, ?_, ?_⟩
      · have := hz ((elems.length + rest.length) * P.bytesOf e) (by simp [DataW.weights, ht])
        rw [List.length_ofFn]
        refine Nat.le_trans (Nat.mul_le_mul_right _ ?_) this
        omega
      · rw [List.length_ofFn]
        exact Nat.le_trans hl hm
      · intro b hb'
        obtain ⟨i, rfl⟩ := List.mem_ofFn.1 hb'
        exact (hg i).2.2
    refine ⟨some a, len, cap, List.ofFn f, rfl, ?_, hwf⟩
    by_cases h0 : len = 0
    · subst h0
      have : List.ofFn f = [] := List.ofFn_zero ..
      rw [this]; exact .sl0 e _ _
    · have hp := hC.pos e
      have hspot : a.spot = none := by
        obtain ⟨_, hlg, h5⟩ := World.cells?_some (hg ⟨0, by omega⟩).1
        have := h5 0 (by omega)
        have e0 : ∀ a : Addr, a.add 0 = a := fun a => by simp [Addr.add]
        simp only [Nat.zero_mul, e0] at this
        rw [List.getElem?_eq_getElem (by omega)] at this
        exact cell_spot this
      have hcell : ∀ (i : Nat) (hi : i < len) (j : Nat) (c : Value), (g ⟨i, hi⟩)[j]? = some c → CW w a.block (a.off + i * C.size e + j) c := by
        intro i hi j c hj
        obtain ⟨_, hlg, h5⟩ := World.cells?_some (hg ⟨i, hi⟩).1
        have hj' : j < P.cellsOf e := by
          have := (List.getElem?_eq_some_iff.1 hj).1
          omega
        have := h5 j hj'
        simp only [Deep.add_add] at this
        rw [addr_add hspot] at this
        rw [hsz]
        show w.cell? _ = some c
        rw [show a.off + i * P.cellsOf e + j = a.off + (i * P.cellsOf e + j) by omega, this]
        exact hj
      have hlenf : (List.ofFn f).length = len := List.length_ofFn ..
      have key : RepV C (CW w) (.sl e (List.ofFn f)) (.slice (some ⟨a.block, a.off, none⟩) (List.ofFn f).length cap) := by
        refine .sl e _ a.block a.off cap (fun i j => if hi : i < len then ((g ⟨i, hi⟩)[j]?).getD (.bool false) else .bool false) (by rw [hlenf]; exact hl) ?_ ?_
        · intro i hi j hj
          have hi' : i < len := by rw [hlenf] at hi; exact hi
          simp only [hi', dif_pos]
          obtain ⟨_, hr, _⟩ := hg ⟨i, hi'⟩
          have he : (List.ofFn f)[i] = f ⟨i, hi'⟩ := by simp
          rw [he] at hj
          have hjg : j < (g ⟨i, hi'⟩).length := by rw [← hr.1]; exact hj
          rw [List.getElem?_eq_getElem hjg]
          exact hcell i hi' j _ (List.getElem?_eq_getElem hjg)
        · intro i hi j hj
          have hi' : i < len := by rw [hlenf] at hi; exact hi
          simp only [hi', dif_pos]
          obtain ⟨_, hr, _⟩ := hg ⟨i, hi'⟩
          have he : (List.ofFn f)[i] = f ⟨i, hi'⟩ := by simp
          have hj2 : j < (C.enc e (f ⟨i, hi'⟩)).length := by rw [← he]; exact hj
          have hjg : j < (g ⟨i, hi'⟩).length := by rw [← hr.1]; exact hj2
          rw [List.getElem?_eq_getElem hjg]
          exact hr.2 j _ _ (by rw [List.getElem?_eq_getElem hj2]; simp [he]) (List.getElem?_eq_getElem hjg)
      rw [hlenf] at key
      have ha : a = ⟨a.block, a.off, none⟩ := by cases a; simp only at hspot; subst hspot; rfl
      rw [ha]; exact key
theorem opens_slice {t e : TypeId} {wf : T e → Prop} {N : Nat} (hC : CdcOk C) (ht : P.underlying t = some (.slice e)) (hc : P.cellsOf t = 1) (h : OpensF C P (C.enc e) (C.size e) e wf N) : OpensF C P (fun l => [.sl e l]) 1 t (WfL (P.bytesOf e) wf) (N + 1) :=
  ⟨hc.symm, fun H enc w base spare held fuel cs x hN hx hz => by
    obtain ⟨A, n, c, l, rfl, hr, hw⟩ := slice_open hC ht h hN hx hz
    exact ⟨rfl, l, .one hr, hw⟩⟩

def RowF {α : Type} (C : Cdc T) (P : Program) (f : α → List (V T)) (sz : Nat) (fs : List Field) (off : Nat) (wf : α → Prop) (N : Nat) : Prop :=
  ∀ (H : Type) (enc : TypeId × Value → H) (w : World) (base : Nat) (spare : Nat → Bool) (held : Bool) (fuel : Nat) (cs : List Value) (xs : List (DataW H × List MemPlace)),
    fuel ≤ N → cs.length = off + sz → xs.length = fs.length →
    (∀ (i : Nat) (f : Field), fs[i]? = some f → DataW.trod enc P w base spare held fuel f.type ((cs.drop f.offset).take (P.cellsOf f.type)) = xs[i]?) →
    (∀ (i : Nat) (f : Field) (x : DataW H × List MemPlace), fs[i]? = some f → xs[i]? = some x → ∀ n ∈ x.1.weights P f.type, n ≤ reachBytes) →
    ∃ a, RepVs C w (f a) (cs.drop off) ∧ wf a
theorem RepVs.append {w : World} {a b : List (V T)} {x y : List Value} (h : RepVs C w a x) (k : RepVs C w b y) : RepVs C w (a ++ b) (x ++ y) := by
  refine ⟨by rw [List.length_append, List.length_append, h.1, k.1], fun j v c h1 h2 => ?_⟩
  by_cases hj : j < a.length
  · rw [List.getElem?_append_left hj] at h1
    rw [List.getElem?_append_left (by rw [← h.1]; exact hj)] at h2
    exact h.2 j v c h1 h2
  · rw [List.getElem?_append_right (by omega)] at h1
    rw [List.getElem?_append_right (by rw [← h.1]; omega), ← h.1] at h2
    exact k.2 _ v c h1 h2
theorem row_last {α : Type} {fa : α → List (V T)} {sz : Nat} {f : Field} {off : Nat} {wf : α → Prop} {N : Nat} (h : OpensF C P fa sz f.type wf N) (ho : f.offset = off) : RowF C P fa sz [f] off wf N := by
  intro H enc w base spare held fuel cs xs hN hl hx hr hz
  match xs, hx with
  | [x], _ =>
    have h1 := hr 0 f rfl
    obtain ⟨_, a, hk, hw⟩ := h.2 H enc w base spare held fuel _ x hN h1 (hz 0 f x rfl rfl)
    rw [ho, ← h.1, List.take_of_length_le (by rw [List.length_drop]; omega)] at hk
    exact ⟨a, hk, hw⟩
theorem row_cons {α β : Type} {fa : α → List (V T)} {fb : β → List (V T)} {sa sb : Nat} {f : Field} {fs : List Field} {off : Nat} {wa : α → Prop} {wb : β → Prop} {N : Nat} (h : OpensF C P fa sa f.type wa N) (ho : f.offset = off) (hr : RowF C P fb sb fs (off + sa) wb N) :
    RowF C P (fun x : α × β => fa x.1 ++ fb x.2) (sa + sb) (f :: fs) off (fun x => wa x.1 ∧ wb x.2) N := by
  intro H enc w base spare held fuel cs xs hN hl hx hrd hz
  match xs, hx with
  | x :: xs, hx =>
    have h1 := hrd 0 f rfl
    obtain ⟨_, y, hk, hw⟩ := h.2 H enc w base spare held fuel _ x hN h1 (hz 0 f x rfl rfl)
    rw [ho, ← h.1] at hk
    obtain ⟨z, hk2, hw2⟩ := hr H enc w base spare held fuel cs xs hN (by omega) (by simpa using hx) (fun i g hg => hrd (i + 1) g (by simpa using hg)) (fun i g y' hg hy => hz (i + 1) g y' (by simpa using hg) (by simpa using hy))
    refine ⟨(y, z), ?_, hw, hw2⟩
    have e : cs.drop off = (cs.drop off).take sa ++ cs.drop (off + sa) := by rw [← List.drop_drop, List.take_append_drop]
    rw [e]
    exact hk.append hk2
theorem RowF.iso {α β : Type} {fa : α → List (V T)} {sz : Nat} {fs : List Field} {off : Nat} {wf : α → Prop} {N : Nat} (h : RowF C P fa sz fs off wf N) (f : β → α) (g : α → β) (hg : ∀ x, f (g x) = x) : RowF C P (fun y => fa (f y)) sz fs off (fun y => wf (f y)) N := by
  intro H enc w base spare held fuel cs xs hN hl hx hr hz
  obtain ⟨a, hk, hw⟩ := h H enc w base spare held fuel cs xs hN hl hx hr hz
  exact ⟨g a, by show RepVs C w (fa (f (g a))) _; rw [hg]; exact hk, by show wf (f (g a)); rw [hg]; exact hw⟩
theorem weights_each {H : Type} : ∀ {ts : List TypeId} {ds : List (DataW H)} {i : Nat} {t : TypeId} {d : DataW H}, ts[i]? = some t → ds[i]? = some d → ∀ n ∈ d.weights P t, n ∈ DataW.weightsEach P ts ds :=
  fun ht hd n hn => DataW.weights_mem_each ht hd n hn
theorem opens_struct {α : Type} {fa : α → List (V T)} {sz : Nat} {t : TypeId} {fs : Array Field} {wf : α → Prop} {N : Nat} (ht : P.underlying t = some (.struct fs)) (hc : P.cellsOf t = sz) (h : RowF C P fa sz fs.toList 0 wf N) : OpensF C P fa sz t wf (N + 1) :=
  ⟨hc.symm, fun H enc w base spare held fuel cs x hN hx hz => by
    obtain ⟨xs, n, hf, rfl, hl, hlx, hr⟩ := DataW.trod_struct ht hx
    obtain ⟨a, hk, hw⟩ := h H enc w base spare held n cs xs (by omega) (by rw [Nat.zero_add]; omega) (by simpa using hlx) (fun i f hf' => hr i f (by simpa using hf')) (fun i f x hf' hx' m hm => by
      refine hz m ?_
      simp only [DataW.weights, ht]
      exact weights_each (i := i) (t := f.type) (d := x.1) (by rw [List.getElem?_map, hf']; rfl) (by rw [List.getElem?_map, hx']; rfl) m hm)
    rw [List.drop_zero] at hk
    exact ⟨by omega, a, hk, hw⟩⟩

theorem param_struct {α : Type} {fa : α → List (V T)} {sz : Nat} {t : TypeId} {fs : Array Field} {wf : α → Prop} (ht : P.underlying t = some (.struct fs)) (h : ∀ N, OpensF C P fa sz t wf N)
    {H : Type} {enc : TypeId × Value → H} {w : World} {base : Nat} {spare : Nat → Bool} {held : Bool} {v : Value} {x : DataW H} {ps : List MemPlace} {r : Reach} {b0 : Nat} (hv : Value.okWide P w r b0 t v)
    {ts : List TypeId} {ds : List (DataW H)} {j : Nat} (hsz : (DataW.weightsEach P ts ds).all (· ≤ reachBytes) = true) (hj : ts[j]? = some t) (hd : ds[j]? = some x) (hx : DataW.Trod enc P w base spare held t v x ps) :
    ∃ (cs : Array Value) (a : α), v = .agg cs ∧ RepVs C w (fa a) cs.toList ∧ wf a := by
  obtain ⟨fuel, hf⟩ := hx
  obtain ⟨cs, rfl, _⟩ := okWide_struct ht hv
  obtain ⟨_, a, hk, hw⟩ := (h fuel).2 H enc w base spare held fuel _ _ (Nat.le_refl _) hf (fun n hn => by simpa using List.all_eq_true.1 hsz _ (DataW.weights_mem_each hj hd n hn))
  exact ⟨cs, a, rfl, hk, hw⟩
theorem repV_start {w : World} {v : V T} {y : Value} (h : RepV C (CW w) v y) : RepV C (Cell C ⟨fun _ => none, fun _ _ => False⟩ ([] : List (AObj T)) w) v y :=
  h.mono fun b off x hc => ⟨⟨fun h => h, fun i o hi => by simp at hi⟩, hc⟩
theorem repL_start {w : World} : ∀ {vs : List (V T)} {cs : List Value}, RepVs C w vs cs → RepL C ⟨fun _ => none, fun _ _ => False⟩ ([] : List (AObj T)) w (vs.map .v) cs
  | [], [], _ => rfl
  | [], _ :: _, h => by have := h.1; simp at this
  | _ :: _, [], h => by have := h.1; simp at this
  | v :: vs, c :: cs, h => ⟨c, cs, rfl, repV_start (h.2 0 v c rfl rfl), repL_start ⟨by have := h.1; simpa using this, fun j v' c' h1 h2 => h.2 (j + 1) v' c' h1 h2⟩⟩
end Go.Proofs.YthmohmmbhjpbcaaGreatDoor.Ev

