import Derived.Test.YtfoeekaanngoiaaDoorEvTwo
import Derived.Scope
import Derived.LoopN
import Derived.Laws.Externs
import Derived.Recover
import Derived.Below
import Derived.WalkKit
import Derived.ProofKit
import Derived.OpenShut
import Derived.ShutString
import Derived.Deep.Slices
import Derived.SizedLaws
import Derived.ChangeArms
import Derived.RowKit
set_option linter.unusedVariables false
set_option linter.unusedSimpArgs false
namespace Go.Proofs.YtfoeekaanngoiaaDoor.Ev
open Go
variable {T : Nat → Type} {C : Cdc T} {P : Program} {σ : Lk} {H H' : List (AObj T)} {w : World} {G : Nat → Option (List (V T))} {R : Type}
variable {n : Nat} {B : Base T} {ops : Array Oper} {dsts : Nat → Option Nat} {as : Act} {taken : List (Nat × Bool)} {pend : Pend} {Pd : List Nat} {listed : Array Bool} {env : Env T} {ds : Ds T} {a : Act}

theorem clo_listed (hcl : ∀ i o, ops[i]? = some o → listed.getD i false = true → ∀ e ∈ o.after, Region.binds .any e = true → listed.getD e.on false = true) :
    ∀ (k : Nat) (o : Oper) (j : Nat), (∀ e ∈ o.after, Region.binds .any e = true → listed.getD e.on false = true) → clo ops.toList k o j = true → listed.getD j false = true := by
  have dir : ∀ (o : Oper) (j : Nat), (∀ e ∈ o.after, Region.binds .any e = true → listed.getD e.on false = true) → direct o j = true → listed.getD j false = true := by
    intro o j h hd
    obtain ⟨e, he, hb, rfl⟩ := direct_spec hd
    exact h e he hb
  intro k
  induction k with
  | zero => exact fun o j h hd => dir o j h hd
  | succ k ih =>
    intro o j h hd
    unfold clo at hd
    rw [Bool.or_eq_true] at hd
    rcases hd with hd | hd
    · exact dir o j h hd
    · obtain ⟨e, he, h1⟩ := List.any_eq_true.1 hd
      rw [Bool.and_eq_true] at h1
      obtain ⟨h2, h3⟩ := h1
      have hl := h e (Array.mem_toList_iff.1 he) h2
      split at h3
      · rename_i o' ho'
        exact ih o' j (hcl e.on o' (by simpa using ho') hl) h3
      · cases h3

theorem nil_of_nilB {α : Type} {l : List α} (h : nilB l = true) : l = [] := by cases l with | nil => rfl | cons => cases h

/-- After an operation that is no quiet one. -/
structure Nx (C : Cdc T) (P : Program) (G : Nat → Option (List (V T))) (n : Nat) (B : Base T) (ops : Array Oper) (dsts : Nat → Option Nat) (pend : Pend) (Pd : List Nat) (σ : Lk) (env : Env T) (H : List (AObj T)) (ds : Ds T) (as : Act) (w : World) : Prop where
  st : St C G n B σ env H ds as w
  pd : ∀ i ∈ Pd, ∃ o d D, ops[i]? = some o ∧ o.dst = some d ∧ d < n ∧ (i, (bif heapB o then D else []), refs (env d) ++ D) ∈ pend ∧ QR C P G dsts o env H (env d) D ∧ noDst o.dst (looks dsts o) = true

theorem DI.effect (hC : CdcOk C) {Γ : Gam T} (hΓ : GOk P C G Γ) (hd : ∀ j, dsts j = (ops[j]?).bind (·.dst)) (hI : DI C P G n B ops dsts σ as taken pend Pd listed env H ds a w)
    {i : Nat} {o : Oper} {rest : List (Nat × Bool)} (hck : ChkAt ops dsts taken i false rest o) (hr : ∀ e ∈ o.after, Region.binds .any e = true → listed.getD e.on false = true)
    {K : Env T → List (AObj T) → Ds T → Option R} {Kp : KP T R} {r : R}
    (h1 : pend.all (fun p => clo ops.toList 40 o p.1 || touchOk (touchA env o) p.2.1) = true)
    (h : operX C P G Γ dsts o env H ds (fun env x H S ds => bif nilB S || pend.all (fun p => clo ops.toList 40 o p.1 || (nilB p.2.1 && nilB p.2.2)) then putA o.dst n env x S fun env => K env H ds else none) (fun env => Kp (maskE ops.toList env)) = some r)
    {Q : Exit → Act → World → Prop} {nx : Act → World → Prop}
    (hK : ∀ σ' as' a' env' H' ds' w', K env' H' ds' = some r → Nx C P G n B ops dsts pend Pd σ' env' H' ds' as' w' → Agr ops (· ∈ Pd) as' a' → nx a' w')
    (hP : ∀ σ' env' p H' ds' a' v w', Kp env' p H' ds' = some r → PSt C G n B σ' env' p H' ds' a' v w' → Q (.panic [{ v, recovered := false }]) a' w') : wpOp P ops Q i nx a w := by
  -- those that are still to come
  have hpend : ∀ j ∈ Pd, ∀ oj D X, ops[j]? = some oj → (j, D, X) ∈ pend → (∀ t ∈ looks dsts oj, o.dst ≠ some t) ∧ (∀ t, oj.dst = some t → o.dst ≠ some t ∧ t ∉ looks dsts o) ∧ clo ops.toList 40 o j = false := by
    intro j hj oj D X hoj hjp
    have hnl : listed.getD j false = false := by
      cases hl : listed.getD j false
      · rfl
      · rw [← getD_tf (by rw [hI.sz]; exact lt_of_get hoj)] at hl
        exact (((hI.li j (lt_of_get hoj)).1 hl).2 hj).elim
    have hclo : clo ops.toList 40 o j = false := by
      cases hc : clo ops.toList 40 o j
      · rfl
      · rw [clo_listed hI.cl 40 o j hr hc] at hnl; cases hnl
    have hnd : direct o j = false := by
      cases hdir : direct o j
      · rfl
      · obtain ⟨e, he, hb, hon⟩ := direct_spec hdir
        have h1 := hr e he hb
        rw [hon, hnl] at h1; cases h1
    obtain ⟨x, k1, k2⟩ := hck.pair (j, true) (hI.pd j hj).1
    simp only at k1 k2
    rw [hoj] at k1; cases k1
    simp only [pairOk, hnd, Bool.false_or, Bool.and_eq_true, Bool.not_eq_true', Bool.not_false, Bool.true_or, and_true] at k2
    obtain ⟨⟨k3, k4⟩, k5⟩ := k2
    refine ⟨fun t ht e => noDst_spec k4 t e ht, fun t ht => ⟨eqDst_spec k5 t ht, noDst_spec k3 t ht⟩, hclo⟩
  have hl : ∀ t ∈ o.looksAt ops, ∀ j, j ∈ Pd → dstOf ops j ≠ some t := by
    intro t ht j hj hdj
    obtain ⟨_, oj, dj, D, k1, k2, k3, k4, _⟩ := hI.pd j hj
    have hdj' : oj.dst = some t := by simpa [dstOf, k1] using hdj
    rw [← looks_eq hd] at ht
    exact ((hpend j hj oj _ _ k1 k4).2.1 t hdj').2 ht
  obtain ⟨he, hwt⟩ := hI.agr.eval hl
  -- the step
  have step : ∀ {σ' : Lk} {x : AV T} {v : Value} {H' : List (AObj T)} {S : List Nat} {ds' : Ds T} {dd : List Deferred} {w' : World},
      (bif nilB S || pend.all (fun p => clo ops.toList 40 o p.1 || (nilB p.2.1 && nilB p.2.2)) then putA o.dst n env x S fun env => K env H' ds' else none) = some r →
      (∀ S0, touchA env o = some S0 → Framed S0 H H' S) → Step C G S σ H w σ' H' w' → RepA C σ' H' w' x v → RepDs C σ' H' w' ds' dd →
      ∃ env', K env' H' ds' = some r ∧ Nx C P G n B ops dsts pend Pd σ' env' H' ds' ({ as with defers := dd }.put o.dst v) w' := by
    intro σ' x v H' S ds' dd w' hk hfr hs hx hds
    cases hb : nilB S || pend.all (fun p => clo ops.toList 40 o p.1 || (nilB p.2.1 && nilB p.2.2))
    · rw [hb] at hk; cases hk
    · rw [hb, cond_true] at hk
      have hst : St C G n B σ' (penv S env) H' ds' { as with defers := dd } w' := ⟨hs.rp, hI.st.anc.trans hs.anc, hI.st.size, penv_rep hs.move hI.st.env, hds⟩
      -- what is still to come is as it was
      have hpd : ∀ j ∈ Pd, ∃ oj d D, ops[j]? = some oj ∧ oj.dst = some d ∧ d < n ∧ (j, (bif heapB oj then D else []), refs (penv S env d) ++ D) ∈ pend ∧ QR C P G dsts oj (penv S env) H' (penv S env d) D ∧ noDst oj.dst (looks dsts oj) = true ∧ o.dst ≠ some d ∧ ∀ t ∈ looks dsts oj, o.dst ≠ some t := by
        intro j hj
        obtain ⟨_, oj, d, D, k1, k2, k3, k4, k5, k6⟩ := hI.pd j hj
        obtain ⟨q1, q2, q3⟩ := hpend j hj oj _ _ k1 k4
        have hS : S = [] ∨ (D = [] ∧ refs (env d) = []) := by
          rw [Bool.or_eq_true] at hb
          rcases hb with hb | hb
          · exact .inl (nil_of_nilB hb)
          · have := List.all_eq_true.1 hb _ k4
            simp only [q3, Bool.false_or, Bool.and_eq_true] at this
            have h2 := List.append_eq_nil_iff.1 (nil_of_nilB this.2)
            exact .inr ⟨h2.2, h2.1⟩
        have hx : penv S env d = env d := by
          rcases hS with rfl | ⟨_, h⟩
          · rfl
          · exact penv_same h
        have hsame : heapB oj = true → Same D H H' := by
          intro hhb
          have ht := List.all_eq_true.1 h1 _ k4
          simp only [q3, Bool.false_or, hhb, cond_true] at ht
          rcases hS with rfl | ⟨rfl, _⟩
          · unfold touchOk at ht
            split at ht
            · rename_i S0 hS0
              have hf := hfr S0 hS0 rfl
              intro i hi
              refine (hf.get i (k5.lt hI.st.env i hi) fun hm => ?_).symm
              have := List.all_eq_true.1 ht i hi
              simp [hm] at this
            · rw [nil_of_nilB ht]; intro i hi; cases hi
          · intro i hi; cases hi
        refine ⟨oj, d, D, k1, k2, k3, by rw [hx]; exact k4, ?_, k6, (q2 d k2).1, q1⟩
        rw [hx]
        exact (k5.heap hsame).purge (hS.imp id (·.1))
      unfold putA at hk
      cases hdst : o.dst with
      | none =>
        rw [hdst] at hk
        exact ⟨_, hk, hst, fun j hj => by
          obtain ⟨oj, d, D, k1, k2, k3, k4, k5, k6, _⟩ := hpd j hj
          exact ⟨oj, d, D, k1, k2, k3, k4, k5, k6⟩⟩
      | some u =>
        rw [hdst] at hk
        simp only at hk
        cases hu : Nat.blt u n
        · rw [hu] at hk; cases hk
        · rw [hu, cond_true] at hk
          refine ⟨_, hk, hst.put (Nat.le_of_ble_eq_true hu) hx, fun j hj => ?_⟩
          obtain ⟨oj, d, D, k1, k2, k3, k4, k5, k6, k7, k8⟩ := hpd j hj
          rw [hdst] at k7 k8
          have hne : Ev.upd (penv S env) u x d = penv S env d := by
            unfold Ev.upd
            cases hb : Nat.beq d u
            · rfl
            · exact (k7 (by rw [Nat.eq_of_beq_eq_true hb])).elim
          refine ⟨oj, d, D, k1, k2, k3, by rw [hne]; exact k4, ?_, k6⟩
          rw [hne]
          exact k5.upd fun hm => k8 u hm rfl
  have panic : ∀ {σ' : Lk} {env' : Env T} {p : AV T} {H' : List (AObj T)} {ds' : Ds T} {v : Value} {w' : World}, Kp (maskE ops.toList env') p H' ds' = some r → PSt C G n B σ' env' p H' ds' as v w' → ∀ b, Agr ops (· ∈ Pd) as b → Q (.panic [{ v, recovered := false }]) b w' := by
    intro σ' env' p H' ds' v w' hk hp b hb
    refine hP _ _ _ _ _ b _ _ hk ⟨⟨hp.1.rp, hp.1.anc, by rw [hb.size]; exact hp.1.size, fun t => ?_, by rw [hb.defers]; exact hp.1.ds⟩, hp.2⟩
    unfold maskE
    cases hm : ops.toList.any (fun o => match o.dst with | some d => Nat.beq d t | none => false)
    · rw [hb.slot t fun i _ hi => ?_]
      · exact hp.1.env t
      · unfold dstOf at hi
        cases ho : ops[i]? with
        | none => rw [ho] at hi; cases hi
        | some o =>
          rw [ho] at hi
          have hi' : o.dst = some t := hi
          have hmem : o ∈ ops.toList := by
            have h1 : ops.toList[i]? = some o := by simpa using ho
            exact List.mem_of_getElem? h1
          have := List.any_eq_false.1 hm o hmem
          rw [hi'] at this
          simp at this
    · trivial
  unfold wpOp
  simp only [hck.at_]
  rcases operX_cases hI.st hd h with ⟨hw, hx⟩ | ⟨hw, hx⟩
  · rw [hwt, hw, if_pos rfl]
    refine .inl (wp_agr hI.agr hck.sel hl (next' := fun a' w' => ∃ σ' env' H' ds', K env' H' ds' = some r ∧ Nx C P G n B ops dsts pend Pd σ' env' H' ds' a' w') ?_ ?_)
    · rintro a' b' w' hag ⟨σ', env', H', ds', k1, k2⟩
      exact hK σ' a' b' env' H' ds' w' k1 k2 hag
    · -- the answer is told with what is left as it was
      cases ht : touchA env o with
      | none =>
        refine runX_ok hC hΓ hI.st hx (fun σ' x v H' S ds' dd w' k1 k2 k3 k4 => ?_) (fun σ' env' p H' ds' v w' k1 k2 => panic k1 k2)
        obtain ⟨env', q1, q2⟩ := step k1 (fun S0 h0 => by rw [ht] at h0; cases h0) k2 k3 k4
        exact ⟨σ', env', H', ds', q1, q2⟩
      | some S0 =>
        classical
        have hx' := (runX_fr ht (K' := fun x H' S ds' => if Framed S0 H H' S then (bif nilB S || pend.all (fun p => clo ops.toList 40 o p.1 || (nilB p.2.1 && nilB p.2.2)) then putA o.dst n env x S fun env => K env H' ds' else none) else none)
          (fun x H' S ds' hf => by rw [if_pos hf])).symm.trans hx
        refine runX_ok hC hΓ hI.st hx' (fun σ' x v H' S ds' dd w' k1 k2 k3 k4 => ?_) (fun σ' env' p H' ds' v w' k1 k2 => panic k1 k2)
        split at k1
        · rename_i hf
          obtain ⟨env', q1, q2⟩ := step k1 (fun S1 h1 => by rw [ht] at h1; cases h1; exact hf) k2 k3 k4
          exact ⟨σ', env', H', ds', q1, q2⟩
        · cases k1
  · rw [hwt, hw, if_neg (by simp)]
    obtain ⟨env', q1, q2⟩ := step hx (fun S0 _ _ => Fr.refl) (Step.refl hI.st.rp) (x := .tup []) (v := undef) rep_undef hI.st.ds
    refine hK σ _ _ env' H ds w q1 q2 ?_
    have := hI.agr.put o.dst undef as.defers
    rwa [show ({ a with defers := as.defers } : Act) = a from by rw [← hI.agr.defers]] at this

end Go.Proofs.YtfoeekaanngoiaaDoor.Ev


namespace Go.Proofs.YtfoeekaanngoiaaDoor.Ev
open Go
variable {T : Nat → Type} {C : Cdc T} {P : Program} {σ : Lk} {H H' : List (AObj T)} {w : World} {G : Nat → Option (List (V T))} {R : Type}

theorem draw_ok (hC : CdcOk C) {Γ : Gam T} (hΓ : GOk P C G Γ) {n : Nat} {B : Base T} {ops : Array Oper} {dsts : Nat → Option Nat} (hd : ∀ j, dsts j = (ops[j]?).bind (·.dst)) {K : KS T R} {Kp : KP T R} {r : R} {Q : Exit → Act → World → Prop}
    (hK : ∀ σ' env' H' ds' a' w', K env' H' ds' = some r → St C G n B σ' env' H' ds' a' w' → Q .normal a' w')
    (hP : ∀ σ' env' p H' ds' a' v w', Kp env' p H' ds' = some r → PSt C G n B σ' env' p H' ds' a' v w' → Q (.panic [{ v, recovered := false }]) a' w') :
    ∀ (fuel : Nat) (todo taken : List (Nat × Bool)) (pend : Pend) (Pd : List Nat) (listed : Array Bool) (σ : Lk) (as : Act) (env : Env T) (H : List (AObj T)) (ds : Ds T) (a : Act) (w : World),
      DI C P G n B ops dsts σ as taken pend Pd listed env H ds a w → chk ops.toList dsts taken todo = true → (∀ i, i < ops.size → (∃ p ∈ taken, p.1 = i) ∨ ∃ p ∈ todo, p.1 = i) → fuel = todo.length + Pd.length →
      drawL C P G Γ n ops.toList dsts todo pend env H ds K Kp = some r → wpAny P .any ops Q fuel listed a w := by
  -- all is done
  have done : ∀ {taken : List (Nat × Bool)} {pend : Pend} {listed : Array Bool} {σ : Lk} {as : Act} {env : Env T} {H : List (AObj T)} {ds : Ds T} {a : Act} {w : World},
      DI C P G n B ops dsts σ as taken pend [] listed env H ds a w → K env H ds = some r → Q .normal a w := by
    intro taken pend listed σ as env H ds a w hI hk
    refine hK σ env H ds a w hk ⟨hI.st.rp, hI.st.anc, by rw [hI.agr.size]; exact hI.st.size, fun t => ?_, by rw [hI.agr.defers]; exact hI.st.ds⟩
    rw [hI.agr.slot t (fun i hi => by cases hi)]
    exact hI.st.env t
  have hlisted : ∀ {taken : List (Nat × Bool)} {pend : Pend} {Pd : List Nat} {listed : Array Bool} {σ : Lk} {as : Act} {env : Env T} {H : List (AObj T)} {ds : Ds T} {a : Act} {w : World},
      DI C P G n B ops dsts σ as taken pend Pd listed env H ds a w → ∀ i, i < ops.size → listed.getD i false = listed.getD i true := fun hI i hi => (getD_tf (by rw [hI.sz]; exact hi)).symm
  intro fuel
  induction fuel with
  | zero =>
    intro todo taken pend Pd listed σ as env H ds a w hI hck hall hf h
    have h1 : todo = [] := List.length_eq_zero_iff.1 (by omega)
    have h2 : Pd = [] := List.length_eq_zero_iff.1 (by omega)
    subst h1; subst h2
    refine ⟨?_, done hI h⟩
    refine List.eq_nil_iff_forall_not_mem.2 fun i hi => ?_
    obtain ⟨h0, o, ho, _⟩ := mem_ready.1 hi
    have hlt := lt_of_get ho
    rcases hall i hlt with hp | ⟨p, hp, _⟩
    · rw [(hI.li i hlt).2 ⟨hp, by simp⟩] at h0; cases h0
    · cases hp
  | succ f ihf =>
    intro todo
    induction todo with
    | nil =>
      intro taken pend Pd listed σ as env H ds a w hI hck hall hf h
      refine ⟨fun hr => ?_, fun i hi => ?_⟩
      · -- nothing is ready: nothing is to come
        have hPd : Pd = [] := by
          refine Classical.byContradiction fun hne => ?_
          · obtain ⟨j, hj⟩ := List.exists_mem_of_ne_nil Pd hne
            obtain ⟨p, hp, h1, o, ho, h2⟩ := hI.tp.first ⟨(j, true), (hI.pd j hj).1, hj⟩
            have : p.1 ∈ Region.ready .any ops listed := by
              refine mem_ready.2 ⟨?_, o, ho, fun e he hb => ?_⟩
              · cases hl : listed.getD p.1 true
                · rfl
                · exact (((hI.li p.1 (lt_of_get ho)).1 hl).2 h1).elim
              · obtain ⟨h3, q, hq, h4⟩ := h2 e he hb
                obtain ⟨oq, hoq, _⟩ := hI.tp.get q hq
                rw [h4] at hoq
                rw [hlisted hI _ (lt_of_get hoq)]
                exact (hI.li e.on (lt_of_get hoq)).2 ⟨⟨q, hq, h4⟩, h3⟩
            rw [hr] at this; cases this
        subst hPd
        exact done hI h
      · obtain ⟨h0, o, ho, h1⟩ := mem_ready.1 hi
        have hlt := lt_of_get ho
        have hp : i ∈ Pd := by
          rcases hall i hlt with hp | ⟨p, hp, _⟩
          · by_cases hm : i ∈ Pd
            · exact hm
            · rw [(hI.li i hlt).2 ⟨hp, hm⟩] at h0; cases h0
          · cases hp
        refine hI.exec hC hd ho hp h1 fun as' a' hI' => ihf [] taken pend _ _ σ as' env H ds a' w hI' hck hall ?_ h
        rw [List.length_erase_of_mem hp]
        have := List.length_pos_of_mem hp
        simp at hf ⊢; omega
    | cons p rest ih =>
      intro taken pend Pd listed σ as env H ds a w hI hck hall hf h
      obtain ⟨i, q⟩ := p
      obtain ⟨⟨o, hc⟩, hck'⟩ := chk_cons hck
      have hlt := lt_of_get hc.at_
      have hnot : ¬ ∃ p ∈ taken, p.1 = i := fun ⟨p, hp, e⟩ => hc.new p hp e
      have hall' : ∀ k, k < ops.size → (∃ p ∈ (i, q) :: taken, p.1 = k) ∨ ∃ p ∈ rest, p.1 = k := by
        intro k hk
        rcases hall k hk with ⟨p, hp, e⟩ | ⟨p, hp, e⟩
        · exact .inl ⟨p, List.mem_cons_of_mem _ hp, e⟩
        · rcases List.mem_cons.1 hp with rfl | hp
          · exact .inl ⟨_, by simp, e⟩
          · exact .inr ⟨p, hp, e⟩
      have hpw : ((i, q) :: taken).Pairwise (PairR ops dsts) := by
        rw [List.pairwise_cons]
        refine ⟨fun p hp => ⟨hc.new p hp, ?_⟩, hI.pw⟩
        obtain ⟨x, h1, h2⟩ := hc.pair p hp
        exact ⟨x, o, h1, hc.at_, h2⟩
      have htp : Topo ops ((i, q) :: taken) := ⟨⟨o, hc.at_, hc.sel, hc.edges⟩, hI.tp⟩
      unfold drawL at h
      have hget : ops.toList[i]? = some o := by simpa using hc.at_
      rw [hget] at h
      simp only at h
      cases q with
      | true =>
        -- a quiet one
        rw [cond_true] at h
        split at h
        · rename_i d hdst
          cases hdn : Nat.blt d n
          · rw [hdn] at h; cases h
          · rw [hdn, cond_true] at h
            obtain ⟨x, D, v, k1, k2, k3⟩ := quietA_ok hC hd hI.st.rp hI.st.env h
            have hlt' := Nat.le_of_ble_eq_true hdn
            have hself := hc.self rfl
            rw [hdst] at hself
            have hupd : Ev.upd env d x d = x := by simp [Ev.upd]
            refine ih ((i, true) :: taken) _ (i :: Pd) listed σ (as.put (some d) v) _ H ds a w ⟨hI.st.put hlt' k3, ⟨by rw [put_size]; exact hI.agr.size, by rw [put_defers]; exact hI.agr.defers, fun t ht => ?_⟩, fun j hj => ?_, ?_, hI.sz, fun k hk => ?_, hI.cl, hpw, htp⟩ hck' hall' (by simp at hf ⊢; omega) k1
            · have h1 : d ≠ t := fun e => ht i (by simp) (by simp [dstOf, hc.at_, hdst, e])
              rw [put_getD, if_neg (fun h => h1 (Option.some.inj h.1))]
              exact hI.agr.slot t fun j hj => ht j (List.mem_cons_of_mem _ hj)
            · rcases List.mem_cons.1 hj with rfl | hj
              · refine ⟨by simp, o, d, D, hc.at_, hdst, hlt', by rw [hupd]; simp, ?_, by rw [hdst]; exact hself⟩
                rw [hupd]
                exact k2.upd (noDst_spec hself d rfl)
              · obtain ⟨h0, oj, dj, Dj, h1, h2, h3, h4, h5, h6⟩ := hI.pd j hj
                obtain ⟨y, h7, h8⟩ := hc.pair _ h0
                simp only at h7 h8
                rw [h1] at h7; cases h7
                simp only [pairOk, Bool.and_eq_true, Bool.not_true, Bool.false_or, Bool.not_eq_true'] at h8
                have hne : Ev.upd env d x dj = env dj := by
                  unfold Ev.upd
                  cases hb : Nat.beq dj d
                  · rfl
                  · exact (eqDst_spec h8.2.2 dj h2 (by rw [hdst, Nat.eq_of_beq_eq_true hb])).elim
                refine ⟨List.mem_cons_of_mem _ h0, oj, dj, Dj, h1, h2, h3, by rw [hne]; exact List.mem_cons_of_mem _ h4, ?_, h6⟩
                rw [hne]
                exact h5.upd (noDst_spec h8.2.1 d hdst)
            · exact List.nodup_cons.2 ⟨fun hm => hnot ⟨_, (hI.pd i hm).1, rfl⟩, hI.nd⟩
            · rw [hI.li k hk]
              constructor
              · rintro ⟨⟨p, hp, e⟩, h2⟩
                refine ⟨⟨p, List.mem_cons_of_mem _ hp, e⟩, fun hm => ?_⟩
                rcases List.mem_cons.1 hm with rfl | hm
                · exact hnot ⟨p, hp, e⟩
                · exact h2 hm
              · rintro ⟨⟨p, hp, e⟩, h2⟩
                rw [List.mem_cons, not_or] at h2
                rcases List.mem_cons.1 hp with rfl | hp
                · exact (h2.1 e.symm).elim
                · exact ⟨⟨p, hp, e⟩, h2.2⟩
        · cases h
      | false =>
        rw [cond_false] at h
        cases hb : pend.all (fun p => clo ops.toList 40 o p.1 || touchOk (touchA env o) p.2.1)
        · rw [hb] at h; cases h
        · rw [hb, cond_true] at h
          refine ⟨fun hr => ?_, fun j hj => ?_⟩
          · -- there is one that is ready
            exfalso
            by_cases hPd : ∃ p ∈ taken, p.1 ∈ Pd
            · obtain ⟨p, hp, h1, o', ho', h2⟩ := hI.tp.first hPd
              have : p.1 ∈ Region.ready .any ops listed := by
                refine mem_ready.2 ⟨?_, o', ho', fun e he hb => ?_⟩
                · cases hl : listed.getD p.1 true
                  · rfl
                  · exact (((hI.li p.1 (lt_of_get ho')).1 hl).2 h1).elim
                · obtain ⟨h3, q, hq, h4⟩ := h2 e he hb
                  obtain ⟨oq, hoq, _⟩ := hI.tp.get q hq
                  rw [h4] at hoq
                  rw [hlisted hI _ (lt_of_get hoq)]
                  exact (hI.li e.on (lt_of_get hoq)).2 ⟨⟨q, hq, h4⟩, h3⟩
              rw [hr] at this; cases this
            · have : i ∈ Region.ready .any ops listed := by
                refine mem_ready.2 ⟨?_, o, hc.at_, fun e he hb => ?_⟩
                · cases hl : listed.getD i true
                  · rfl
                  · exact (hnot ((hI.li i hlt).1 hl).1).elim
                · obtain ⟨q, hq, h4⟩ := hc.edges e he hb
                  obtain ⟨oq, hoq, _⟩ := hI.tp.get q hq
                  rw [h4] at hoq
                  rw [hlisted hI _ (lt_of_get hoq)]
                  exact (hI.li e.on (lt_of_get hoq)).2 ⟨⟨q, hq, h4⟩, fun hm => hPd ⟨q, hq, h4 ▸ hm⟩⟩
              rw [hr] at this; cases this
          · obtain ⟨h0, oj, hoj, hre⟩ := mem_ready.1 hj
            have hjlt := lt_of_get hoj
            rcases hall j hjlt with hp | ⟨p, hp, e⟩
            · -- one that is still to come
              have hm : j ∈ Pd := by
                by_cases hm : j ∈ Pd
                · exact hm
                · rw [(hI.li j hjlt).2 ⟨hp, hm⟩] at h0; cases h0
              refine hI.exec hC hd hoj hm hre fun as' a' hI' => ihf ((i, false) :: rest) taken pend _ _ σ as' env H ds a' w hI' hck hall ?_ ?_
              · rw [List.length_erase_of_mem hm]
                have := List.length_pos_of_mem hm
                simp at hf ⊢; omega
              · unfold drawL
                rw [hget]
                simp only [cond_false]
                rw [hb, cond_true]
                exact h
            · rcases List.mem_cons.1 hp with rfl | hp
              · -- its turn
                simp only at e
                subst e
                rw [hc.at_] at hoj; cases hoj
                refine hI.effect hC hΓ hd hc hre (K := fun env H ds => drawL C P G Γ n ops.toList dsts rest pend env H ds K Kp) hb h (fun σ' as' a' env' H' ds' w' k1 k2 hag => ?_) hP
                refine ihf rest ((i, false) :: taken) pend Pd _ σ' as' env' H' ds' a' w' ⟨k2.st, hag, fun k hk => ?_, hI.nd, by simp [hI.sz], fun k hk => ?_, fun k ok hok hlk e he hb => ?_, hpw, htp⟩ hck' hall' (by simp at hf ⊢; omega) k1
                · obtain ⟨h1, _⟩ := hI.pd k hk
                  exact ⟨List.mem_cons_of_mem _ h1, k2.pd k hk⟩
                · by_cases hki : i = k
                  · subst hki
                    have h1 : (listed.setIfInBounds i true).getD i true = true := by simp
                    exact ⟨fun _ => ⟨⟨_, List.mem_cons_self .., rfl⟩, fun hm => hnot ⟨_, (hI.pd i hm).1, rfl⟩⟩, fun _ => h1⟩
                  · rw [getD_set_ne true hki, hI.li k hk]
                    constructor
                    · rintro ⟨⟨p, hp, e⟩, h2⟩
                      exact ⟨⟨p, List.mem_cons_of_mem _ hp, e⟩, h2⟩
                    · rintro ⟨⟨p, hp, e⟩, h2⟩
                      rcases List.mem_cons.1 hp with rfl | hp
                      · exact (hki e).elim
                      · exact ⟨⟨p, hp, e⟩, h2⟩
                · by_cases hki : i = k
                  · subst hki
                    rw [hc.at_] at hok; cases hok
                    exact getD_set_true (hre e he hb)
                  · rw [getD_set_ne false hki] at hlk
                    exact getD_set_true (hI.cl k ok hok hlk e he hb)
              · -- another one cannot be ready
                obtain ⟨o', h1, e', he', hb', hn⟩ := hc.lone rfl p hp
                rw [e, hoj] at h1; cases h1
                have hl := hre e' he' hb'
                have hlt2 : e'.on < ops.size := by
                  rcases Nat.lt_or_ge e'.on ops.size with h | h
                  · exact h
                  · rw [Array.getD_eq_getD_getElem?, Array.getElem?_eq_none (by rw [hI.sz]; exact h)] at hl; cases hl
                rw [hlisted hI _ hlt2] at hl
                obtain ⟨q, hq, h4⟩ := ((hI.li _ hlt2).1 hl).1
                exact (hn q hq h4).elim

theorem rep_world {w' : World} (hh : w'.heap = w.heap) : (∀ x y, RepA C σ H w x y → RepA C σ H w' x y) ∧ (Rp C σ H w G → Rp C σ H w' G) := by
  have hM : Move C [] σ H w σ H w' := by
    refine ⟨fun b off x ⟨h1, h2⟩ => ⟨h1, by unfold World.cell? at *; rw [hh]; exact h2⟩, Nat.le_refl _, fun _ _ _ => rfl, fun o _ _ n s h => ⟨h, fun b _ cs e fz hcs => ⟨cs, e, fz, by rw [hh]; exact hcs, rfl⟩⟩⟩
  refine ⟨fun x y h => RepA.move0 hM h, fun hR => ⟨hR.inj, fun i o b h1 h2 h3 => by rw [hh]; exact hR.lt i o b h1 h2 h3, fun i o hi => ?_, fun g l hg => (hR.glob g l hg).mono hM.cell, hR.free, fun b off hF => by rw [hh]; exact hR.fb b off hF⟩⟩
  have := RepO.move hM rfl (fun b _ => by rw [hh]) (hR.obj i o hi)
  rwa [purgeO_nil] at this

theorem st_drawn {n : Nat} {B : Base T} {env : Env T} {ds : Ds T} {a : Act} (st : St C G n B σ env H ds a w) : St C G n B σ env H ds a { w with drawn := w.drawn + 1 } := by
  obtain ⟨h1, h2⟩ := rep_world (C := C) (σ := σ) (H := H) (w := w) (w' := { w with drawn := w.drawn + 1 }) (G := G) rfl
  have hA := st.anc
  refine ⟨h2 st.rp, ⟨hA.F, hA.os, hA.tape, hA.output, hA.size, hA.len, hA.okc, hA.same, hA.block, hA.sig, hA.fresh, hA.kind⟩, st.size, fun t => h1 _ _ (st.env t), ?_⟩
  have hM : Move C [] σ H w σ H { w with drawn := w.drawn + 1 } :=
    ⟨fun b off x h => h, Nat.le_refl _, fun _ _ _ => rfl, fun o _ _ n s h => ⟨h, fun b _ cs e fz hcs => ⟨cs, e, fz, hcs, rfl⟩⟩⟩
  have := st.ds.move hM
  rwa [purgeDs_nil] at this

/-- May an operation be taken ahead of others? -/
def calmB (P : Program) (o : Oper) : Bool :=
  match o.op with
  | .move _ | .pick _ _ _ | .build _ _ | .load _ _ | .nilCheck _ | .binOp _ _ _ _ _ | .unOp _ _ _ | .makeInterface _ _ | .makeFunc _ _ _
  | .fieldAddr _ _ _ | .field _ _ _ | .indexAddr _ _ _ | .index _ _ _ | .typeAssert _ _ _ _ | .extract _ _ | .assign _ => true
  | .convert _ d _ => !isSliceT P d
  | .slice t _ _ _ _ => !isSliceT P t
  | .call { callee := .builtin b, .. } => match b with
    | .len | .min | .max => true
    | _ => false
  | _ => false

def readyB (taken : List (Nat × Bool)) (o : Oper) : Bool := o.after.toList.all fun e => !edge e || taken.any fun p => Nat.beq p.1 e.on
def freshB (ops : List Oper) (dsts : Nat → Option Nat) (taken : List (Nat × Bool)) (o : Oper) : Bool :=
  (match o.dst with | some _ => true | none => false) && noDst o.dst (looks dsts o) && taken.all fun p => match ops[p.1]? with | some x => noDst o.dst (looks dsts x) && !eqDst x.dst o.dst | none => false

def planL (P : Program) (ops : List Oper) (dsts : Nat → Option Nat) : Nat → List (Nat × Bool) → List (Nat × Oper) → List (Nat × Bool)
  | 0, taken, _ => taken.reverse
  | k + 1, taken, todo =>
    match todo.find? fun p => calmB P p.2 && readyB taken p.2 && freshB ops dsts taken p.2 with
    | some p => planL P ops dsts k ((p.1, true) :: taken) (todo.filter fun x => !Nat.beq x.1 p.1)
    | none => match todo.find? fun p => readyB taken p.2 with
      | some p => planL P ops dsts k ((p.1, false) :: taken) (todo.filter fun x => !Nat.beq x.1 p.1)
      | none => taken.reverse

def enumL {α : Type} : Nat → List α → List (Nat × α)
  | _, [] => []
  | k, x :: l => (k, x) :: enumL (k + 1) l

def planB (P : Program) (ops : List Oper) (dsts : Nat → Option Nat) : List (Nat × Bool) := planL P ops dsts ops.length [] (enumL 0 ops)

def allIn (plan : List (Nat × Bool)) : Nat → Bool
  | 0 => true
  | k + 1 => (plan.any fun p => Nat.beq p.1 k) && allIn plan k
theorem allIn_ok {plan : List (Nat × Bool)} : ∀ {k : Nat}, allIn plan k = true → ∀ i, i < k → ∃ p ∈ plan, p.1 = i
  | 0, _, i, hi => by omega
  | k + 1, h, i, hi => by
    unfold allIn at h
    rw [Bool.and_eq_true] at h
    by_cases hik : i = k
    · subst hik; exact any_beq.1 h.1
    · exact allIn_ok h.2 i (by omega)

def planOk (ops : List Oper) (dsts : Nat → Option Nat) (plan : List (Nat × Bool)) : Bool := Nat.beq plan.length ops.length && allIn plan ops.length && chk ops dsts [] plan

def drawA (C : Cdc T) (P : Program) (G : Nat → Option (List (V T))) (Γ : Gam T) (n : Nat) (ops : Array Oper) (env : Env T) (H : List (AObj T)) (ds : Ds T) (K : KS T R) (Kp : KP T R) : Option R :=
  (fun (l : List Oper) => (fun (dsts : Nat → Option Nat) => (fun (plan : List (Nat × Bool)) =>
    bif planOk l dsts plan then drawL C P G Γ n l dsts plan [] env H ds K Kp else none) (planB P l dsts)) (fun j => (l[j]?).bind (·.dst))) ops.toList

theorem drawA_ok (hC : CdcOk C) {Γ : Gam T} (hΓ : GOk P C G Γ) (hm : P.follows .mixedOrders = true) {n : Nat} {B : Base T} {id : Nat} {ops : Array Oper} {K : KS T R} {Kp : KP T R} {r : R} {Q : Exit → Act → World → Prop} {env : Env T} {ds : Ds T} {a : Act}
    (st : St C G n B σ env H ds a w) (h : drawA C P G Γ n ops env H ds K Kp = some r)
    (hK : ∀ σ' env' H' ds' a' w', K env' H' ds' = some r → St C G n B σ' env' H' ds' a' w' → Q .normal a' w')
    (hP : ∀ σ' env' p H' ds' a' v w', Kp env' p H' ds' = some r → PSt C G n B σ' env' p H' ds' a' v w' → Q (.panic [{ v, recovered := false }]) a' w') : (Code.region id ops true).wp P Q a w := by
  refine wp_region_any hm ?_
  unfold drawA at h
  simp only at h
  generalize planB P ops.toList (fun j => (ops.toList[j]?).bind (·.dst)) = plan at h
  cases hb : planOk ops.toList (fun j => (ops.toList[j]?).bind (·.dst)) plan
  · rw [hb] at h; cases h
  · rw [hb, cond_true] at h
    unfold planOk at hb
    simp only [Bool.and_eq_true] at hb
    obtain ⟨⟨h1, h2⟩, h3⟩ := hb
    have hlen : plan.length = ops.size := by have := Nat.eq_of_beq_eq_true h1; simpa using this
    refine draw_ok hC hΓ (dsts := fun j => (ops.toList[j]?).bind (·.dst)) (fun j => by simp) hK hP ops.size plan [] [] [] _ σ a env H ds a _ ⟨?_, Agr.refl, fun i hi => (by cases hi), List.nodup_nil, by simp, fun i hi => ?_, fun i o ho hl => ?_, List.Pairwise.nil, trivial⟩ h3 (fun i hi => .inr (allIn_ok h2 i (by simpa using hi))) (by simp [hlen]) h
    · exact st_drawn st
    · simp [hi]
    · have := lt_of_get ho
      simp [this] at hl

end Go.Proofs.YtfoeekaanngoiaaDoor.Ev


namespace Go.Proofs.YtfoeekaanngoiaaDoor.Ev
open Go
variable {T : Nat → Type} {C : Cdc T} {P : Program} {σ : Lk} {H : List (AObj T)} {w : World} {G : Nat → Option (List (V T))} {R : Type}

def opsA (C : Cdc T) (P : Program) (G : Nat → Option (List (V T))) (Γ : Gam T) (n : Nat) (dsts : Nat → Option Nat) : List Oper → Env T → List (AObj T) → Ds T → KS T R → KP T R → Option R
  | [], env, H, ds, K, _ => K env H ds
  | o :: l, env, H, ds, K, Kp => operA C P G Γ n dsts o env H ds (fun env H ds => opsA C P G Γ n dsts l env H ds K Kp) Kp

theorem opsA_ok (hC : CdcOk C) {Γ : Gam T} (hΓ : GOk P C G Γ) {n : Nat} {B : Base T} {ops : Array Oper} {dsts : Nat → Option Nat} (hd : ∀ j, dsts j = (ops[j]?).bind (·.dst)) {K : KS T R} {Kp : KP T R} {r : R} {Q : Exit → Act → World → Prop}
    (hK : ∀ σ' env' H' ds' a' w', K env' H' ds' = some r → St C G n B σ' env' H' ds' a' w' → Q .normal a' w')
    (hP : ∀ σ' env' p H' ds' a' v w', Kp env' p H' ds' = some r → PSt C G n B σ' env' p H' ds' a' v w' → Q (.panic [{ v, recovered := false }]) a' w') :
    ∀ (l : List Oper) (σ : Lk) (env : Env T) (H : List (AObj T)) (ds : Ds T) (a : Act) (w : World), St C G n B σ env H ds a w → opsA C P G Γ n dsts l env H ds K Kp = some r → wpList P ops Q l a w := by
  intro l
  induction l with
  | nil => intro σ env H ds a w st h; exact hK _ _ _ _ _ _ h st
  | cons o l ih =>
    intro σ env H ds a w st h
    have := operA_ok hC hΓ st hd h (next := wpList P ops Q l) (Q := Q) (fun σ' env' H' ds' a' w' h' st' => ih σ' env' H' ds' a' w' st' h') (fun σ' env' p H' ds' v w' h' st' => hP σ' env' p H' ds' a v w' h' st')
    unfold wpList
    split
    · rename_i hw; rw [if_pos hw] at this; exact .inl this
    · rename_i hw; rw [if_neg hw] at this; exact this

inductive Ex (T : Nat → Type) : Type
  | normal
  | exit (i : Nat)
  | ret
  | pan (p : AV T)
abbrev KC (T : Nat → Type) (R : Type) := Ex T → Env T → List (AObj T) → Ds T → Option R
/-- A piece of code of which is told apart what it comes to. -/
abbrev Cut (T : Nat → Type) := (R : Type) → Env T → List (AObj T) → Ds T → KC T R → Option R
inductive Key | blk (id : Nat) | cnd (slot n : Nat) | reg (id : Nat)
/-- A code's first region's number and one more; 0: it has none. -/
def rid : Code → Nat
  | .region id _ _ => id + 1
  | .seq a b => match rid a with | 0 => rid b | n + 1 => n + 1
  | .cond _ a b => match rid a with | 0 => rid b | n + 1 => n + 1
  | .block _ b => rid b
  | .loop b => rid b
  | .scope b => rid b
  | _ => 0

def cutAt (cut : Key → Option (Cut T)) (c : Operand) (a b : Code) : Option (Cut T) :=
  match c with
  | .tmp t => cut (.cnd t (rid (.seq a b)))
  | _ => none

def codeA (C : Cdc T) (P : Program) (G : Nat → Option (List (V T))) (Γ : Gam T) (n : Nat) (cut : Key → Option (Cut T)) : Code → Env T → List (AObj T) → Ds T → KC T R → Option R
  | .skip, env, H, ds, K => K .normal env H ds
  | .region id ops draw, env, H, ds, K => match cut (.reg id) with
    | some e => e R env H ds K
    | none => bif draw then drawA C P G Γ n ops env H ds (fun env H ds => K .normal env H ds) (fun env p H ds => K (.pan p) env H ds) else
      opsA C P G Γ n (fun j => (ops[j]?).bind (·.dst)) ops.toList env H ds (fun env H ds => K .normal env H ds) (fun env p H ds => K (.pan p) env H ds)
  | .seq a b, env, H, ds, K => codeA C P G Γ n cut a env H ds fun
      | .normal, env, H, ds => codeA C P G Γ n cut b env H ds K
      | .exit i, env, H, ds => K (.exit i) env H ds
      | .ret, env, H, ds => K .ret env H ds
      | .pan p, env, H, ds => K (.pan p) env H ds
  | .cond c a b, env, H, ds, K => match cutAt cut c a b with
    | some e => e R env H ds K
    | none => match evO env c with
      | .v (.b x) => bif x then codeA C P G Γ n cut a env H ds K else codeA C P G Γ n cut b env H ds K
      | _ => none
  | .block id b, env, H, ds, K => match cut (.blk id) with
    | some e => e R env H ds K
    | none => codeA C P G Γ n cut b env H ds fun
      | .exit i, env, H, ds => bif Nat.beq i id then K .normal env H ds else K (.exit i) env H ds
      | .normal, env, H, ds => K .normal env H ds
      | .ret, env, H, ds => K .ret env H ds
      | .pan p, env, H, ds => K (.pan p) env H ds
  | .exit id, env, H, ds, K => K (.exit id) env H ds
  | .ret, env, H, ds, K => K .ret env H ds
  | .label _, env, H, ds, K => K .normal env H ds
  | .scope b, env, H, ds, K => codeA C P G Γ n cut b env H ds K
  | _, _, _, _, _ => none

def ExM (C : Cdc T) (σ : Lk) (H : List (AObj T)) (w : World) : Ex T → Exit → Prop
  | .normal, e => e = .normal
  | .exit i, e => e = .exit i
  | .ret, e => e = .ret
  | .pan p, e => ∃ v, e = .panic [{ v, recovered := false }] ∧ RepA C σ H w p v

def PostC (C : Cdc T) (G : Nat → Option (List (V T))) (n : Nat) (B : Base T) (K : KC T R) (r : R) (e : Exit) (a : Act) (w : World) : Prop :=
  ∃ σ x env H ds, K x env H ds = some r ∧ ExM C σ H w x e ∧ St C G n B σ env H ds a w

def CutOk (P : Program) (C : Cdc T) (G : Nat → Option (List (V T))) (n nB : Nat) (c : Code) (e : Cut T) : Prop :=
  ∀ (R : Type) (env : Env T) (H : List (AObj T)) (ds : Ds T) (K : KC T R) (r : R), e R env H ds K = some r → ∀ (B : Base T) (σ : Lk) (a : Act) (w : World), B.H.length = nB → St C G n B σ env H ds a w → c.wp P (PostC C G n B K r) a w

def CutsOk (P : Program) (C : Cdc T) (G : Nat → Option (List (V T))) (n nB : Nat) (cut : Key → Option (Cut T)) : Code → Prop
  | .region id ops d => ∀ e, cut (.reg id) = some e → CutOk P C G n nB (.region id ops d) e
  | .seq a b => CutsOk P C G n nB cut a ∧ CutsOk P C G n nB cut b
  | .cond c a b => (∀ e, cutAt cut c a b = some e → CutOk P C G n nB (.cond c a b) e) ∧ (cutAt cut c a b = none → CutsOk P C G n nB cut a ∧ CutsOk P C G n nB cut b)
  | .block id b => (∀ e, cut (.blk id) = some e → CutOk P C G n nB (.block id b) e) ∧ (cut (.blk id) = none → CutsOk P C G n nB cut b)
  | .scope b => CutsOk P C G n nB cut b
  | _ => True

theorem codeA_ok (hC : CdcOk C) {Γ : Gam T} (hΓ : GOk P C G Γ) (hm : P.follows .mixedOrders = true) {n nB : Nat} {cut : Key → Option (Cut T)} {B : Base T} (hB : B.H.length = nB) {r : R} : ∀ (c : Code), CutsOk P C G n nB cut c → ∀ (K : KC T R) (σ : Lk) (env : Env T) (H : List (AObj T)) (ds : Ds T) (a : Act) (w : World),
    St C G n B σ env H ds a w → codeA C P G Γ n cut c env H ds K = some r → c.wp P (PostC C G n B K r) a w := by
  intro c
  induction c with
  | skip => intro _ K σ env H ds a w st h; exact wp_skip ⟨σ, .normal, env, H, ds, h, rfl, st⟩
  | region id ops draw =>
    intro hcut K σ env H ds a w st h
    simp only [codeA] at h
    split at h
    · rename_i e he
      exact hcut e he R env H ds K r h B σ a w hB st
    · cases draw
      · simp only [cond_false] at h
        refine wp_region_list ?_
        exact opsA_ok hC hΓ (ops := ops) (fun j => rfl) (fun σ' env' H' ds' a' w' h' st' => ⟨σ', .normal, env', H', ds', h', rfl, st'⟩) (fun σ' env' p H' ds' a' v w' h' st' => ⟨σ', .pan p, env', H', ds', h', ⟨v, rfl, st'.2⟩, st'.1⟩) ops.toList σ env H ds a w st h
      · simp only [cond_true] at h
        exact drawA_ok hC hΓ hm st h (fun σ' env' H' ds' a' w' h' st' => ⟨σ', .normal, env', H', ds', h', rfl, st'⟩) (fun σ' env' p H' ds' a' v w' h' st' => ⟨σ', .pan p, env', H', ds', h', ⟨v, rfl, st'.2⟩, st'.1⟩)
  | seq x y ihx ihy =>
    intro hcut K σ env H ds a w st h
    simp only [codeA] at h
    refine wp_seq ?_
    refine wp_mono (ihx hcut.1 _ σ env H ds a w st h) fun e a' w' hpost => ?_
    obtain ⟨σ', ex, env', H', ds', h1, h2, h3⟩ := hpost
    cases ex with
    | normal => cases (show e = _ from h2); exact ihy hcut.2 K σ' env' H' ds' a' w' h3 h1
    | exit i => cases (show e = _ from h2); exact ⟨σ', .exit i, env', H', ds', h1, rfl, h3⟩
    | ret => cases (show e = _ from h2); exact ⟨σ', .ret, env', H', ds', h1, rfl, h3⟩
    | pan p => obtain ⟨v, rfl, hv⟩ := h2; exact ⟨σ', .pan p, env', H', ds', h1, ⟨v, rfl, hv⟩, h3⟩
  | cond c x y ihx ihy =>
    intro hcut K σ env H ds a w st h
    simp only [codeA] at h
    split at h
    · rename_i e he
      exact hcut.1 e he R env H ds K r h B σ a w hB st
    · rename_i he
      have hc := hcut.2 he
      split at h
      · rename_i b hb
        have hv := rep_evO st.env c
        rw [hb] at hv
        have hvb := rep_b hv
        cases b
        · exact wp_cond_false hvb (ihy hc.2 K σ env H ds a w st h)
        · exact wp_cond_true hvb (ihx hc.1 K σ env H ds a w st h)
      · cases h
  | block id b ih =>
    intro hcut K σ env H ds a w st h
    simp only [codeA] at h
    split at h
    · rename_i e he
      exact hcut.1 e he R env H ds K r h B σ a w hB st
    · rename_i he
      refine wp_block (wp_mono (ih (hcut.2 he) _ σ env H ds a w st h) fun e a' w' hpost => ?_)
      obtain ⟨σ', ex, env', H', ds', h1, h2, h3⟩ := hpost
      cases ex with
      | normal => cases (show e = _ from h2); exact ⟨σ', .normal, env', H', ds', h1, rfl, h3⟩
      | exit i =>
        cases (show e = _ from h2)
        simp only at h1
        cases hi : Nat.beq i id
        · rw [hi] at h1
          have hne : ¬ i = id := fun e => by subst e; simp at hi
          simp only [Exit.inBlock, hne, if_false]
          exact ⟨σ', .exit i, env', H', ds', h1, rfl, h3⟩
        · rw [hi] at h1
          have := Nat.eq_of_beq_eq_true hi
          simp only [Exit.inBlock, this, if_true]
          exact ⟨σ', .normal, env', H', ds', h1, rfl, h3⟩
      | ret => cases (show e = _ from h2); exact ⟨σ', .ret, env', H', ds', h1, rfl, h3⟩
      | pan p => obtain ⟨v, rfl, hv⟩ := h2; exact ⟨σ', .pan p, env', H', ds', h1, ⟨v, rfl, hv⟩, h3⟩
  | exit id => intro _ K σ env H ds a w st h; exact wp_exit ⟨σ, .exit id, env, H, ds, h, rfl, st⟩
  | ret => intro _ K σ env H ds a w st h; exact wp_ret ⟨σ, .ret, env, H, ds, h, rfl, st⟩
  | scope b ih =>
    intro hcut K σ env H ds a w st h
    simp only [codeA] at h
    refine wp_scope_straight (wp_mono (ih hcut K σ env H ds a w st h) fun e a' w' hpost => ?_)
    obtain ⟨σ', ex, env', H', ds', h1, h2, h3⟩ := hpost
    cases ex with
    | normal => cases (show e = _ from h2); exact ⟨σ', .normal, env', H', ds', h1, rfl, h3⟩
    | exit i => cases (show e = _ from h2); exact ⟨σ', .exit i, env', H', ds', h1, rfl, h3⟩
    | ret => cases (show e = _ from h2); exact ⟨σ', .ret, env', H', ds', h1, rfl, h3⟩
    | pan p => obtain ⟨v, rfl, hv⟩ := h2; exact ⟨σ', .pan p, env', H', ds', h1, ⟨v, rfl, hv⟩, h3⟩
  | label l => intro _ K σ env H ds a w st h; exact wp_label ⟨σ, .normal, env, H, ds, h, rfl, st⟩
  | _ => intro _ K σ env H ds a w st h; cases h

end Go.Proofs.YtfoeekaanngoiaaDoor.Ev


namespace Go.Proofs.YtfoeekaanngoiaaDoor.Ev
open Go
variable {T : Nat → Type} {C : Cdc T} {P : Program} {σ : Lk} {H : List (AObj T)} {w : World} {G : Nat → Option (List (V T))} {R : Type}

def gcσ (S : List Nat) (σ : Lk) : Lk := { f := fun i => (S[i]?).bind σ.f, F := σ.F }

section
variable {S : List Nat}
theorem rn_gc (hn : S.Nodup) : Rn C S.idxOf (· ∈ S) σ H w (gcσ S σ) (subH S H) w := by
  refine ⟨fun b off x ⟨h1, h2⟩ => ⟨⟨h1.1, fun i o hi hs => ?_⟩, h2⟩, fun o ho _ => ?_, fun o ho _ => ?_, fun o ho hlt n s h => ?_, fun o _ b _ cs e fz h => ⟨cs, e, fz, h, rfl⟩⟩
  · obtain ⟨q, hq, rfl⟩ := subH_get hi
    rw [foot_renO]
    have hs' : σ q = some b := by simpa [gcσ, hq] using hs
    cases hx : H[q]? with
    | none => rw [List.getD_eq_getElem?_getD, hx]; exact fun h => h
    | some x => rw [getD_some hx]; exact h1.2 q x hx hs'
  · show S.idxOf o < (S.map _).length
    rw [List.length_map]; exact List.idxOf_lt_length_of_mem ho
  · simp [gcσ, get_idx ho]
  · obtain ⟨x, hx0, hxs⟩ := svH_some h
    obtain ⟨q, hq, hx⟩ := subH_get hx0
    rw [get_idx ho] at hq
    cases hq
    subst hx
    have hr := svO_ren _ n s hxs
    rw [List.getD_eq_getElem?_getD, List.getElem?_eq_getElem hlt] at hr
    exact svH_of (List.getElem?_eq_getElem hlt) (by simpa using hr)

theorem gc_key (hc : closedB S H = true) {i : Nat} {x : AObj T} (h : (subH S H)[i]? = some x) :
    ∃ o z, S[i]? = some o ∧ H[o]? = some z ∧ x = renO S.idxOf z ∧ withinO S z = true ∧ gcσ S σ i = σ o := by
  obtain ⟨o, ho, rfl⟩ := subH_get h
  obtain ⟨z, hz, hw⟩ := closed_get hc (List.mem_of_getElem? ho)
  exact ⟨o, z, ho, hz, by rw [getD_some hz], hw, by simp [gcσ, ho]⟩

theorem gc_rp (hn : S.Nodup) (hc : closedB S H = true) (hR : Rp C σ H w G) : Rp C (gcσ S σ) (subH S H) w G := by
  have hM := rn_gc (C := C) (σ := σ) (H := H) (w := w) hn
  refine ⟨fun i j oi oj b hi hj hli hlj hsi hsj => ?_, fun i o b hi hl hs => ?_, fun i o hi => ?_, fun g l hg => (hR.glob g l hg).mono hM.cell, fun i o b hi hl hs off hF => ?_, fun b off hF => hR.fb b off hF⟩
  · obtain ⟨p, z, h1, h2, rfl, _, h3⟩ := gc_key (σ := σ) hc hi
    obtain ⟨q, z', k1, k2, rfl, _, k3⟩ := gc_key (σ := σ) hc hj
    rw [live_renO] at hli hlj
    have := hR.inj p q z z' b h2 k2 hli hlj (h3 ▸ hsi) (k3 ▸ hsj)
    subst this
    rw [← idx_get hn h1, ← idx_get hn k1]
  · obtain ⟨p, z, h1, h2, rfl, _, h3⟩ := gc_key (σ := σ) hc hi
    rw [live_renO] at hl
    exact hR.lt p z b h2 hl (h3 ▸ hs)
  · obtain ⟨p, z, h1, h2, rfl, hw, h3⟩ := gc_key (σ := σ) hc hi
    have := RepO.ren hM (j := p) (o := z) (by cases z <;> first | trivial | exact names_withinL S _ hw) (by rw [idx_get hn h1]; exact h3) (fun _ _ => rfl) (hR.obj p z h2)
    rwa [idx_get hn h1] at this
  · obtain ⟨p, z, h1, h2, rfl, hw, h3⟩ := gc_key (σ := σ) hc hi
    rw [live_renO] at hl
    exact hR.free p z b h2 hl (h3 ▸ hs) off hF

theorem gc_anc (hn : S.Nodup) (hc : closedB S H = true) {σ0 : Lk} {H0 : List (AObj T)} {w0 : World} (hid : ∀ i, i < H0.length → S[i]? = some i) (hA : Anc C σ0 H0 w0 σ H w) : Anc C σ0 H0 w0 (gcσ S σ) (subH S H) w := by
  have hM := rn_gc (C := C) (σ := σ) (H := H) (w := w) hn
  have hlen : H0.length ≤ S.length := by
    rcases Nat.eq_zero_or_pos H0.length with h | h
    · omega
    · have := (List.getElem?_eq_some_iff.1 (hid (H0.length - 1) (by omega))).1
      omega
  refine ⟨hA.F, hA.os, hA.tape, hA.output, hA.size, by simpa [subH] using hlen, fun b off hb ho => ?_, hA.same, hA.block, fun i o hi hr => ?_, fun i o b hi hl hs => ?_, fun i o o' hi hi' hr => ?_⟩
  · have h := hA.okc b off hb ho
    refine ⟨h.1, fun i o hi hs => ?_⟩
    obtain ⟨p, z, h1, h2, rfl, _, h3⟩ := gc_key (σ := σ) hc hi
    rw [foot_renO]
    exact h.2 p z h2 (h3 ▸ hs)
  · have hlt := (List.getElem?_eq_some_iff.1 hi).1
    have : gcσ S σ i = σ i := by simp [gcσ, hid i hlt]
    rw [this]; exact hA.sig i o hi hr
  · obtain ⟨p, z, h1, h2, rfl, _, h3⟩ := gc_key (σ := σ) hc hi
    rw [live_renO] at hl
    rcases hA.fresh p z b h2 hl (h3 ▸ hs) with ⟨o', k1, k2, k3⟩ | k
    · have hlt := (List.getElem?_eq_some_iff.1 k1).1
      have := hid p hlt
      have hip : p = i := (idx_get hn this).symm.trans (idx_get hn h1)
      subst hip
      exact .inl ⟨o', k1, k2, k3⟩
    · exact .inr k
  · have hlt := (List.getElem?_eq_some_iff.1 hi).1
    obtain ⟨p, z, h1, h2, rfl, _, _⟩ := gc_key (σ := σ) hc hi'
    rw [hid i hlt] at h1
    cases h1
    rw [isRow_renO]
    exact hA.kind i o z hi h2 hr
end

structure Sv (C : Cdc T) (G : Nat → Option (List (V T))) (B : Base T) (σ : Lk) (env : Env T) (H : List (AObj T)) (ds : Ds T) (val : Nat → Value) (dl : List Deferred) (w : World) : Prop where
  rp : Rp C σ H w G
  anc : Anc C B.σ B.H B.w σ H w
  env : ∀ t, RepA C σ H w (env t) (val t)
  ds : RepDs C σ H w ds dl

theorem St.sv {n : Nat} {B : Base T} {env : Env T} {ds : Ds T} {a : Act} (st : St C G n B σ env H ds a w) : Sv C G B σ env H ds (fun t => a.tmps.getD t undef) a.defers w := ⟨st.rp, st.anc, st.env, st.ds⟩
theorem Sv.st {n : Nat} {B : Base T} {env : Env T} {ds : Ds T} {a : Act} (h : Sv C G B σ env H ds (fun t => a.tmps.getD t undef) a.defers w) (hn : a.tmps.size = n) : St C G n B σ env H ds a w := ⟨h.rp, h.anc, hn, h.env, h.ds⟩

abbrev NormT (T : Nat → Type) := Env T → List (AObj T) → Ds T → Env T × List (AObj T) × Ds T
def NormOk (C : Cdc T) (G : Nat → Option (List (V T))) (nB : Nat) (N : NormT T) : Prop :=
  ∀ (B : Base T) (σ : Lk) (env : Env T) (H : List (AObj T)) (ds : Ds T) (val : Nat → Value) (dl : List Deferred) (w : World), B.H.length = nB → Sv C G B σ env H ds val dl w →
    ∃ σ', Sv C G B σ' (N env H ds).1 (N env H ds).2.1 (N env H ds).2.2 val dl w

def idN : NormT T := fun env H ds => (env, H, ds)
theorem idN_ok {nB : Nat} : NormOk C G nB idN := fun B σ env H ds val dl w _ h => ⟨σ, h⟩
def andN (N M : NormT T) : NormT T := fun env H ds => (fun r => M r.1 r.2.1 r.2.2) (N env H ds)
theorem andN_ok {nB : Nat} {N M : NormT T} (hN : NormOk C G nB N) (hM : NormOk C G nB M) : NormOk C G nB (andN N M) := fun B σ env H ds val dl w hB h => by
  obtain ⟨σ1, h1⟩ := hN B σ env H ds val dl w hB h
  exact hM B σ1 _ _ _ val dl w hB h1

def refsDs (ds : Ds T) : List Nat := ds.foldr (fun d acc => refsL d.2.1 ++ refsL d.2.2 ++ acc) []
def renDs (f : Nat → Nat) (ds : Ds T) : Ds T := ds.map fun d => (d.1, renL f d.2.1, renL f d.2.2)
def withinDs (S : List Nat) (ds : Ds T) : Bool := ds.all fun d => withinL S d.2.1 && withinL S d.2.2
def idB (n : Nat) (S : List Nat) : Bool := (List.range n).all fun i => match S[i]? with | some j => Nat.beq i j | none => false

theorem RepDs.ren {f : Nat → Nat} {D : Nat → Prop} {σ' : Lk} {H' : List (AObj T)} {w' : World} (M : Rn C f D σ H w σ' H' w') : ∀ {ds : Ds T} {l : List Deferred}, (∀ d ∈ ds, NamesL D d.2.1 ∧ NamesL D d.2.2) → RepDs C σ H w ds l → RepDs C σ' H' w' (renDs f ds) l
  | [], _, _, h => h
  | d :: ds, _, hn, ⟨args, cap, l', h1, h2, h3, h4⟩ =>
    ⟨args, cap, l', h1, RepL.ren M _ _ (hn d (by simp)).1 h2, RepL.ren M _ _ (hn d (by simp)).2 h3, RepDs.ren M (fun d hd => hn d (List.mem_cons_of_mem _ hd)) h4⟩

def gcRun (nB : Nat) (live : List Nat) (S : List Nat) : NormT T := fun env H ds =>
  bif nodupB S && closedB S H && idB nB S && withinL S (live.map env) && withinDs S ds then
    (fun t => bif live.elem t then ren S.idxOf (env t) else .any, subH S H, renDs S.idxOf ds)
  else (env, H, ds)
def gcN (nB : Nat) (live : List Nat) : NormT T := fun env H ds => gcRun nB live (reach H 5 (addAll (List.range nB) (refsL (live.map env) ++ refsDs ds))) env H ds

theorem withinL_mem {S : List Nat} : ∀ {l : List (AV T)} {x : AV T}, withinL S l = true → x ∈ l → within S x = true
  | y :: l, x, h, hx => by
    have h' : (within S y && withinL S l) = true := h
    rw [Bool.and_eq_true] at h'
    rcases List.mem_cons.1 hx with rfl | hx
    · exact h'.1
    · exact withinL_mem h'.2 hx

theorem gcRun_ok {nB : Nat} {live S : List Nat} : NormOk C G nB (gcRun nB live S) := by
  intro B σ env H ds val dl w hB h
  unfold gcRun
  cases hb : nodupB S && closedB S H && idB nB S && withinL S (live.map env) && withinDs S ds
  · exact ⟨σ, h⟩
  · simp only [Bool.and_eq_true] at hb
    obtain ⟨⟨⟨⟨h1, h2⟩, h3⟩, h4⟩, h5⟩ := hb
    have hn := nodup_of h1
    have hM := rn_gc (C := C) (σ := σ) (H := H) (w := w) hn
    have hid : ∀ i, i < B.H.length → S[i]? = some i := by
      intro i hi
      have := List.all_eq_true.1 h3 i (List.mem_range.2 (by omega))
      cases hs : S[i]? with
      | none => rw [hs] at this; cases this
      | some j => rw [hs] at this; rw [Nat.eq_of_beq_eq_true this]
    refine ⟨gcσ S σ, gc_rp hn h2 h.rp, gc_anc hn h2 hid h.anc, fun t => ?_, h.ds.ren hM fun d hd => ?_⟩
    · show RepA C _ _ w (bif live.elem t then ren S.idxOf (env t) else .any) _
      cases ht : live.elem t
      · trivial
      · have hm : t ∈ live := by simpa using ht
        exact RepA.ren hM _ _ (names_within S _ (withinL_mem h4 (List.mem_map.2 ⟨t, hm, rfl⟩))) (h.env t)
    · have := List.all_eq_true.1 h5 d hd
      rw [Bool.and_eq_true] at this
      exact ⟨names_withinL S _ this.1, names_withinL S _ this.2⟩
theorem gcN_ok {nB : Nat} {live : List Nat} : NormOk C G nB (gcN nB live) := fun B σ env H ds val dl w hB h => gcRun_ok B σ env H ds val dl w hB h

def promAV (n : Nat) : List Nat → AV T → Option (AV T)
  | [], .cap0 => some (.own n)
  | i :: p, .agg l => match l[i]? with
    | some x => match promAV n p x with
      | some y => some (.agg (l.set i y))
      | none => none
    | none => none
  | i :: p, .tup l => match l[i]? with
    | some x => match promAV n p x with
      | some y => some (.tup (l.set i y))
      | none => none
    | none => none
  | _, _ => none

theorem RepL.set {l : List (AV T)} {ys : List Value} (h : RepL C σ H w l ys) {i : Nat} {x : AV T} (hx : ∀ y, ys[i]? = some y → RepA C σ H w x y) : RepL C σ H w (l.set i x) ys := by
  refine RepL.of_get (by simp [h.length]) fun j a y hj hy => ?_
  rw [List.getElem?_set] at hj
  by_cases hij : i = j
  · subst hij
    rw [if_pos rfl] at hj
    by_cases hl : i < l.length
    · rw [if_pos hl] at hj; cases hj; exact hx y hy
    · rw [if_neg hl] at hj; cases hj
  · rw [if_neg hij] at hj
    obtain ⟨y', k1, k2⟩ := h.get j a hj
    rw [hy] at k1; cases k1; exact k2

theorem promAV_rep {n : Nat} (hn : n < H.length) (hrow : ∀ q s, svH C H n = some (q, s) → σ n = none) : ∀ (p : List Nat) (x x' : AV T) (y : Value), promAV n p x = some x' → RepA C σ H w x y → RepA C σ H w x' y
  | [], .cap0, x', y, h, hx => by
    cases h
    have hA : y = .slice none 0 0 := hx
    exact ⟨hn, ⟨none, 0, 0, hA⟩, fun q s hr => .inl ⟨hrow q s hr, hA⟩⟩
  | i :: p, .agg l, x', y, h, ⟨vs, h1, h2⟩ => by
    simp only [promAV] at h
    split at h
    · rename_i z hz
      split at h
      · rename_i z' hz'
        cases h
        refine ⟨vs, h1, h2.set fun y hy => ?_⟩
        obtain ⟨y', k1, k2⟩ := h2.get i z hz
        rw [hy] at k1; cases k1
        exact promAV_rep hn hrow p z z' _ hz' k2
      · cases h
    · cases h
  | i :: p, .tup l, x', y, h, ⟨vs, h1, h2⟩ => by
    simp only [promAV] at h
    split at h
    · rename_i z hz
      split at h
      · rename_i z' hz'
        cases h
        refine ⟨vs, h1, h2.set fun y hy => ?_⟩
        obtain ⟨y', k1, k2⟩ := h2.get i z hz
        rw [hy] at k1; cases k1
        exact promAV_rep hn hrow p z z' _ hz' k2
      · cases h
    · cases h
  | [], .z0, _, _, h, _ | [], .any, _, _, h, _ | [], .v _, _, _, h, _ | [], .agg _, _, _, h, _ | [], .tup _, _, _, h, _ | [], .ptr _ _, _, _, h, _ | [], .rptr _ _ _, _, _, h, _ | [], .cptr _ _ _, _, _, h, _
  | [], .gptr _ _, _, _, h, _ | [], .sp _, _, _, h, _ | [], .own _, _, _, h, _ | [], .slc _ _ _ _, _, _, h, _ | [], .fn _ _ _, _, _, h, _ | [], .ifc _ _, _, _, h, _ => by cases h
  | _ :: _, .z0, _, _, h, _ | _ :: _, .any, _, _, h, _ | _ :: _, .v _, _, _, h, _ | _ :: _, .ptr _ _, _, _, h, _ | _ :: _, .rptr _ _ _, _, _, h, _ | _ :: _, .cptr _ _ _, _, _, h, _
  | _ :: _, .gptr _ _, _, _, h, _ | _ :: _, .sp _, _, _, h, _ | _ :: _, .own _, _, _, h, _ | _ :: _, .slc _ _ _ _, _, _, h, _ | _ :: _, .fn _ _ _, _, _, h, _ | _ :: _, .ifc _ _, _, _, h, _ | _ :: _, .cap0, _, _, h, _ => by cases h

theorem step_nil (hR : Rp C σ H w G) (e : Nat) : Step C G [] σ H w (add σ H.length none) (H ++ [.row e [] true]) w :=
  step_add hR _ none w rfl rfl rfl (Nat.le_refl _) (fun b _ => rfl) (fun b hb => by cases hb) fun _ => .inl ⟨rfl, by simp [add]⟩

theorem purgeDs_nil' (ds : Ds T) : purgeDs [] ds = ds := by
  unfold purgeDs; rw [List.map_congr_left (g := id) (fun d _ => by obtain ⟨a, b, c⟩ := d; simp [purgeL_nil])]; simp

theorem Sv.step {B : Base T} {env : Env T} {ds : Ds T} {val : Nat → Value} {dl : List Deferred} (h : Sv C G B σ env H ds val dl w) {σ' : Lk} {H' : List (AObj T)} {w' : World} (hs : Step C G [] σ H w σ' H' w') : Sv C G B σ' env H' ds val dl w' :=
  ⟨hs.rp, h.anc.trans hs.anc, fun t => RepA.move0 hs.move (h.env t), by have := h.ds.move hs.move; rwa [purgeDs_nil'] at this⟩

/-- The nil slice in a slot. -/
def promS (t : Nat) (p : List Nat) (e : Nat) : NormT T := fun env H ds =>
  match promAV H.length p (env t) with
  | some y => (upd env t y, H ++ [.row e [] true], ds)
  | none => (env, H, ds)
theorem promS_ok {nB t : Nat} {p : List Nat} {e : Nat} : NormOk C G nB (promS t p e) := by
  intro B σ env H ds val dl w hB h
  unfold promS
  split
  · rename_i y hy
    have h' := h.step (step_nil h.rp e)
    refine ⟨_, h'.rp, h'.anc, fun u => ?_, h'.ds⟩
    show RepA C _ _ w (upd env t y u) _
    unfold upd
    cases hu : Nat.beq u t
    · exact h'.env u
    · have := Nat.eq_of_beq_eq_true hu
      subst this
      exact promAV_rep (by simp) (fun q s hr => by simp [add]) p _ y _ hy (h'.env u)
  · exact ⟨σ, h⟩

end Go.Proofs.YtfoeekaanngoiaaDoor.Ev


namespace Go.Proofs.YtfoeekaanngoiaaDoor.Ev
open Go
variable {T : Nat → Type} {C : Cdc T} {P : Program} {σ : Lk} {H : List (AObj T)} {w : World} {G : Nat → Option (List (V T))} {R : Type}

def envOf (args : List (AV T)) : Env T := fun t => args.getD t .any

def resA (C : Cdc T) (P : Program) (G : Nat → Option (List (V T))) (env : Env T) (H : List (AObj T)) : List ResultVar → Option (List (AV T))
  | [] => some []
  | .tmp t :: l => (resA C P G env H l).map (env t :: ·)
  | .cell a t :: l => loadA C P G t (env a) H fun x _ _ => (resA C P G env H l).map (x :: ·)

def oneOf : List (AV T) → AV T
  | [x] => x
  | l => .tup l

/-- A single value, told in another form. -/
def oneN (N : NormT T) (x : AV T) (H : List (AObj T)) (K : AV T → List (AObj T) → Option R) : Option R :=
  (fun r => K (r.1 0) r.2.1) (N (fun _ => x) H [])

def funA (C : Cdc T) (P : Program) (G : Nat → Option (List (V T))) (Γ : Gam T) (cut : Key → Option (Cut T)) (NR NP : NormT T) (fn : Func) (args : List (AV T)) (H : List (AObj T)) (K : Out T → Option R) : Option R :=
  match fn.body with
  | some c => bif Nat.ble args.length fn.ntmps then codeA C P G Γ fn.ntmps cut c (envOf args) H [] fun
      | .normal, env, H', [] => (resA C P G env H' fn.results.toList).bind fun xs => oneN NR (oneOf xs) H' fun x H => K (.ret x H)
      | .ret, env, H', [] => (resA C P G env H' fn.results.toList).bind fun xs => oneN NR (oneOf xs) H' fun x H => K (.ret x H)
      | .pan p, _, H', [] => oneN NP p H' fun p H => K (.panic p H)
      | _, _, _, _ => none
    else none
  | none => none

theorem oneN_ok {nB : Nat} {N : NormT T} (hN : NormOk C G nB N) {B : Base T} (hB : B.H.length = nB) (hR : Rp C σ H w G) (hA : Anc C B.σ B.H B.w σ H w) {x : AV T} {y : Value} (hx : RepA C σ H w x y) {K : AV T → List (AObj T) → Option R} {r : R}
    (h : oneN N x H K = some r) : ∃ x' H' σ', K x' H' = some r ∧ Rp C σ' H' w G ∧ Anc C B.σ B.H B.w σ' H' w ∧ RepA C σ' H' w x' y := by
  obtain ⟨σ', h'⟩ := hN B σ (fun _ => x) H [] (fun _ => y) [] w hB ⟨hR, hA, fun _ => hx, rfl⟩
  exact ⟨_, _, σ', h, h'.rp, h'.anc, h'.env 0⟩

def resRun (tmps : Array Value) : ResultVar → Sem Value
  | .tmp t => pure (tmps.getD t undef)
  | .cell c t => do loadVar t (← asAddr (tmps.getD c undef))
theorem results_eq (fn : Func) (tmps : Array Value) : results fn tmps = (do
    let vs ← fn.results.mapM (resRun tmps)
    pure (if h : vs.size = 1 then vs[0] else .tuple vs)) := by
  unfold results
  congr 1

theorem resA_ok (hR : Rp C σ H w G) {env : Env T} {a : Act} (he : RepE C σ H w env a) : ∀ (l : List ResultVar) (xs : List (AV T)), resA C P G env H l = some xs →
    ∃ vs, (l.mapM (resRun a.tmps)).run P w = .ok vs w ∧ RepL C σ H w xs vs
  | [], xs, h => by cases h; exact ⟨[], rfl, rfl⟩
  | .tmp t :: l, xs, h => by
    simp only [resA] at h
    cases hr : resA C P G env H l with
    | none => rw [hr] at h; cases h
    | some ys =>
      rw [hr] at h; cases h
      obtain ⟨vs, h1, h2⟩ := resA_ok hR he l ys hr
      refine ⟨a.tmps.getD t undef :: vs, ?_, _, _, rfl, he t, h2⟩
      rw [List.mapM_cons]
      simp only [resRun, Sem.run_bind, Sem.run_pure, Result.andThen_ok, h1]
  | .cell c t :: l, xs, h => by
    simp only [resA] at h
    unfold loadA at h
    split at h
    · rename_i n ag hn ha
      split at h
      · rename_i cs hcs
        obtain ⟨ad, ys, hy, h1, h2⟩ := cellsAt_ok hR (he c) hcs
        have key : ∃ x v, (resA C P G env H l).map (x :: ·) = some xs ∧ (loadVar t ad).run P w = .ok v w ∧ RepA C σ H w x v := by
          rcases whole_some h with ⟨rfl, hl, hK⟩ | ⟨rfl, z, hz, hK⟩
          · refine ⟨_, .agg ys.toArray, hK, ?_, _, rfl, by simpa using h1⟩
            have h3 : ys.length = n := by rw [h1.length, hl]
            have := run_loadCells_list (P := P) w ad ys h2
            rw [h3] at this
            simp only [loadVar, Sem.run_bind, Sem.run_pure, Result.andThen_ok, run_isAgg' ha, if_true, run_sizeOf' hn, this]
          · subst hz
            obtain ⟨v, ys', rfl, h3, h4⟩ := h1
            have hc := h2 0 v rfl
            have h0 : ad.add 0 = ad := by simp [Addr.add]
            rw [h0] at hc
            refine ⟨_, v, hK, ?_, h3⟩
            simp only [loadVar, Sem.run_bind, Sem.run_pure, Result.andThen_ok, run_isAgg' ha, Bool.false_eq_true, if_false, run_load, hc]
        obtain ⟨x, v, k1, k2, k3⟩ := key
        cases hr : resA C P G env H l with
        | none => rw [hr] at k1; cases k1
        | some zs =>
          rw [hr] at k1; cases k1
          obtain ⟨vs, h3, h4⟩ := resA_ok hR he l zs hr
          refine ⟨v :: vs, ?_, _, _, rfl, k3, h4⟩
          rw [List.mapM_cons]
          simp only [resRun, hy, asAddr, Sem.run_bind, Sem.run_pure, Result.andThen_ok, k2, h3]
      · cases h
    · cases h

theorem oneOf_rep {xs : List (AV T)} {vs : List Value} (h : RepL C σ H w xs vs) : RepA C σ H w (oneOf xs) (if h : vs.toArray.size = 1 then vs.toArray[0] else .tuple vs.toArray) := by
  unfold oneOf
  split
  · rename_i x
    obtain ⟨y, ys, rfl, h1, h2⟩ := h
    have : ys = [] := h2
    subst this
    exact h1
  · rename_i hne
    rw [dif_neg]
    · exact ⟨_, rfl, by simpa using h⟩
    · intro h1
      have hl := h.length
      simp at h1
      rw [h1] at hl
      match xs, hl with
      | [x], _ => exact hne x rfl

theorem run_results (hR : Rp C σ H w G) {fn : Func} {env : Env T} {a : Act} (he : RepE C σ H w env a) {xs : List (AV T)} (h : resA C P G env H fn.results.toList = some xs) :
    ∃ v, (results fn a.tmps).run P w = .ok v w ∧ RepA C σ H w (oneOf xs) v := by
  obtain ⟨vs, h1, h2⟩ := resA_ok (P := P) hR he _ _ h
  refine ⟨_, ?_, oneOf_rep h2⟩
  rw [results_eq, Array.mapM_eq_mapM_toList]
  simp only [Sem.run_bind, Sem.run_map, h1, Result.andThen_ok]
  rfl

theorem envOf_rep {args : List (AV T)} {vs : List Value} (h : RepL C σ H w args vs) (k : Nat) : RepE C σ H w (envOf args) { tmps := vs.toArray ++ Array.replicate k undef, defers := [] } := by
  intro t
  unfold envOf
  rw [List.getD_eq_getElem?_getD]
  cases ht : args[t]? with
  | none => trivial
  | some x =>
    obtain ⟨y, h1, h2⟩ := h.get t x ht
    have hlt := (List.getElem?_eq_some_iff.1 h1).1
    have : (vs.toArray ++ Array.replicate k undef).getD t undef = y := by
      rw [Array.getD_eq_getD_getElem?, Array.getElem?_append_left (by simpa using hlt)]
      simp [h1]
    rw [this]; exact h2

theorem funA_ok (hC : CdcOk C) {Γ : Gam T} (hΓ : GOk P C G Γ) (hm : P.follows .mixedOrders = true) {cut : Key → Option (Cut T)} {NR NP : NormT T} {f : FuncId} {fn : Func} (hf : P.funcs[f]? = some fn)
    {args : List (AV T)} {H : List (AObj T)} (hNR : NormOk C G H.length NR) (hNP : NormOk C G H.length NP) (hcut : ∀ c, fn.body = some c → CutsOk P C G fn.ntmps H.length cut c) {K : Out T → Option R} {r : R} (h : funA C P G Γ cut NR NP fn args H K = some r) :
    ∀ (σ : Lk) (w : World) (vs : List Value), Rp C σ H w G → RepL C σ H w args vs → Calls P f vs.toArray w fun e w' => ∃ out, K out = some r ∧ Ends C G σ H w out e w' := by
  intro σ w vs hR ha
  unfold funA at h
  split at h
  · rename_i c hb
    cases hle : Nat.ble args.length fn.ntmps
    · rw [hle] at h; cases h
    · rw [hle] at h
      simp only [cond_true] at h
      have hle' := Nat.le_of_ble_eq_true hle
      have hlen := ha.length
      refine calls_of_wp hf hb ?_
      have st : St C G fn.ntmps ⟨σ, H, w⟩ σ (envOf args) H [] { tmps := vs.toArray ++ Array.replicate (fn.ntmps - vs.toArray.size) undef, defers := [] } w :=
        ⟨hR, Anc.refl C σ H w, by simp; omega, envOf_rep ha _, rfl⟩
      refine wp_mono (codeA_ok hC hΓ hm (B := ⟨σ, H, w⟩) rfl c (hcut c hb) _ σ _ H [] _ w st h) fun e a' w' hpost => ?_
      obtain ⟨σ', ex, env', H', ds', h1, h2, h3⟩ := hpost
      have fin : (resA C P G env' H' fn.results.toList).bind (fun xs => oneN NR (oneOf xs) H' fun x H => K (.ret x H)) = some r → ds' = [] →
          a'.defers = [] ∧ ∃ v, (results fn a'.tmps).run P w' = .ok v w' ∧ ∃ out, K out = some r ∧ Ends C G σ H w out (.returned v) w' := by
        intro hh hds
        subst hds
        obtain ⟨xs, hxs, hh⟩ := Option.bind_eq_some_iff.1 hh
        obtain ⟨v, k1, k2⟩ := run_results (P := P) h3.rp h3.env hxs
        obtain ⟨x', H'', σ'', q1, q2, q3, q4⟩ := oneN_ok hNR (B := ⟨σ, H, w⟩) rfl h3.rp h3.anc k2 hh
        exact ⟨h3.ds, v, k1, _, q1, v, σ'', rfl, q2, q3, q4⟩
      cases ex with
      | normal =>
        cases (show e = _ from h2)
        cases ds' with
        | nil => exact fin h1 rfl
        | cons => cases h1
      | ret =>
        cases (show e = _ from h2)
        cases ds' with
        | nil => exact fin h1 rfl
        | cons => cases h1
      | exit i => cases ds' <;> cases h1
      | pan p =>
        obtain ⟨v, rfl, hv⟩ := h2
        cases ds' with
        | nil =>
          obtain ⟨x', H'', σ'', q1, q2, q3, q4⟩ := oneN_ok hNP (B := ⟨σ, H, w⟩) rfl h3.rp h3.anc hv h1
          exact ⟨h3.ds, _, q1, v, σ'', rfl, q2, q3, q4⟩
        | cons => cases h1
  · cases h

end Go.Proofs.YtfoeekaanngoiaaDoor.Ev


namespace Go.Proofs.YtfoeekaanngoiaaDoor.Ev
open Go
variable {T : Nat → Type} {C : Cdc T} {P : Program} {σ : Lk} {H : List (AObj T)} {w : World} {G : Nat → Option (List (V T))} {R : Type}

theorem callable {g : FuncId} {fn : Func} {c : Code} (hf : P.funcs[g]? = some fn) (hb : fn.body = some c) (hn : (fn.name == "runtime.NumGoroutine") = false) (vs : Array Value) (w : World) :
    (callFunc g vs).run P w = .ok (.enter g vs) w := by
  unfold callFunc
  have hp : (program).run P w = .ok P w := rfl
  simp only [Sem.run_bind, hp, Result.andThen_ok, hf]
  rw [hn]
  simp [hb]

/-- How a function is told: what it is handed, what it comes to. -/
structure Spec (T : Nat → Type) (I X : Type) where
  dcI : List (AV T) → List (AObj T) → Option I
  ecA : I → List (AV T)
  ecH : I → List (AObj T)
  dcO : Out T → Option X
  ecO : X → Out T
  goO : (R : Type) → X → (Out T → Option R) → Option R
structure SpecOk {I X : Type} (s : Spec T I X) : Prop where
  hI : ∀ a H i, s.dcI a H = some i → a = s.ecA i ∧ H = s.ecH i
  hO : ∀ o x, s.dcO o = some x → o = s.ecO x
  hG : ∀ R x k, s.goO R x k = k (s.ecO x)

def Spec.entry {I X : Type} (s : Spec T I X) (f : I → Option X) : Entry T :=
  fun R args H k => (s.dcI args H).bind fun i => (f i).bind fun x => s.goO R x k

theorem Spec.ok {I X : Type} {s : Spec T I X} (hs : SpecOk s) (hC : CdcOk C) (hm : P.follows .mixedOrders = true) {Γ : Gam T} (hΓ : GOk P C G Γ) {cut : Key → Option (Cut T)} {g : FuncId} {fn : Func} {c : Code} {NR NP : NormT T} {nB : Nat}
    (hf : P.funcs[g]? = some fn) (hb : fn.body = some c) (hn : (fn.name == "runtime.NumGoroutine") = false) (hnB : ∀ i, (s.ecH i).length = nB) (hNR : NormOk C G nB NR) (hNP : NormOk C G nB NP) (hcut : CutsOk P C G fn.ntmps nB cut c)
    {f : I → Option X} (hev : ∀ i, funA C P G Γ cut NR NP fn (s.ecA i) (s.ecH i) s.dcO = f i) : EOk P C G g (s.entry f) := by
  intro R args H k r h
  intro σ w vs hR ha
  unfold Spec.entry at h
  obtain ⟨i, hi, h'⟩ := Option.bind_eq_some_iff.1 h
  obtain ⟨x, hx, hk⟩ := Option.bind_eq_some_iff.1 h'
  rw [hs.hG] at hk
  obtain ⟨rfl, rfl⟩ := hs.hI _ _ _ hi
  rw [← hev] at hx
  refine .inl ⟨callable hf hb hn _ w, (funA_ok hC hΓ hm hf (by rw [hnB]; exact hNR) (by rw [hnB]; exact hNP) (fun c' hc => by rw [hb] at hc; cases hc; rw [hnB]; exact hcut) hx σ w vs hR ha).mono fun e w' ⟨out, ho, he⟩ => ?_⟩
  rw [hs.hO _ _ ho] at he
  exact ⟨_, hk, he⟩

def gam0 : Gam T := ⟨fun _ _ _ _ _ => none, fun _ => false⟩
theorem gam0_ok : GOk P C G (gam0 (T := T)) := fun f R args H k r h => by cases h

/-- One more account of a function; the others stay. -/
def Gam.addS (Γ : Gam T) (g : Nat) {I X : Type} (s : Spec T I X) (f : I → Option X) : Gam T :=
  ⟨fun h R args H k => bif Nat.beq h g then (match s.dcI args H with
    | some i => (f i).bind fun x => s.goO R x k
    | none => Γ h R args H k) else Γ h R args H k, Γ.own⟩
theorem GOk.give {Γ : Gam T} {l : List Nat} (hΓ : GOk P C G Γ) : GOk P C G (Γ.give l) := hΓ
theorem GOk.addS {Γ : Gam T} (hΓ : GOk P C G Γ) {g : Nat} {I X : Type} {s : Spec T I X} {f : I → Option X} (he : EOk P C G g (s.entry f)) : GOk P C G (Γ.addS g s f) := by
  intro h R args H k r hr
  simp only [Gam.addS] at hr
  cases hb : Nat.beq h g
  · rw [hb] at hr; exact hΓ h R args H k r hr
  · rw [hb] at hr
    simp only [cond_true] at hr
    split at hr
    · rename_i i hi
      have := Nat.eq_of_beq_eq_true hb
      subst this
      refine he R args H k r ?_
      unfold Spec.entry
      rw [hi]; exact hr
    · exact hΓ h R args H k r hr

def envL : List (Nat × AV T) → Env T
  | [] => anyEnv
  | (t, x) :: l => upd (envL l) t x

theorem envL_sub {env : Env T} : ∀ {l : List (Nat × AV T)}, (∀ p ∈ l, p.2 = env p.1) → ∀ t, envL l t = env t ∨ envL l t = .any
  | [], _, t => .inr rfl
  | (u, x) :: l, h, t => by
    unfold envL upd
    cases hb : Nat.beq t u
    · exact envL_sub (fun p hp => h p (List.mem_cons_of_mem _ hp)) t
    · have := Nat.eq_of_beq_eq_true hb
      subst this
      exact .inl (h (t, x) (by simp))

structure Piece (T : Nat → Type) (S E : Type) where
  dcS : Env T → List (AObj T) → Ds T → Option S
  slS : S → List (Nat × AV T)
  obS : S → List (AObj T)
  dsS : S → Ds T
  dcE : KC T E
  exE : E → Ex T
  slE : E → List (Nat × AV T)
  obE : E → List (AObj T)
  dsE : E → Ds T
  goE : (R : Type) → E → (Ex T → List (Nat × AV T) → List (AObj T) → Ds T → Option R) → Option R
structure PieceOk {S E : Type} (p : Piece T S E) : Prop where
  hS : ∀ env H ds s, p.dcS env H ds = some s → (∀ q ∈ p.slS s, q.2 = env q.1) ∧ H = p.obS s ∧ ds = p.dsS s
  hE : ∀ x env H ds e, p.dcE x env H ds = some e → x = p.exE e ∧ (∀ q ∈ p.slE e, q.2 = env q.1) ∧ H = p.obE e ∧ ds = p.dsE e
  hG : ∀ R e k, p.goE R e k = k (p.exE e) (p.slE e) (p.obE e) (p.dsE e)

def Piece.cut {S E : Type} (p : Piece T S E) (N : NormT T) (f : S → Option E) : Cut T :=
  fun R env H ds K => (fun r => (p.dcS r.1 r.2.1 r.2.2).bind fun s => (f s).bind fun e => p.goE R e fun x sl ob ds => K x (envL sl) ob ds) (N env H ds)

/-- One account of a piece, or, of what doesn't fit, another one. -/
def Piece.cutOr {S E : Type} (p : Piece T S E) (N : NormT T) (f : S → Option E) (c : Cut T) : Cut T :=
  fun R env H ds K => (fun r => match p.dcS r.1 r.2.1 r.2.2 with
    | some s => (f s).bind fun e => p.goE R e fun x sl ob ds => K x (envL sl) ob ds
    | none => c R env H ds K) (N env H ds)

theorem Piece.or_ok {S E : Type} {p : Piece T S E} {N : NormT T} {f : S → Option E} {n nB : Nat} {c : Code} {e : Cut T} (h1 : CutOk P C G n nB c (p.cut N f)) (h2 : CutOk P C G n nB c e) : CutOk P C G n nB c (p.cutOr N f e) := by
  intro R env H ds K r hr
  unfold Piece.cutOr at hr
  simp only at hr
  split at hr
  · rename_i s hs
    refine h1 R env H ds K r ?_
    unfold Piece.cut
    simp only [hs]
    exact hr
  · exact h2 R env H ds K r hr

/-- The slot in which a panic's value stands while it is told in another form. -/
def pS : Nat := 1000000
def normX {E : Type} (X : Ex T → NormT T) (D : KC T E) : KC T E := fun x env H ds => match x with
  | .pan p => (fun r => D (.pan (r.1 pS)) (upd r.1 pS .any) r.2.1 r.2.2) (X (.pan p) (upd env pS p) H ds)
  | .normal => (fun r => D .normal r.1 r.2.1 r.2.2) (X .normal env H ds)
  | .exit i => (fun r => D (.exit i) r.1 r.2.1 r.2.2) (X (.exit i) env H ds)
  | .ret => (fun r => D .ret r.1 r.2.1 r.2.2) (X .ret env H ds)

theorem normX_post {E : Type} {X : Ex T → NormT T} {n nB : Nat} (hX : ∀ x, NormOk C G nB (X x)) {D : KC T E} {B : Base T} (hB : B.H.length = nB) {res : E} {e : Exit} {a : Act} {w : World}
    (h : PostC C G n B (normX X D) res e a w) : PostC C G n B D res e a w := by
  obtain ⟨σ, x, env, H, ds, h1, h2, h3⟩ := h
  cases x with
  | normal =>
    obtain ⟨σ', k⟩ := hX .normal B σ env H ds _ _ w hB h3.sv
    exact ⟨σ', .normal, _, _, _, h1, h2, k.st h3.size⟩
  | exit i =>
    obtain ⟨σ', k⟩ := hX (.exit i) B σ env H ds _ _ w hB h3.sv
    exact ⟨σ', .exit i, _, _, _, h1, h2, k.st h3.size⟩
  | ret =>
    obtain ⟨σ', k⟩ := hX .ret B σ env H ds _ _ w hB h3.sv
    exact ⟨σ', .ret, _, _, _, h1, h2, k.st h3.size⟩
  | pan p =>
    obtain ⟨v, h2, hv⟩ := h2
    obtain ⟨σ', k⟩ := hX (.pan p) B σ (upd env pS p) H ds (fun t => bif Nat.beq t pS then v else a.tmps.getD t undef) _ w hB ⟨h3.rp, h3.anc, fun t => by
      unfold upd
      cases Nat.beq t pS
      · exact h3.env t
      · exact hv, h3.ds⟩
    refine ⟨σ', .pan _, _, _, _, h1, ⟨v, h2, ?_⟩, k.rp, k.anc, h3.size, fun t => ?_, k.ds⟩
    · have := k.env pS
      rwa [show Nat.beq pS pS = true from by simp] at this
    · unfold upd
      cases hb : Nat.beq t pS
      · have := k.env t
        rwa [hb] at this
      · trivial

theorem Piece.ok {S E : Type} {p : Piece T S E} (hp : PieceOk p) {n nB : Nat} {N : NormT T} (hN : NormOk C G nB N) {c : Code} {f : S → Option E}
    (h : ∀ s e, f s = some e → ∀ (B : Base T) (σ : Lk) (a : Act) (w : World), B.H.length = nB → St C G n B σ (envL (p.slS s)) (p.obS s) (p.dsS s) a w → c.wp P (PostC C G n B p.dcE e) a w) : CutOk P C G n nB c (p.cut N f) := by
  intro R env H ds K r hr B σ a w hB st
  unfold Piece.cut at hr
  obtain ⟨s, hs, hr'⟩ := Option.bind_eq_some_iff.1 hr
  obtain ⟨e, he, hk⟩ := Option.bind_eq_some_iff.1 hr'
  rw [hp.hG] at hk
  obtain ⟨σ1, k1⟩ := hN B σ env H ds _ _ w hB st.sv
  have st1 := k1.st st.size
  obtain ⟨h1, h2, h3⟩ := hp.hS _ _ _ _ hs
  rw [h2, h3] at st1
  refine wp_mono (h s e he B σ1 a w hB (st1.weaken (envL_sub h1))) fun e' a' w' ⟨σ', x, env', H', ds', q1, q2, q3⟩ => ?_
  obtain ⟨r1, r2, r3, r4⟩ := hp.hE _ _ _ _ _ q1
  subst r1; subst r3; subst r4
  exact ⟨σ', _, _, _, _, hk, q2, q3.weaken (envL_sub r2)⟩

/-- A piece without a loop of its own. -/
theorem Piece.join {S E : Type} {p : Piece T S E} (hp : PieceOk p) (hC : CdcOk C) (hm : P.follows .mixedOrders = true) {Γ : Gam T} (hΓ : GOk P C G Γ) {n nB : Nat} {N : NormT T} (hN : NormOk C G nB N) {X : Ex T → NormT T} (hX : ∀ x, NormOk C G nB (X x)) {c : Code} {cut : Key → Option (Cut T)} (hcut : CutsOk P C G n nB cut c) {f : S → Option E}
    (hev : ∀ s, codeA C P G Γ n cut c (envL (p.slS s)) (p.obS s) (p.dsS s) (normX X p.dcE) = f s) : CutOk P C G n nB c (p.cut N f) :=
  Piece.ok hp hN fun s e he B σ a w hB st => wp_mono (codeA_ok hC hΓ hm hB c hcut _ σ _ _ _ a w st (by rw [hev]; exact he)) fun _ _ _ h => normX_post hX hB h

/-- What a round goes on with. -/
def Piece.round {S E : Type} (p : Piece T S E) (N : NormT T) (X : Ex T → NormT T) (id : Nat) (rec : S → Option E) : KC T E
  | .normal, env, H, ds => (fun r => (p.dcS r.1 r.2.1 r.2.2).bind rec) (N env H ds)
  | .exit i, env, H, ds => bif Nat.beq i id then normX X p.dcE .normal env H ds else normX X p.dcE (.exit i) env H ds
  | .ret, env, H, ds => normX X p.dcE .ret env H ds
  | .pan x, env, H, ds => normX X p.dcE (.pan x) env H ds

theorem Piece.loop {S E : Type} {p : Piece T S E} (hp : PieceOk p) (hC : CdcOk C) (hm : P.follows .mixedOrders = true) {Γ : Gam T} (hΓ : GOk P C G Γ) {n nB id : Nat} {N : NormT T} (hN : NormOk C G nB N) {X : Ex T → NormT T} (hX : ∀ x, NormOk C G nB (X x)) {body : Code} {cut : Key → Option (Cut T)} (hcut : CutsOk P C G n nB cut body)
    {f : Nat → S → Option E} (hz : ∀ s, f 0 s = none)
    (hsucc : ∀ k s, codeA C P G Γ n cut body (envL (p.slS s)) (p.obS s) (p.dsS s) (p.round N X id (f k)) = f (k + 1) s) (κ : Nat) : CutOk P C G n nB (.block id (.loop body)) (p.cut N (f κ)) := by
  refine Piece.ok hp hN fun s e he B σ a w hB st => ?_
  refine wp_block (wp_loop_rounds κ ?_)
  induction κ generalizing s σ a w with
  | zero => rw [hz] at he; cases he
  | succ k ih =>
    rw [rounds_succ]
    rw [← hsucc] at he
    refine wp_mono (codeA_ok hC hΓ hm hB body hcut _ σ _ _ _ a w st he) fun e' a' w' ⟨σ', ex, env', H', ds', h1, h2, h3⟩ => ?_
    cases ex with
    | normal =>
      cases (show e' = _ from h2)
      simp only [Piece.round] at h1
      obtain ⟨s', hs', h1⟩ := Option.bind_eq_some_iff.1 h1
      obtain ⟨σ2, k1⟩ := hN B σ' env' H' ds' _ _ w' hB h3.sv
      have st1 := k1.st h3.size
      obtain ⟨q1, q2, q3⟩ := hp.hS _ _ _ _ hs'
      rw [q2, q3] at st1
      exact ih s' h1 σ2 a' w' (st1.weaken (envL_sub q1))
    | exit i =>
      cases (show e' = _ from h2)
      simp only [Piece.round] at h1
      show Exit.inBlock id _ (.exit i) a' w'
      cases hi : Nat.beq i id
      · rw [hi] at h1
        have hne : ¬ i = id := fun e => by subst e; simp at hi
        simp only [Exit.inBlock, hne, if_false]
        exact normX_post hX hB ⟨σ', .exit i, env', H', ds', h1, rfl, h3⟩
      · rw [hi] at h1
        have := Nat.eq_of_beq_eq_true hi
        simp only [Exit.inBlock, this, if_true]
        exact normX_post hX hB ⟨σ', .normal, env', H', ds', h1, rfl, h3⟩
    | ret => cases (show e' = _ from h2); exact normX_post hX hB ⟨σ', .ret, env', H', ds', h1, rfl, h3⟩
    | pan x => obtain ⟨v, rfl, hv⟩ := h2; exact normX_post hX hB ⟨σ', .pan x, env', H', ds', h1, ⟨v, rfl, hv⟩, h3⟩

def need (cut : Key → Option (Cut T)) : Code → List (Code × Cut T)
  | .region id ops d => match cut (.reg id) with | some e => [(.region id ops d, e)] | none => []
  | .seq a b => need cut a ++ need cut b
  | .cond c a b => match cutAt cut c a b with | some e => [(.cond c a b, e)] | none => need cut a ++ need cut b
  | .block id b => match cut (.blk id) with | some e => [(.block id b, e)] | none => need cut b
  | .scope b => need cut b
  | _ => []

theorem cuts_of_need {n nB : Nat} {cut : Key → Option (Cut T)} : ∀ (c : Code), (∀ p ∈ need cut c, CutOk P C G n nB p.1 p.2) → CutsOk P C G n nB cut c := by
  intro c
  induction c with
  | region id ops d =>
    intro h e he
    refine h (.region id ops d, e) ?_
    unfold need; rw [he]; simp
  | seq a b iha ihb => exact fun h => ⟨iha fun p hp => h p (List.mem_append_left _ hp), ihb fun p hp => h p (List.mem_append_right _ hp)⟩
  | cond c a b iha ihb =>
    intro h
    refine ⟨fun e he => h (.cond c a b, e) (by unfold need; rw [he]; simp), fun hn => ?_⟩
    have hh : ∀ p ∈ need cut a ++ need cut b, CutOk P C G n nB p.1 p.2 := fun p hp => h p (by unfold need; rw [hn]; exact hp)
    exact ⟨iha fun p hp => hh p (List.mem_append_left _ hp), ihb fun p hp => hh p (List.mem_append_right _ hp)⟩
  | block id b ih =>
    intro h
    refine ⟨fun e he => h (.block id b, e) (by unfold need; rw [he]; simp), fun hn => ih fun p hp => h p (by unfold need; rw [hn]; exact hp)⟩
  | scope b ih => exact fun h => ih fun p hp => h p (by unfold need; exact hp)
  | _ => intro _; trivial

def noCut : Key → Option (Cut T) := fun _ => none
def keyB : Key → Key → Bool
  | .blk a, .blk b => Nat.beq a b
  | .cnd a n, .cnd b m => Nat.beq a b && Nat.beq n m
  | .reg a, .reg b => Nat.beq a b
  | _, _ => false
def addCut (cut : Key → Option (Cut T)) (k : Key) (e : Cut T) : Key → Option (Cut T) := fun k' => bif keyB k' k then some e else cut k'
/-- The piece of code of this name. -/
def pieceAt (k : Key) : Code → Option Code
  | .region id ops d => bif keyB k (.reg id) then some (.region id ops d) else none
  | .seq a b => match pieceAt k a with | some c => some c | none => pieceAt k b
  | .cond c a b => bif (match c with | .tmp t => keyB k (.cnd t (rid (.seq a b))) | _ => false) then some (.cond c a b) else match pieceAt k a with | some c => some c | none => pieceAt k b
  | .block id b => bif keyB k (.blk id) then some (.block id b) else pieceAt k b
  | .loop b => pieceAt k b
  | .scope b => pieceAt k b
  | _ => none
def pieceOf (k : Key) (c : Code) : Code := match pieceAt k c with | some c => c | none => .skip
def getBody (fn : Func) : Code := match fn.body with | some c => c | none => .skip
def fstOf : Code → Code
  | .seq a _ => a
  | _ => .skip
def sndOf : Code → Code
  | .seq _ b => b
  | _ => .skip
def bodyOf : Code → Code
  | .block _ (.loop b) => b
  | c => c
theorem all_nil {n nB : Nat} : ∀ p ∈ ([] : List (Code × Cut T)), CutOk P C G n nB p.1 p.2 := fun p hp => by cases hp
theorem all_cons {n nB : Nat} {c : Code} {e : Cut T} {l : List (Code × Cut T)} (h : CutOk P C G n nB c e) (hl : ∀ p ∈ l, CutOk P C G n nB p.1 p.2) : ∀ p ∈ (c, e) :: l, CutOk P C G n nB p.1 p.2 := fun p hp => by
  rcases List.mem_cons.1 hp with rfl | hp
  · exact h
  · exact hl p hp
theorem cuts_by {n nB : Nat} {cut : Key → Option (Cut T)} {c : Code} {l : List (Code × Cut T)} (h : need cut c = l) (hl : ∀ p ∈ l, CutOk P C G n nB p.1 p.2) : CutsOk P C G n nB cut c := cuts_of_need c (h ▸ hl)

end Go.Proofs.YtfoeekaanngoiaaDoor.Ev


namespace Go.Proofs.YtfoeekaanngoiaaDoor.Ev
open Go
variable {T : Nat → Type} {C : Cdc T} {P : Program} {σ : Lk} {H : List (AObj T)} {w : World} {G : Nat → Option (List (V T))} {R : Type}

def slAV (e : Nat) : List Nat → AV T → List (AObj T) → Option (AV T × List (AObj T))
  | [], .own o, H => match H[o]? with
    | some (.row t l _) => some (.v (.sl t l), lend o H)
    | _ => none
  | [], .cap0, H => some (.v (.sl e []), H)
  | [], .z0, H => some (.v (.sl e []), H)
  | [], .v .nl, H => some (.v (.sl e []), H)
  | i :: p, .agg l, H => match l[i]? with
    | some x => match slAV e p x H with
      | some r => some (.agg (l.set i r.1), r.2)
      | none => none
    | none => none
  | i :: p, .tup l, H => match l[i]? with
    | some x => match slAV e p x H with
      | some r => some (.tup (l.set i r.1), r.2)
      | none => none
    | none => none
  | _, _, _ => none

/-- The slice in a slot. -/
def slS (t : Nat) (p : List Nat) (e : Nat) : NormT T := fun env H ds =>
  match slAV e p (env t) H with
  | some r => (upd env t r.1, r.2, ds)
  | none => (env, H, ds)
/-- A cell's content, told in another form. -/
theorem Sv.cells {B : Base T} {env : Env T} {ds : Ds T} {val : Nat → Value} {dl : List Deferred} (h : Sv C G B σ env H ds val dl w) {o : Nat} {l l' : List (AV T)} {e : Nat} {g : Option Nat} (ho : H[o]? = some (.cells e g l)) (hll : l'.length = l.length)
    (hl : ∀ cs, RepL C σ H w l cs → RepL C σ H w l' cs) : ∃ σ', Sv C G B σ' env (H.set o (.cells e g l')) ds val dl w := by
  refine ⟨_, h.step (step_set h.rp w ho rfl (by cases g <;> rfl) rfl rfl rfl (Nat.le_refl _) (fun b _ _ => rfl) (fun off hf => hf) (fun b off _ _ => rfl) (fun n2 s2 hx => ?_) fun M => ?_)⟩
  · refine ⟨?_, fun b _ cs e fz hc => ⟨cs, e, fz, hc, rfl⟩⟩
    cases g with
    | none => cases hx
    | some s => simpa [svO, hll] using hx
  · obtain ⟨b, cs, ys, rest, h1, h2, h3, h4, hmk⟩ := (h.rp.obj o _ ho).cellsD
    exact hmk _ _ _ cs ys l' h1 h2 h3 rfl hll ((hl _ h4).move0 M)

def promC (o j : Nat) (p : List Nat) (e : Nat) : NormT T := fun env H ds =>
  match H[o]? with
  | some (.cells te g l) => match l[j]? with
    | some x => match promAV H.length p x with
      | some y => (env, (H ++ [AObj.row e [] true]).set o (.cells te g (l.set j y)), ds)
      | none => (env, H, ds)
    | none => (env, H, ds)
  | _ => (env, H, ds)
theorem promC_ok {nB o j : Nat} {p : List Nat} {e : Nat} : NormOk C G nB (promC o j p e) := by
  intro B σ env H ds val dl w hB h
  unfold promC
  split
  · rename_i te g l ho
    split
    · rename_i x hx
      split
      · rename_i y hy
        have h' := h.step (step_nil h.rp e)
        refine h'.cells (o := o) (l := l) ?_ (by simp) fun cs hcs => hcs.set fun z hz => ?_
        · rw [List.getElem?_append_left (List.getElem?_eq_some_iff.1 ho).1]; exact ho
        · obtain ⟨z', k1, k2⟩ := hcs.get j x hx
          rw [hz] at k1; cases k1
          exact promAV_rep (by simp) (fun q s hr => by simp [add]) p _ y _ hy k2
      · exact ⟨σ, h⟩
    · exact ⟨σ, h⟩
  · exact ⟨σ, h⟩

def exN : List (Nat × NormT T) → Nat → NormT T
  | [], _ => idN
  | (j, N) :: l, i => bif Nat.beq i j then N else exN l i
def xN (N : NormT T) (es : List (Nat × NormT T)) (R Pn : NormT T) : Ex T → NormT T
  | .normal => N
  | .exit i => exN es i
  | .ret => R
  | .pan _ => Pn
theorem exN_ok {nB : Nat} : ∀ {es : List (Nat × NormT T)}, (∀ p ∈ es, NormOk C G nB p.2) → ∀ i, NormOk C G nB (exN es i)
  | [], _, i => idN_ok
  | (j, N) :: l, h, i => by
    unfold exN
    cases Nat.beq i j
    · exact exN_ok (fun p hp => h p (List.mem_cons_of_mem _ hp)) i
    · exact h (j, N) (by simp)
theorem ex_nil {nB : Nat} : ∀ p ∈ ([] : List (Nat × NormT T)), NormOk C G nB p.2 := fun p hp => by cases hp
theorem ex_cons {nB j : Nat} {N : NormT T} {l : List (Nat × NormT T)} (h : NormOk C G nB N) (hl : ∀ p ∈ l, NormOk C G nB p.2) : ∀ p ∈ (j, N) :: l, NormOk C G nB p.2 := fun p hp => by
  rcases List.mem_cons.1 hp with rfl | hp
  · exact h
  · exact hl p hp
theorem xN_ok {nB : Nat} {N R Pn : NormT T} {es : List (Nat × NormT T)} (hN : NormOk C G nB N) (hes : ∀ p ∈ es, NormOk C G nB p.2) (hR : NormOk C G nB R) (hP : NormOk C G nB Pn) : ∀ x, NormOk C G nB (xN N es R Pn x)
  | .normal => hN
  | .exit i => exN_ok hes i
  | .ret => hR
  | .pan _ => hP
end Go.Proofs.YtfoeekaanngoiaaDoor.Ev

namespace Go.Proofs.YtfoeekaanngoiaaDoor.Ev
open Go
variable {T : Nat → Type} {C : Cdc T} {G : Nat → Option (List (V T))}
def lendO (o : Nat) : NormT T := fun env H ds => (env, lend o H, ds)
theorem lendO_ok {nB o : Nat} : NormOk C G nB (lendO o) := by
  intro B σ env H ds val dl w hB h
  unfold lendO
  cases ho : H[o]? with
  | none => refine ⟨σ, ?_⟩; unfold lend; rw [ho]; exact h
  | some x =>
    cases x with
    | row t l m => rw [lend_eq ho]; exact ⟨σ, h.step (step_lend h.rp ho)⟩
    | cells e g l => refine ⟨σ, ?_⟩; unfold lend; rw [ho]; exact h
    | siter s p => refine ⟨σ, ?_⟩; unfold lend; rw [ho]; exact h
    | dead => refine ⟨σ, ?_⟩; unfold lend; rw [ho]; exact h
def Gam.addE (Γ : Gam T) (g : Nat) (e : Entry T) : Gam T := ⟨fun h R args H k => bif Nat.beq h g then e R args H k else Γ h R args H k, Γ.own⟩
theorem GOk.addE {P : Program} {Γ : Gam T} (hΓ : GOk P C G Γ) {g : Nat} {e : Entry T} (he : EOk P C G g e) : GOk P C G (Γ.addE g e) := by
  intro h R args H k r hr
  simp only [Gam.addE] at hr
  cases hb : Nat.beq h g
  · rw [hb] at hr; exact hΓ h R args H k r hr
  · rw [hb] at hr
    have := Nat.eq_of_beq_eq_true hb
    subst this
    exact he R args H k r hr
def noEsc : Entry T := fun _ args H k => match args with
  | [x] => k (.ret x H)
  | _ => none
theorem noEsc_ok {P : Program} {g : FuncId} {fn : Func} (hf : P.funcs[g]? = some fn) (hname : (fn.name == "runtime.NumGoroutine") = false) (hb : fn.body.isNone = true) (hn : Extern.findNext fn = none) (he : Extern.find fn = some Extern.AbiNoEscape.same) : EOk P C G g noEsc := by
  intro R args H k r hr σ w vs hR ha
  unfold noEsc at hr
  split at hr
  · rename_i x
    obtain ⟨y, ys, h1, h2, h3⟩ := ha
    have h3' : ys = [] := h3
    subst h3'; subst h1
    refine .inr ⟨y, w, ?_, _, hr, y, σ, rfl, hR, Anc.refl C σ H w, h2⟩
    rw [run_callFunc_extern hf hname hb hn he]
    rfl
  · cases hr
end Go.Proofs.YtfoeekaanngoiaaDoor.Ev


namespace Go.Proofs.YtfoeekaanngoiaaDoor.Ev
open Go
variable {T : Nat → Type} {C : Cdc T} {P : Program} {σ : Lk} {H : List (AObj T)} {w : World} {G : Nat → Option (List (V T))} {R : Type}

/-- How a function ends while a deferred one runs; whether that one recovers. -/
def modeB (pan : Bool) (v : Value) : FrameMode := bif pan then .panicking [{ v, recovered := false }] else .returning
def modeA (pan : Bool) (v : Value) : FrameMode := bif pan then .panicking [{ v, recovered := true }] else .returning
theorem modeB_run {pan : Bool} {v : Value} : modeB pan v ≠ .run := by cases pan <;> intro h <;> cases h
theorem settle_modeA {pan : Bool} {v : Value} : settle (modeA pan v) = .returning := by cases pan <;> rfl

abbrev EntryD (T : Nat → Type) := (R : Type) → Bool → AV T → List (AV T) → List (AObj T) → (AV T → List (AObj T) → Option R) → Option R
abbrev GamD (T : Nat → Type) := FuncId → EntryD T
def EOkD (P : Program) (C : Cdc T) (G : Nat → Option (List (V T))) (g : FuncId) (e : EntryD T) : Prop :=
  ∀ (R : Type) (pan : Bool) (p : AV T) (args : List (AV T)) (H : List (AObj T)) (k : AV T → List (AObj T) → Option R) (r : R), e R pan p args H k = some r →
    ∀ (σ : Lk) (w : World) (v : Value) (vs : List Value), Rp C σ H w G → RepA C σ H w p v → RepL C σ H w args vs →
      (callFunc g vs.toArray).run P w = .ok (.enter g vs.toArray) w ∧ CallsD P g vs.toArray (modeB pan v) w fun en u' w' => u' = modeA pan v ∧ ∃ x H', k x H' = some r ∧ Ends C G σ H w (.ret x H') en w'
def GOkD (P : Program) (C : Cdc T) (G : Nat → Option (List (V T))) (Γ : GamD T) : Prop := ∀ g, EOkD P C G g (Γ g)
def gamD0 : GamD T := fun _ _ _ _ _ _ _ => none
theorem gamD0_ok : GOkD P C G (gamD0 (T := T)) := fun g R pan p args H k r h => by cases h

/-- A call that is deferred, by what is told of the callee. -/
def callDA (Γ : GamD T) (g : FuncId) (pan : Bool) (p : AV T) (args : List (AV T)) (H : List (AObj T)) (K : List (AObj T) → List Nat → Option R) : Option R :=
  lendK args H fun args H =>
    (fun (S : List Nat) => bif nodupB S && closedB S H && withinL S args && within S p then
      Γ g R pan (ren S.idxOf p) (renL S.idxOf args) (subH S H) fun _ H2 => K (merge S (rowsOf S H) H H2) (rowsOf S H)
    else none) (reach H 3 (addAll [] (refs p ++ refsL args)))

theorem callDA_ok (hC : CdcOk C) (hR : Rp C σ H w G) {Γ : GamD T} {g : FuncId} (hΓ : EOkD P C G g (Γ g)) {pan : Bool} {p : AV T} {v : Value} (hp : RepA C σ H w p v) {args : List (AV T)} {vs : List Value} (ha : RepL C σ H w args vs) {K : List (AObj T) → List Nat → Option R} {r : R}
    (h : callDA Γ g pan p args H K = some r) :
    (callFunc g vs.toArray).run P w = .ok (.enter g vs.toArray) w ∧ CallsD P g vs.toArray (modeB pan v) w (fun e u' w' => u' = modeA pan v ∧ (∃ v, e = .returned v) ∧ ∃ H' S σ', K H' S = some r ∧ Step C G S σ H w σ' H' w') := by
  unfold callDA at h
  obtain ⟨args', H1, h1, hst, hlen, ha'⟩ := lendK_ok hC args H _ r vs hR ha h
  clear h
  simp only at h1
  generalize hS : reach H1 3 (addAll [] (refs p ++ refsL args')) = S at h1
  cases hb : nodupB S && closedB S H1 && withinL S args' && within S p
  · rw [hb] at h1; cases h1
  · rw [hb] at h1
    simp only [cond_true] at h1
    simp only [Bool.and_eq_true] at hb
    have hn := nodup_of hb.1.1.1
    have hM := rn_in (C := C) hn hst.rp
    have hsub := rp_sub hn hb.1.1.2 hst.rp
    have hargs := RepL.ren hM args' vs (names_withinL S args' hb.1.2) ha'
    have hp' := RepA.ren hM p v (names_within S p hb.2) (hst.move00 hp)
    obtain ⟨k1, k2⟩ := hΓ R pan _ _ _ _ r h1 _ w v vs hsub hp' hargs
    refine ⟨k1, k2.mono fun e u' w' ⟨hu, x, H2, hk, he⟩ => ?_⟩
    obtain ⟨v, σ2, rfl, k1, k2, k3⟩ := he
    obtain ⟨q1, q2⟩ := call_back (rows := rowsOf S H1) hn hb.1.1.2 rfl hst.rp k2 k1
    refine ⟨hu, ⟨v, rfl⟩, _, _, backσ S H1.length σ σ2, hk, ?_⟩
    refine ⟨q1.rp, hst.anc.trans q1.anc, ⟨fun b off x hx => q1.move.cell b off x (hst.move.cell b off x hx), Nat.le_trans hst.move.len q1.move.len, fun o ho hS => q1.move.sig o (by omega) hS, fun o ho hS n s hr => ?_⟩⟩
    obtain ⟨p1, p3⟩ := q1.move.row o (by omega) hS n s hr
    exact ⟨(hst.move.row o ho (by simp) n s p1).1, p3⟩

/-- All that was deferred; whether the function still panics behind it. -/
def leavesA (Γ : GamD T) : Nat → Ds T → Bool → AV T → Env T → List (AObj T) → (Bool → AV T → Env T → List (AObj T) → Option R) → Option R
  | _, [], pan, p, env, H, K => K pan p env H
  | 0, _ :: _, _, _, _, _, _ => none
  | n + 1, (f, args, cap) :: ds, pan, p, env, H, K => match f with
    | .func g => callDA Γ g pan p (args ++ cap) H fun H S => leavesA Γ n (purgeDs S ds) false .any (penv S env) H K
    | _ => none

theorem leavesA_ok (hC : CdcOk C) {Γ : GamD T} (hΓ : GOkD P C G Γ) {fn : Func} {B : Base T} {tmps : Array Value} {K : Bool → AV T → Env T → List (AObj T) → Option R} {r : R} {Q : Ending → World → Prop}
    (hK : ∀ pan p env H σ w v, K pan p env H = some r → Rp C σ H w G → Anc C B.σ B.H B.w σ H w → RepA C σ H w p v → (∀ t, RepA C σ H w (env t) (tmps.getD t undef)) → Leaves P fn tmps Q [] (modeB pan v) w) :
    ∀ (n : Nat) (ds : Ds T) (dl : List Deferred) (pan : Bool) (p : AV T) (v : Value) (env : Env T) (H : List (AObj T)) (σ : Lk) (w : World), Rp C σ H w G → Anc C B.σ B.H B.w σ H w → RepA C σ H w p v → (∀ t, RepA C σ H w (env t) (tmps.getD t undef)) → RepDs C σ H w ds dl →
      leavesA Γ n ds pan p env H K = some r → Leaves P fn tmps Q dl (modeB pan v) w := by
  intro n
  induction n with
  | zero =>
    intro ds dl pan p v env H σ w hR hA hp he hd h
    cases ds with
    | nil => cases (show dl = [] from hd); exact hK pan p env H σ w v h hR hA hp he
    | cons => cases h
  | succ n ih =>
    intro ds dl pan p v env H σ w hR hA hp he hd h
    cases ds with
    | nil => cases (show dl = [] from hd); exact hK pan p env H σ w v h hR hA hp he
    | cons d ds =>
      obtain ⟨f, args, cap⟩ := d
      obtain ⟨vargs, vcap, dl', rfl, h1, h2, h3⟩ := hd
      simp only [leavesA] at h
      split at h
      · rename_i g
        have harr : vargs ++ vcap = (vargs.toList ++ vcap.toList).toArray := by apply Array.ext'; simp
        obtain ⟨k1, k2⟩ := callDA_ok hC hR (hΓ g) hp (h1.append h2) h
        refine leaves_cons (f := g) (args := vargs ++ vcap) modeB_run ?_ ?_
        · show (callFunc g (vargs ++ vcap)).run P w = _
          rw [harr]; exact k1
        · rw [harr]
          refine k2.mono fun e u' w' hh => ?_
          obtain ⟨hu, ⟨v', he'⟩, H', S, σ', q1, q2⟩ := hh
          subst he'
          show Leaves P fn tmps Q dl' (settle u') w'
          rw [hu, settle_modeA]
          exact ih (purgeDs S ds) dl' false .any v (penv S env) H' σ' w' q2.rp (hA.trans q2.anc) trivial (fun t => by
            have := he t
            cases S with
            | nil => exact RepA.move0 q2.move this
            | cons => exact RepA.move q2.move _ _ this) (h3.move q2.move) q1
      · cases h

def funF (C : Cdc T) (P : Program) (G : Nat → Option (List (V T))) (Γ : Gam T) (Δ : GamD T) (cut : Key → Option (Cut T)) (NR NP : NormT T) (fn : Func) (args : List (AV T)) (H : List (AObj T)) (K : Out T → Option R) : Option R :=
  match fn.body with
  | some c => bif Nat.ble args.length fn.ntmps then codeA C P G Γ fn.ntmps cut c (envOf args) H [] fun
      | .normal, env, H', ds => leavesA Δ 4 ds false .any env H' (funFin H.length K)
      | .ret, env, H', ds => leavesA Δ 4 ds false .any env H' (funFin H.length K)
      | .pan p, env, H', ds => leavesA Δ 4 ds true p env H' (funFin H.length K)
      | _, _, _, _ => none
    else none
  | none => none
where funFin (_ : Nat) (K : Out T → Option R) (pan : Bool) (p : AV T) (env : Env T) (H' : List (AObj T)) : Option R :=
  bif pan then oneN NP p H' fun p H => K (.panic p H)
  else (resA C P G env H' fn.results.toList).bind fun xs => oneN NR (oneOf xs) H' fun x H => K (.ret x H)

theorem funF_ok (hC : CdcOk C) {Γ : Gam T} (hΓ : GOk P C G Γ) {Δ : GamD T} (hΔ : GOkD P C G Δ) (hm : P.follows .mixedOrders = true) {cut : Key → Option (Cut T)} {NR NP : NormT T} {f : FuncId} {fn : Func} (hf : P.funcs[f]? = some fn)
    {args : List (AV T)} {H : List (AObj T)} (hNR : NormOk C G H.length NR) (hNP : NormOk C G H.length NP) (hcut : ∀ c, fn.body = some c → CutsOk P C G fn.ntmps H.length cut c) {K : Out T → Option R} {r : R} (h : funF C P G Γ Δ cut NR NP fn args H K = some r) :
    ∀ (σ : Lk) (w : World) (vs : List Value), Rp C σ H w G → RepL C σ H w args vs → Calls P f vs.toArray w fun e w' => ∃ out, K out = some r ∧ Ends C G σ H w out e w' := by
  intro σ w vs hR ha
  unfold funF at h
  split at h
  · rename_i c hb
    cases hle : Nat.ble args.length fn.ntmps
    · rw [hle] at h; cases h
    · rw [hle] at h
      simp only [cond_true] at h
      have hle' := Nat.le_of_ble_eq_true hle
      have hlen := ha.length
      refine calls_of_wp_defers hf hb ?_
      have st : St C G fn.ntmps ⟨σ, H, w⟩ σ (envOf args) H [] { tmps := vs.toArray ++ Array.replicate (fn.ntmps - vs.toArray.size) undef, defers := [] } w :=
        ⟨hR, Anc.refl C σ H w, by simp; omega, envOf_rep ha _, rfl⟩
      refine wp_mono (codeA_ok hC hΓ hm (B := ⟨σ, H, w⟩) rfl c (hcut c hb) _ σ _ H [] _ w st h) fun e a' w' hpost => ?_
      obtain ⟨σ', ex, env', H', ds', h1, h2, h3⟩ := hpost
      have fin : ∀ pan p env H' σ' w' v, funF.funFin C P G NR NP fn H.length K pan p env H' = some r → Rp C σ' H' w' G → Anc C σ H w σ' H' w' → RepA C σ' H' w' p v → (∀ t, RepA C σ' H' w' (env t) (a'.tmps.getD t undef)) →
          Leaves P fn a'.tmps (fun e w' => ∃ out, K out = some r ∧ Ends C G σ H w out e w') [] (modeB pan v) w' := by
        intro pan p env H' σ' w' v hh hR' hA' hp he
        unfold funF.funFin at hh
        cases pan
        · simp only [cond_false] at hh
          obtain ⟨xs, hxs, hh⟩ := Option.bind_eq_some_iff.1 hh
          obtain ⟨v', k1, k2⟩ := run_results (P := P) (a := a') hR' he hxs
          obtain ⟨x', H'', σ'', q1, q2, q3, q4⟩ := oneN_ok hNR (B := ⟨σ, H, w⟩) rfl hR' hA' k2 hh
          exact ⟨v', k1, _, q1, v', σ'', rfl, q2, q3, q4⟩
        · simp only [cond_true] at hh
          obtain ⟨x', H'', σ'', q1, q2, q3, q4⟩ := oneN_ok hNP (B := ⟨σ, H, w⟩) rfl hR' hA' hp hh
          exact ⟨_, q1, v, σ'', rfl, q2, q3, q4⟩
      cases ex with
      | normal =>
        cases (show e = _ from h2)
        exact leavesA_ok hC hΔ (B := ⟨σ, H, w⟩) fin 4 ds' a'.defers false .any undef env' H' σ' w' h3.rp h3.anc trivial h3.env h3.ds h1
      | ret =>
        cases (show e = _ from h2)
        exact leavesA_ok hC hΔ (B := ⟨σ, H, w⟩) fin 4 ds' a'.defers false .any undef env' H' σ' w' h3.rp h3.anc trivial h3.env h3.ds h1
      | exit i => cases h1
      | pan p =>
        obtain ⟨v, rfl, hv⟩ := h2
        exact leavesA_ok hC hΔ (B := ⟨σ, H, w⟩) fin 4 ds' a'.defers true p v env' H' σ' w' h3.rp h3.anc hv h3.env h3.ds h1
  · cases h

theorem Spec.okF {I X : Type} {s : Spec T I X} (hs : SpecOk s) (hC : CdcOk C) (hm : P.follows .mixedOrders = true) {Γ : Gam T} (hΓ : GOk P C G Γ) {Δ : GamD T} (hΔ : GOkD P C G Δ) {cut : Key → Option (Cut T)} {g : FuncId} {fn : Func} {c : Code} {NR NP : NormT T} {nB : Nat}
    (hf : P.funcs[g]? = some fn) (hb : fn.body = some c) (hn : (fn.name == "runtime.NumGoroutine") = false) (hnB : ∀ i, (s.ecH i).length = nB) (hNR : NormOk C G nB NR) (hNP : NormOk C G nB NP) (hcut : CutsOk P C G fn.ntmps nB cut c)
    {f : I → Option X} (hev : ∀ i, funF C P G Γ Δ cut NR NP fn (s.ecA i) (s.ecH i) s.dcO = f i) : EOk P C G g (s.entry f) := by
  intro R args H k r h
  intro σ w vs hR ha
  unfold Spec.entry at h
  obtain ⟨i, hi, h'⟩ := Option.bind_eq_some_iff.1 h
  obtain ⟨x, hx, hk⟩ := Option.bind_eq_some_iff.1 h'
  rw [hs.hG] at hk
  obtain ⟨rfl, rfl⟩ := hs.hI _ _ _ hi
  rw [← hev] at hx
  refine .inl ⟨callable hf hb hn _ w, (funF_ok hC hΓ hΔ hm hf (by rw [hnB]; exact hNR) (by rw [hnB]; exact hNP) (fun c' hc => by rw [hb] at hc; cases hc; rw [hnB]; exact hcut) hx σ w vs hR ha).mono fun e w' ⟨out, ho, he⟩ => ?_⟩
  rw [hs.hO _ _ ho] at he
  exact ⟨_, hk, he⟩

def isRecover (o : Oper) : Bool :=
  match o.guard, o.op with
  | none, .call { callee := .builtin .recover, args, .. } => Nat.beq args.size 0
  | _, _ => false

def funR (C : Cdc T) (P : Program) (G : Nat → Option (List (V T))) (Γ : Gam T) (cut : Key → Option (Cut T)) (NR : NormT T) (fn : Func) (pan : Bool) (p : AV T) (args : List (AV T)) (H : List (AObj T)) (K : AV T → List (AObj T) → Option R) : Option R :=
  match fn.body with
  | some (.seq (.region _ ops false) c) => match ops.toList with
    | o :: rest => bif Nat.ble args.length fn.ntmps && isRecover o then
        finA o.dst fn.ntmps (envOf args) [] (bif pan then p else .v .if0) H [] fun env H1 ds =>
          opsA C P G Γ fn.ntmps (fun j => (ops[j]?).bind (·.dst)) rest env H1 ds (fun env H1 ds => codeA C P G Γ fn.ntmps cut c env H1 ds fun
            | .normal, env, H', [] => (resA C P G env H' fn.results.toList).bind fun xs => oneN NR (oneOf xs) H' fun x H => K x H
            | .ret, env, H', [] => (resA C P G env H' fn.results.toList).bind fun xs => oneN NR (oneOf xs) H' fun x H => K x H
            | _, _, _, _ => none) (fun _ _ _ _ => none)
      else none
    | _ => none
  | _ => none

/-- A row of operations in which nothing is recovered. -/
theorem opsS_ok (hC : CdcOk C) {Γ : Gam T} (hΓ : GOk P C G Γ) {n : Nat} {B : Base T} {ops : Array Oper} {dsts : Nat → Option Nat} (hd : ∀ j, dsts j = (ops[j]?).bind (·.dst)) {K : KS T R} {r : R} {Q : Exit → Act → List Frame → World → Prop} {cs : List Frame}
    (hK : ∀ σ' env' H' ds' a' w', K env' H' ds' = some r → St C G n B σ' env' H' ds' a' w' → Q .normal a' cs w') :
    ∀ (l : List Oper) (k : Nat), (∀ j, l[j]? = ops[k + j]?) → ∀ (σ : Lk) (env : Env T) (H : List (AObj T)) (ds : Ds T) (a : Act) (w : World), St C G n B σ env H ds a w → opsA C P G Γ n dsts l env H ds K (fun _ _ _ _ => none) = some r → wpOpsS P ops Q (List.range' k l.length) a cs w := by
  intro l
  induction l with
  | nil => intro k _ σ env H ds a w st h; exact hK _ _ _ _ _ _ h st
  | cons o l ih =>
    intro k hk σ env H ds a w st h
    have ho : ops[k]? = some o := by have := hk 0; simpa using this.symm
    have := operA_ok hC hΓ st hd h (next := fun a w => wpOpsS P ops Q (List.range' (k + 1) l.length) a cs w) (Q := fun _ _ _ => False)
      (fun σ' env' H' ds' a' w' h' st' => ih (k + 1) (fun j => by have := hk (j + 1); simp at this; rw [this]; congr 1; omega) σ' env' H' ds' a' w' st' h')
      (fun σ' env' p H' ds' v w' h' st' => by cases h')
    rw [List.length_cons, List.range'_succ]
    simp only [wpOpsS, ho]
    split
    · rename_i hw
      rw [if_pos hw] at this
      unfold Oper.wp at this
      split
      · rename_i w' hr; rw [hr] at this; exact this.elim
      · rename_i r' hnot
        generalize (execOp a.eval o).run P w = rr at this
        -- what is not recovered is as before
        cases rr with
        | ok x w1 =>
          cases x <;> first
            | exact this
            | (exact this.elim)
            | (refine this.mono fun e w2 he => ?_
               cases e with
               | returned v => exact he
               | panicked c => exact he.elim
               | outgrown => obtain ⟨_, _, hf⟩ := he; exact hf.elim)
        | halt x w1 => cases x <;> exact this.elim
    · rename_i hw
      rw [if_neg hw] at this
      exact this

theorem funR_ok (hC : CdcOk C) {Γ : Gam T} (hΓ : GOk P C G Γ) (hm : P.follows .mixedOrders = true) {cut : Key → Option (Cut T)} {NR : NormT T} {f : FuncId} {fn : Func} (hf : P.funcs[f]? = some fn) {pan : Bool} {p : AV T}
    {args : List (AV T)} {H : List (AObj T)} (hNR : NormOk C G H.length NR) (hcut : ∀ x c, fn.body = some (.seq x c) → CutsOk P C G fn.ntmps H.length cut c) {K : AV T → List (AObj T) → Option R} {r : R} (h : funR C P G Γ cut NR fn pan p args H K = some r) :
    ∀ (σ : Lk) (w : World) (v : Value) (vs : List Value), Rp C σ H w G → RepA C σ H w p v → RepL C σ H w args vs → CallsD P f vs.toArray (modeB pan v) w fun en u' w' => u' = modeA pan v ∧ ∃ x H', K x H' = some r ∧ Ends C G σ H w (.ret x H') en w' := by
  intro σ w v vs hR hp ha
  unfold funR at h
  split at h
  · rename_i id ops c hb
    split at h
    · rename_i o rest hops
      cases hle : Nat.ble args.length fn.ntmps && isRecover o
      · rw [hle] at h; cases h
      · rw [hle] at h
        simp only [cond_true] at h
        rw [Bool.and_eq_true] at hle
        have hle' := Nat.le_of_ble_eq_true hle.1
        have hlen := ha.length
        refine callsD_of_wpS hf hb fun c₀ cs hmode => wpS_seq (wpS_region ?_)
        have st : St C G fn.ntmps ⟨σ, H, w⟩ σ (envOf args) H [] { tmps := vs.toArray ++ Array.replicate (fn.ntmps - vs.toArray.size) undef, defers := [] } w :=
          ⟨hR, Anc.refl C σ H w, by simp; omega, envOf_rep ha _, rfl⟩
        generalize ({ tmps := vs.toArray ++ Array.replicate (fn.ntmps - vs.toArray.size) undef, defers := [] } : Act) = a0 at st ⊢
        have hsz : ops.size = rest.length + 1 := by have := congrArg List.length hops; simpa using this
        have ho0 : ops[0]? = some o := by rw [← Array.getElem?_toList, hops]; rfl
        rw [List.range_eq_range', hsz, List.range'_succ]
        simp only [wpOpsS, ho0]
        have hrec := hle.2
        unfold isRecover at hrec
        split at hrec
        · rename_i ar tys hg hop
          have hw : Region.wanted o (yielded ops a0.tmps) = true := by simp [Region.wanted, hg]
          rw [if_pos hw]
          have hrun : (execOp a0.eval o).run P w = .ok .recover w := by
            unfold execOp
            rw [hop]
            rfl
          rw [hrun]
          simp only
          -- what is recovered
          have fin : ∀ (x : AV T) (y : Value) (cs' : List Frame), RepA C σ H w x y → x = (bif pan then p else .v .if0) → cs' = { c₀ with mode := modeA pan v } :: cs →
              wpOpsS P ops (Exit.thenS (Code.wpS P c (bodyPostS P fn c₀ cs fun en u' w' => u' = modeA pan v ∧ ∃ x H', K x H' = some r ∧ Ends C G σ H w (.ret x H') en w')) (bodyPostS P fn c₀ cs fun en u' w' => u' = modeA pan v ∧ ∃ x H', K x H' = some r ∧ Ends C G σ H w (.ret x H') en w')) (List.range' 1 rest.length) (a0.put o.dst y) cs' w := by
            intro x y cs' hx hxe hcs
            rw [← hxe] at h
            obtain ⟨env', ds', h', st'⟩ := finA_ok st (Step.refl hR) hx h
            refine opsS_ok hC hΓ (ops := ops) (fun j => rfl) (fun σ' env' H' ds' a' w' hk st' => ?_) rest 1 (fun j => ?_) σ env' H ds' _ w st' h'
            · show Code.wpS P c _ a' cs' w'
              refine wpS_of_wp (wp_mono (codeA_ok hC hΓ hm (B := ⟨σ, H, w⟩) rfl c (hcut _ c hb) _ σ' env' H' ds' a' w' st' hk) fun e a'' w'' hpost => ?_)
              obtain ⟨σ2, ex, env2, H2, ds2, q1, q2, q3⟩ := hpost
              have done : ∀ env2 H2 ds2 σ2, (resA C P G env2 H2 fn.results.toList).bind (fun xs => oneN NR (oneOf xs) H2 fun x H => K x H) = some r → ds2 = [] → St C G fn.ntmps ⟨σ, H, w⟩ σ2 env2 H2 ds2 a'' w'' →
                  a''.defers = [] ∧ ∃ u', cs' = { c₀ with mode := u' } :: cs ∧ ∃ v2, (results fn a''.tmps).run P w'' = .ok v2 w'' ∧ u' = modeA pan v ∧ ∃ x H', K x H' = some r ∧ Ends C G σ H w (.ret x H') (.returned v2) w'' := by
                intro env2 H2 ds2 σ2 hh hds q3
                subst hds
                obtain ⟨xs, hxs, hh⟩ := Option.bind_eq_some_iff.1 hh
                obtain ⟨v2, k1, k2⟩ := run_results (P := P) q3.rp q3.env hxs
                obtain ⟨x', H'', σ'', z1, z2, z3, z4⟩ := oneN_ok hNR (B := ⟨σ, H, w⟩) rfl q3.rp q3.anc k2 hh
                exact ⟨q3.ds, _, hcs, v2, k1, rfl, x', H'', z1, v2, σ'', rfl, z2, z3, z4⟩
              cases ex with
              | normal =>
                cases (show e = _ from q2)
                cases ds2 with
                | nil => exact done _ _ _ _ q1 rfl q3
                | cons => cases q1
              | ret =>
                cases (show e = _ from q2)
                cases ds2 with
                | nil => exact done _ _ _ _ q1 rfl q3
                | cons => cases q1
              | exit i => cases ds2 <;> cases q1
              | pan p => cases ds2 <;> cases q1
            · have := congrArg (fun l : List Oper => l[j + 1]?) hops
              simp at this
              rw [← this, Nat.add_comm]
          cases pan with
          | false =>
            have hm0 : c₀.mode = .returning := hmode
            have hrd : recoverD (c₀ :: cs) = none := by simp [recoverD, hm0]
            rw [hrd]
            refine fin (.v .if0) .nilIface _ .if0 rfl ?_
            have : ({ c₀ with mode := FrameMode.returning } : Frame) = c₀ := by rw [← hm0]
            show c₀ :: cs = { c₀ with mode := FrameMode.returning } :: cs
            rw [this]
          | true =>
            have hm0 : c₀.mode = .panicking [{ v, recovered := false }] := hmode
            have hrd : recoverD (c₀ :: cs) = some (v, { c₀ with mode := .panicking [{ v, recovered := true }] } :: cs) := by simp [recoverD, hm0]
            rw [hrd]
            exact fin p v _ hp rfl rfl
        · cases hrec
    · cases h
  · cases h

/-- One more account of a deferred function. -/
def GamD.addS (Δ : GamD T) (g : Nat) (pan : Bool) {I X : Type} (s : Spec T I X) (f : I → Option X) : GamD T :=
  fun h R pan' p args H k => bif Nat.beq h g && (pan == pan') then (match s.dcI (p :: args) H with
    | some i => (f i).bind fun x => s.goO R x fun o => match o with
      | .ret y H' => k y H'
      | .panic _ _ => none
    | none => Δ h R pan' p args H k) else Δ h R pan' p args H k

def funRL (C : Cdc T) (P : Program) (G : Nat → Option (List (V T))) (Γ : Gam T) (cut : Key → Option (Cut T)) (NR : NormT T) (fn : Func) (pan : Bool) (as : List (AV T)) (H : List (AObj T)) (K : AV T → List (AObj T) → Option R) : Option R :=
  match as with
  | p :: args => funR C P G Γ cut NR fn pan p args H K
  | [] => none

theorem GOkD.addS {I X : Type} {s : Spec T I X} (hs : SpecOk s) (hC : CdcOk C) (hm : P.follows .mixedOrders = true) {Δ : GamD T} (hΔ : GOkD P C G Δ) {Γ : Gam T} (hΓ : GOk P C G Γ) {cut : Key → Option (Cut T)} {g : Nat} {pan : Bool} {fn : Func} {c x : Code} {NR : NormT T} {nB : Nat}
    (hf : P.funcs[g]? = some fn) (hb : fn.body = some (.seq x c)) (hn : (fn.name == "runtime.NumGoroutine") = false) (hnB : ∀ i, (s.ecH i).length = nB) (hNR : NormOk C G nB NR) (hcut : CutsOk P C G fn.ntmps nB cut c)
    {f : I → Option X} (hev : ∀ i, funRL C P G Γ cut NR fn pan (s.ecA i) (s.ecH i) (fun y H => s.dcO (.ret y H)) = f i) : GOkD P C G (Δ.addS g pan s f) := by
  intro h R pan' p args H k r hr
  unfold GamD.addS at hr
  cases hq : Nat.beq h g && (pan == pan')
  · rw [hq] at hr; exact hΔ h R pan' p args H k r hr
  · rw [hq] at hr
    simp only [cond_true] at hr
    rw [Bool.and_eq_true] at hq
    split at hr
    · rename_i i hi
      have hg := Nat.eq_of_beq_eq_true hq.1
      subst hg
      have hp : pan = pan' := by simpa using hq.2
      subst hp
      obtain ⟨z, hz, hk⟩ := Option.bind_eq_some_iff.1 hr
      rw [hs.hG] at hk
      obtain ⟨ha, hH⟩ := hs.hI _ _ _ hi
      intro σ w v vs hR hpv hvs
      refine ⟨callable hf hb hn _ w, ?_⟩
      have hev' := hev i
      rw [← ha, ← hH] at hev'
      unfold funRL at hev'
      rw [hz] at hev'
      have hH' : H.length = nB := by rw [hH]; exact hnB i
      refine (funR_ok hC hΓ hm hf (by rw [hH']; exact hNR) (fun x' c' hc => by rw [hb] at hc; cases hc; rw [hH']; exact hcut) hev' σ w v vs hR hpv hvs).mono fun en u' w' ⟨hu, y, H', k1, k2⟩ => ⟨hu, ?_⟩
      rw [← hs.hO _ _ k1] at hk
      exact ⟨y, H', hk, k2⟩
    · exact hΔ h R pan' p args H k r hr
end Go.Proofs.YtfoeekaanngoiaaDoor.Ev


namespace Go.Proofs.YtfoeekaanngoiaaDoor.Ev
open Go

def FinerL {T : Nat → Type} : List (V T) → List (V T) → Prop
  | [], [] => True
  | a :: l, b :: m => Finer a b ∧ FinerL l m
  | _, _ => False
theorem Finer.rfl {T : Nat → Type} {a : V T} : Finer a a := .inl (Eq.refl a)
theorem FinerL.length {T : Nat → Type} : ∀ {l m : List (V T)}, FinerL l m → l.length = m.length
  | [], [], _ => Eq.refl _
  | a :: l, b :: m, h => congrArg (· + 1) h.2.length
  | [], _ :: _, h => h.elim
  | _ :: _, [], h => h.elim
theorem FinerL.get {T : Nat → Type} : ∀ {l m : List (V T)}, FinerL l m → ∀ (j : Nat) (a b : V T), l[j]? = some a → m[j]? = some b → Finer a b
  | [], [], _, j, a, b, h, _ => by simp at h
  | x :: l, y :: m, h, 0, a, b, h1, h2 => by simp at h1 h2; subst h1; subst h2; exact h.1
  | x :: l, y :: m, h, j + 1, a, b, h1, h2 => h.2.get j a b (by simpa using h1) (by simpa using h2)
  | [], _ :: _, h, _, _, _, _, _ => h.elim
  | _ :: _, [], h, _, _, _, _, _ => h.elim

structure Co (T : Nat → Type) (X : Type) where
  size : Nat
  enc : X → List (V T)
  dec : List (V T) → Option X
  len : ∀ x, (enc x).length = size
  fin : ∀ cs x, dec cs = some x → FinerL cs (enc x)
  pos : 0 < size

def coNone (T : Nat → Type) (X : Type) : Co T X := ⟨1, fun _ => [.b true], fun _ => none, fun _ => rfl, fun _ _ h => (by cases h), Nat.one_pos⟩

def mkC {T : Nat → Type} (co : (t : Nat) → Co T (T t)) (typed : Nat → Bool) (bt : Nat) (ofB : Int → T bt) (toB : T bt → Int) : Cdc T :=
  { enc := fun t => (co t).enc, dec := fun t => (co t).dec, size := fun t => (co t).size, typed, bt, ofB, toB }
theorem mkC_ok {T : Nat → Type} {co : (t : Nat) → Co T (T t)} {typed : Nat → Bool} {bt : Nat} {ofB : Int → T bt} {toB : T bt → Int}
    (h1 : ∀ x, (co bt).enc x = [.i .u8 (toB x)]) (h2 : ∀ n, toB (ofB n) = n) : CdcOk (mkC co typed bt ofB toB) :=
  ⟨fun t x => (co t).len x, fun t cs x h => ((co t).fin cs x h).get, fun t cs x h => ((co t).fin cs x h).length.trans ((co t).len x), fun t => (co t).pos, h1, h2⟩

end Go.Proofs.YtfoeekaanngoiaaDoor.Ev


namespace Go.Proofs.YtfoeekaanngoiaaDoor.Ev
open Go Go.RowKit
variable {T : Nat → Type} {C : Cdc T} {P : Program} {σ : Lk} {w w' : World} {G : Nat → Option (List (V T))} {R : Type}

theorem move_below (hb : Below w.heap.size w w') {F : Nat → Nat → Prop} : ∀ b off x, Cell C σ [] w b off x → Cell C σ [] w' b off x := by
  intro b off x ⟨h1, h2⟩
  exact ⟨h1, (cell_of_block (hb.block b (cell_lt h2))).trans h2⟩

/-- A call that only makes new blocks, seen by one who has no objects. -/
theorem rp_below (hR : Rp C σ [] w G) (hb : Below w.heap.size w w') : Rp C σ [] w' G ∧ Anc C σ [] w σ [] w' := by
  have hc : ∀ b off x, Cell C σ [] w b off x → Cell C σ [] w' b off x := move_below (F := σ.F) hb
  have nil : ∀ {i : Nat} {o : AObj T}, ([] : List (AObj T))[i]? = some o → False := fun h => by simp at h
  refine ⟨⟨fun i j oi oj b hi => (nil hi).elim, fun i o b hi => (nil hi).elim, fun i o hi => (nil hi).elim, fun g l hg => (hR.glob g l hg).mono hc, fun i o b hi => (nil hi).elim, fun b off hF => Nat.lt_of_lt_of_le (hR.fb b off hF) hb.size⟩,
    ⟨rfl, hb.os, hb.tape, hb.output, hb.size, Nat.le_refl _, fun _ _ _ h => h, fun b off hlt _ => cell_of_block (hb.block b hlt), fun b hlt _ => hb.block b hlt, fun _ _ _ _ => rfl, fun _ o _ h1 h2 h3 => .inl ⟨o, h1, h2, h3⟩, fun _ o o' h h' hr => by rw [h] at h'; cases h'; exact hr⟩⟩

/-- A library function whose contract is known: handed plain values, it comes to a value and makes new blocks alone. -/
theorem Spec.lib {I X : Type} {s : Spec T I X} (hs : SpecOk s) {g : FuncId} {f : I → Option X} (hcall : ∀ (vs : Array Value) (w : World), (callFunc g vs).run P w = .ok (.enter g vs) w)
    (hH : ∀ i, s.ecH i = [])
    (h : ∀ i x, f i = some x → ∀ (σ : Lk) (w : World) (vs : List Value), Rp C σ [] w G → RepL C σ [] w (s.ecA i) vs → ∃ y, s.ecO x = .ret y [] ∧
      Calls P g vs.toArray w fun e w' => Below w.heap.size w w' ∧ ∃ v, e = .returned v ∧ RepA C σ [] w' y v) : EOk P C G g (s.entry f) := by
  intro R args H k r hr
  intro σ w vs hR ha
  unfold Spec.entry at hr
  obtain ⟨i, hi, h'⟩ := Option.bind_eq_some_iff.1 hr
  obtain ⟨x, hx, hk⟩ := Option.bind_eq_some_iff.1 h'
  rw [hs.hG] at hk
  obtain ⟨h1, h2⟩ := hs.hI _ _ _ hi
  rw [hH] at h2
  subst h1; subst h2
  obtain ⟨y, hy, hc⟩ := h i x hx σ w vs hR ha
  refine .inl ⟨hcall _ w, hc.mono fun e w' ⟨hb, v, he, hv⟩ => ⟨_, hk, ?_⟩⟩
  rw [hy]
  obtain ⟨q1, q2⟩ := rp_below hR hb
  exact ⟨v, σ, he, q1, q2, hv⟩

/-- What a function that was handed no object leaves: new blocks alone. -/
theorem below_of_anc {σ' : Lk} {H' : List (AObj T)} (hA : Anc C σ [] w σ' H' w') : Below w.heap.size w w' :=
  ⟨hA.os, hA.tape, hA.output, hA.size, fun b hb => hA.block b hb fun i o hi => by simp at hi⟩

/-- A function's answer, for a row. -/
theorem calls_of_eok {g : FuncId} {e : Entry T} (h : EOk P C G g e) (hen : ∀ (vs : Array Value) (w : World), (callFunc g vs).run P w = .ok (.enter g vs) w) {args : List (AV T)} {X : Type} {r : X} {k : Out T → Option X} (he : e X args [] k = some r) (hG : ∀ g l, G g = some l → RepCs C (Cell C ⟨fun _ => none, fun _ _ => False⟩ ([] : List (AObj T)) w) l g 0) {vs : List Value}
    (ha : RepL C ⟨fun _ => none, fun _ _ => False⟩ [] w args vs) :
    Calls P g vs.toArray w fun e w' => Below w.heap.size w w' ∧ ∃ out σ' H', k out = some r ∧ match out with
      | .ret x H2 => H2 = H' ∧ ∃ v, e = .returned v ∧ RepA C σ' H' w' x v
      | .panic p H2 => H2 = H' ∧ ∃ v, e = .panicked [{ v, recovered := false }] ∧ RepA C σ' H' w' p v := by
  have nil : ∀ {i : Nat} {o : AObj T}, ([] : List (AObj T))[i]? = some o → False := fun h => by simp at h
  have hR : Rp C ⟨fun _ => none, fun _ _ => False⟩ [] w G :=
    ⟨fun i j oi oj b hi => (nil hi).elim, fun i o b hi => (nil hi).elim, fun i o hi => (nil hi).elim, fun g l hg => hG g l hg, fun i o b hi => (nil hi).elim, fun b off hF => hF.elim⟩
  have h2 : Calls P g vs.toArray w fun e w' => ∃ out, k out = some r ∧ Ends C G ⟨fun _ => none, fun _ _ => False⟩ [] w out e w' := by
    rcases h X args [] k r he _ w vs hR ha with ⟨_, h2⟩ | ⟨v, w', h1, _⟩
    · exact h2
    · rw [hen] at h1; cases h1
  refine h2.mono fun e w' ⟨out, ho, hend⟩ => ?_
  cases out with
  | ret x H' =>
    obtain ⟨v, σ', k1, k2, k3, k4⟩ := hend
    exact ⟨below_of_anc k3, _, σ', H', ho, rfl, v, k1, k4⟩
  | panic p H' =>
    obtain ⟨v, σ', k1, k2, k3, k4⟩ := hend
    exact ⟨below_of_anc k3, _, σ', H', ho, rfl, v, k1, k4⟩

end Go.Proofs.YtfoeekaanngoiaaDoor.Ev


namespace Go.Proofs.YtfoeekaanngoiaaDoor.Ev
open Go Go.ChangeShapes Go.WideShapes Go.RowKit
open Go.ChangeMaps (open_string shut_string)
variable {T : Nat → Type} {C : Cdc T} {P : Program}

abbrev CW (w : World) (b off : Nat) (x : Value) : Prop := w.cell? ⟨b, off, none⟩ = some x
def RepVs (C : Cdc T) (w : World) (vs : List (V T)) (cs : List Value) : Prop := vs.length = cs.length ∧ ∀ (j : Nat) v c, vs[j]? = some v → cs[j]? = some c → RepV C (CW w) v c
/-- Cells that read at type t (with fuel N at most) show a value that is told by f; wf: what is known of it. -/
def OpensF {α : Type} (C : Cdc T) (P : Program) (f : α → List (V T)) (sz : Nat) (t : TypeId) (wf : α → Prop) (N : Nat) : Prop :=
  sz = P.cellsOf t ∧ ∀ (H : Type) (enc : TypeId × Value → H) (w : World) (base : Nat) (spare : Nat → Bool) (held : Bool) (fuel : Nat) (cs : List Value) (x : DataW H × List MemPlace),
    fuel ≤ N → DataW.trod enc P w base spare held fuel t cs = some x → (∀ n ∈ x.1.weights P t, n ≤ reachBytes) → cs.length = sz ∧ ∃ a, RepVs C w (f a) cs ∧ wf a

theorem OpensF.mono {α : Type} {f : α → List (V T)} {sz : Nat} {t : TypeId} {wf wf' : α → Prop} {N : Nat} (h : OpensF C P f sz t wf N) (hw : ∀ a, wf a → wf' a) : OpensF C P f sz t wf' N :=
  ⟨h.1, fun H enc w base spare held fuel cs x hN hx hz => by
    obtain ⟨hl, a, hk, ha⟩ := h.2 H enc w base spare held fuel cs x hN hx hz
    exact ⟨hl, a, hk, hw a ha⟩⟩
theorem OpensF.le {α : Type} {f : α → List (V T)} {sz : Nat} {t : TypeId} {wf : α → Prop} {N M : Nat} (h : OpensF C P f sz t wf N) (hm : M ≤ N) : OpensF C P f sz t wf M :=
  ⟨h.1, fun H enc w base spare held fuel cs x hN hx hz => h.2 H enc w base spare held fuel cs x (Nat.le_trans hN hm) hx hz⟩
theorem RepVs.one {w : World} {v : V T} {c : Value} (h : RepV C (CW w) v c) : RepVs C w [v] [c] :=
  ⟨rfl, fun j v' c' h1 h2 => by
    cases j with
    | zero => cases h1; cases h2; exact h
    | succ j => simp at h1⟩
theorem opens_int {t : TypeId} {k : IntKind} (ht : P.underlying t = some (.int k)) (hc : P.cellsOf t = 1) (N : Nat) : OpensF C P (fun n => [.i k n]) 1 t (fun n => (Lit.int k n).wf = true) N :=
  ⟨hc.symm, fun H enc w base spare held fuel cs x _ hx _ => by
    obtain ⟨n, rfl, rfl, hw⟩ := DataW.trod_int ht hx
    exact ⟨rfl, n, .one (.i k n), hw⟩⟩
theorem opens_string {t : TypeId} (ht : P.underlying t = some .string) (hc : P.cellsOf t = 1) (N : Nat) : OpensF C P (fun s => [.s s]) 1 t (fun s => s.size ≤ 140737488351232) N :=
  ⟨hc.symm, fun H enc w base spare held fuel cs x _ hx hz => by
    obtain ⟨s, rfl, rfl, hs⟩ := DataW.trod_string ht hx
    refine ⟨rfl, s, .one (.s s), ?_⟩
    have := hz s.data.toList.length (by simp [DataW.weights])
    rw [Array.length_toList] at this
    exact this⟩
/-- What is known of a slice's elements, and how many there may be. -/
def WfL {α : Type} (B : Nat) (wf : α → Prop) (l : List α) : Prop := l.length * B ≤ 140737488351232 ∧ l.length ≤ maxLen ∧ ∀ a ∈ l, wf a
theorem weights_all {H : Type} {e : TypeId} : ∀ {ds : List (DataW H)} {n : Nat}, n ∈ DataW.weightsAll P e ds ↔ ∃ d ∈ ds, n ∈ d.weights P e
  | [], n => by simp [DataW.weightsAll]
  | d :: r, n => by simp [DataW.weightsAll, weights_all (ds := r)]
theorem cell_spot {w : World} {a : Addr} {x : Value} (h : w.cell? a = some x) : a.spot = none := by
  unfold World.cell? at h
  cases hs : a.spot with
  | none => rfl
  | some s =>
    rw [hs] at h
    split at h
    · simp at h
    · cases h
theorem addr_add {a : Addr} (h : a.spot = none) (n : Nat) : a.add n = ⟨a.block, a.off + n, none⟩ := by
  unfold Addr.add
  split
  · rename_i h0
    subst h0
    cases a
    simp only at h
    subst h; rfl
  · rfl

theorem slice_open {t e : TypeId} {wf : T e → Prop} {N : Nat} (hC : CdcOk C) (ht : P.underlying t = some (.slice e)) (h : OpensF C P (C.enc e) (C.size e) e wf N)
    {H : Type} {enc : TypeId × Value → H} {w : World} {base : Nat} {spare : Nat → Bool} {held : Bool} {fuel : Nat} {cs : List Value} {x : DataW H × List MemPlace}
    (hN : fuel ≤ N + 1) (hx : DataW.trod enc P w base spare held fuel t cs = some x) (hz : ∀ n ∈ x.1.weights P t, n ≤ reachBytes) :
    ∃ (A : Option Addr) (n c : Nat) (l : List (T e)), cs = [.slice A n c] ∧ RepV C (CW w) (.sl e l) (.slice A n c) ∧ WfL (P.bytesOf e) wf l := by
  rcases DataW.trod_slice ht hx with ⟨rfl, rfl⟩ | ⟨a, len, cap, elems, rest, n, hf, rfl, rfl, hb, hl, hm, hlen, hel, hsp, hns⟩
  · exact ⟨none, 0, 0, [], rfl, .sl0 e none 0, by simp [WfL]⟩
  · have hall : ∀ i, i < len → ∃ a' cs', w.cells? base (a.add (i * P.cellsOf e)) (P.cellsOf e) = some cs' ∧ RepVs C w (C.enc e a') cs' ∧ wf a' := by
      intro i hi
      have h1 := hel i hi
      rw [List.getElem?_eq_getElem (by omega)] at h1
      obtain ⟨cs', h2, h3⟩ := Option.bind_eq_some_iff.1 h1
      obtain ⟨_, a', hk, hw⟩ := h.2 H enc w base spare held n cs' _ (by omega) h3 (fun m hm => by
        refine hz m ?_
        simp only [DataW.weights, ht, List.mem_cons, List.mem_append, weights_all]
        exact .inr (.inl ⟨_, List.mem_map.2 ⟨elems[i]'(by omega), List.getElem_mem _, rfl⟩, hm⟩))
      exact ⟨a', cs', h2, hk, hw⟩
    obtain ⟨f, hf⟩ : ∃ f : Fin len → T e, ∀ i : Fin len, ∃ cs', w.cells? base (a.add (i.1 * P.cellsOf e)) (P.cellsOf e) = some cs' ∧ RepVs C w (C.enc e (f i)) cs' ∧ wf (f i) :=
      ⟨fun i => Classical.choose (hall i.1 i.2), fun i => Classical.choose_spec (hall i.1 i.2)⟩
    obtain ⟨g, hg⟩ : ∃ g : Fin len → List Value, ∀ i : Fin len, w.cells? base (a.add (i.1 * P.cellsOf e)) (P.cellsOf e) = some (g i) ∧ RepVs C w (C.enc e (f i)) (g i) ∧ wf (f i) :=
      ⟨fun i => Classical.choose (hf i), fun i => Classical.choose_spec (hf i)⟩
    have hsz := h.1
    have hwf : WfL (P.bytesOf e) wf (List.ofFn f) := by
      refine ⟨?_, ?_, ?_⟩
      · have := hz ((elems.length + rest.length) * P.bytesOf e) (by simp [DataW.weights, ht])
        rw [List.length_ofFn]
        refine Nat.le_trans (Nat.mul_le_mul_right _ ?_) this
        omega
      · rw [List.length_ofFn]
        exact Nat.le_trans hl hm
      · intro b hb'
        obtain ⟨i, rfl⟩ := List.mem_ofFn.1 hb'
        exact (hg i).2.2
    refine ⟨some a, len, cap, List.ofFn f, rfl, ?_, hwf⟩
    by_cases h0 : len = 0
    · subst h0
      have : List.ofFn f = [] := List.ofFn_zero ..
      rw [this]; exact .sl0 e _ _
    · have hp := hC.pos e
      have hspot : a.spot = none := by
        obtain ⟨_, hlg, h5⟩ := World.cells?_some (hg ⟨0, by omega⟩).1
        have := h5 0 (by omega)
        have e0 : ∀ a : Addr, a.add 0 = a := fun a => by simp [Addr.add]
        simp only [Nat.zero_mul, e0] at this
        rw [List.getElem?_eq_getElem (by omega)] at this
        exact cell_spot this
      have hcell : ∀ (i : Nat) (hi : i < len) (j : Nat) (c : Value), (g ⟨i, hi⟩)[j]? = some c → CW w a.block (a.off + i * C.size e + j) c := by
        intro i hi j c hj
        obtain ⟨_, hlg, h5⟩ := World.cells?_some (hg ⟨i, hi⟩).1
        have hj' : j < P.cellsOf e := by
          have := (List.getElem?_eq_some_iff.1 hj).1
          omega
        have := h5 j hj'
        simp only [Deep.add_add] at this
        rw [addr_add hspot] at this
        rw [hsz]
        show w.cell? _ = some c
        rw [show a.off + i * P.cellsOf e + j = a.off + (i * P.cellsOf e + j) by omega, this]
        exact hj
      have hlenf : (List.ofFn f).length = len := List.length_ofFn ..
      have key : RepV C (CW w) (.sl e (List.ofFn f)) (.slice (some ⟨a.block, a.off, none⟩) (List.ofFn f).length cap) := by
        refine .sl e _ a.block a.off cap (fun i j => if hi : i < len then ((g ⟨i, hi⟩)[j]?).getD (.bool false) else .bool false) (by rw [hlenf]; exact hl) ?_ ?_
        · intro i hi j hj
          have hi' : i < len := by rw [hlenf] at hi; exact hi
          simp only [hi', dif_pos]
          obtain ⟨_, hr, _⟩ := hg ⟨i, hi'⟩
          have he : (List.ofFn f)[i] = f ⟨i, hi'⟩ := by simp
          rw [he] at hj
          have hjg : j < (g ⟨i, hi'⟩).length := by rw [← hr.1]; exact hj
          rw [List.getElem?_eq_getElem hjg]
          exact hcell i hi' j _ (List.getElem?_eq_getElem hjg)
        · intro i hi j hj
          have hi' : i < len := by rw [hlenf] at hi; exact hi
          simp only [hi', dif_pos]
          obtain ⟨_, hr, _⟩ := hg ⟨i, hi'⟩
          have he : (List.ofFn f)[i] = f ⟨i, hi'⟩ := by simp
          have hj2 : j < (C.enc e (f ⟨i, hi'⟩)).length := by rw [← he]; exact hj
          have hjg : j < (g ⟨i, hi'⟩).length := by rw [← hr.1]; exact hj2
          rw [List.getElem?_eq_getElem hjg]
          exact hr.2 j _ _ (by rw [List.getElem?_eq_getElem hj2]; simp [he]) (List.getElem?_eq_getElem hjg)
      rw [hlenf] at key
      have ha : a = ⟨a.block, a.off, none⟩ := by cases a; simp only at hspot; subst hspot; rfl
      rw [ha]; exact key
def RowF {α : Type} (C : Cdc T) (P : Program) (f : α → List (V T)) (sz : Nat) (fs : List Field) (off : Nat) (wf : α → Prop) (N : Nat) : Prop :=
  ∀ (H : Type) (enc : TypeId × Value → H) (w : World) (base : Nat) (spare : Nat → Bool) (held : Bool) (fuel : Nat) (cs : List Value) (xs : List (DataW H × List MemPlace)),
    fuel ≤ N → cs.length = off + sz → xs.length = fs.length →
    (∀ (i : Nat) (f : Field), fs[i]? = some f → DataW.trod enc P w base spare held fuel f.type ((cs.drop f.offset).take (P.cellsOf f.type)) = xs[i]?) →
    (∀ (i : Nat) (f : Field) (x : DataW H × List MemPlace), fs[i]? = some f → xs[i]? = some x → ∀ n ∈ x.1.weights P f.type, n ≤ reachBytes) →
    ∃ a, RepVs C w (f a) (cs.drop off) ∧ wf a
theorem RepVs.append {w : World} {a b : List (V T)} {x y : List Value} (h : RepVs C w a x) (k : RepVs C w b y) : RepVs C w (a ++ b) (x ++ y) := by
  refine ⟨by rw [List.length_append, List.length_append, h.1, k.1], fun j v c h1 h2 => ?_⟩
  by_cases hj : j < a.length
  · rw [List.getElem?_append_left hj] at h1
    rw [List.getElem?_append_left (by rw [← h.1]; exact hj)] at h2
    exact h.2 j v c h1 h2
  · rw [List.getElem?_append_right (by omega)] at h1
    rw [List.getElem?_append_right (by rw [← h.1]; omega), ← h.1] at h2
    exact k.2 _ v c h1 h2
theorem row_last {α : Type} {fa : α → List (V T)} {sz : Nat} {f : Field} {off : Nat} {wf : α → Prop} {N : Nat} (h : OpensF C P fa sz f.type wf N) (ho : f.offset = off) : RowF C P fa sz [f] off wf N := by
  intro H enc w base spare held fuel cs xs hN hl hx hr hz
  match xs, hx with
  | [x], _ =>
    have h1 := hr 0 f rfl
    obtain ⟨_, a, hk, hw⟩ := h.2 H enc w base spare held fuel _ x hN h1 (hz 0 f x rfl rfl)
    rw [ho, ← h.1, List.take_of_length_le (by rw [List.length_drop]; omega)] at hk
    exact ⟨a, hk, hw⟩
theorem row_cons {α β : Type} {fa : α → List (V T)} {fb : β → List (V T)} {sa sb : Nat} {f : Field} {fs : List Field} {off : Nat} {wa : α → Prop} {wb : β → Prop} {N : Nat} (h : OpensF C P fa sa f.type wa N) (ho : f.offset = off) (hr : RowF C P fb sb fs (off + sa) wb N) :
    RowF C P (fun x : α × β => fa x.1 ++ fb x.2) (sa + sb) (f :: fs) off (fun x => wa x.1 ∧ wb x.2) N := by
  intro H enc w base spare held fuel cs xs hN hl hx hrd hz
  match xs, hx with
  | x :: xs, hx =>
    have h1 := hrd 0 f rfl
    obtain ⟨_, y, hk, hw⟩ := h.2 H enc w base spare held fuel _ x hN h1 (hz 0 f x rfl rfl)
    rw [ho, ← h.1] at hk
    obtain ⟨z, hk2, hw2⟩ := hr H enc w base spare held fuel cs xs hN (by omega) (by simpa using hx) (fun i g hg => hrd (i + 1) g (by simpa using hg)) (fun i g y' hg hy => hz (i + 1) g y' (by simpa using hg) (by simpa using hy))
    refine ⟨(y, z), ?_, hw, hw2⟩
    have e : cs.drop off = (cs.drop off).take sa ++ cs.drop (off + sa) := by rw [← List.drop_drop, List.take_append_drop]
    rw [e]
    exact hk.append hk2
theorem RowF.iso {α β : Type} {fa : α → List (V T)} {sz : Nat} {fs : List Field} {off : Nat} {wf : α → Prop} {N : Nat} (h : RowF C P fa sz fs off wf N) (f : β → α) (g : α → β) (hg : ∀ x, f (g x) = x) : RowF C P (fun y => fa (f y)) sz fs off (fun y => wf (f y)) N := by
  intro H enc w base spare held fuel cs xs hN hl hx hr hz
  obtain ⟨a, hk, hw⟩ := h H enc w base spare held fuel cs xs hN hl hx hr hz
  exact ⟨g a, by show RepVs C w (fa (f (g a))) _; rw [hg]; exact hk, by show wf (f (g a)); rw [hg]; exact hw⟩
theorem weights_each {H : Type} : ∀ {ts : List TypeId} {ds : List (DataW H)} {i : Nat} {t : TypeId} {d : DataW H}, ts[i]? = some t → ds[i]? = some d → ∀ n ∈ d.weights P t, n ∈ DataW.weightsEach P ts ds :=
  fun ht hd n hn => DataW.weights_mem_each ht hd n hn
theorem opens_struct {α : Type} {fa : α → List (V T)} {sz : Nat} {t : TypeId} {fs : Array Field} {wf : α → Prop} {N : Nat} (ht : P.underlying t = some (.struct fs)) (hc : P.cellsOf t = sz) (h : RowF C P fa sz fs.toList 0 wf N) : OpensF C P fa sz t wf (N + 1) :=
  ⟨hc.symm, fun H enc w base spare held fuel cs x hN hx hz => by
    obtain ⟨xs, n, hf, rfl, hl, hlx, hr⟩ := DataW.trod_struct ht hx
    obtain ⟨a, hk, hw⟩ := h H enc w base spare held n cs xs (by omega) (by rw [Nat.zero_add]; omega) (by simpa using hlx) (fun i f hf' => hr i f (by simpa using hf')) (fun i f x hf' hx' m hm => by
      refine hz m ?_
      simp only [DataW.weights, ht]
      exact weights_each (i := i) (t := f.type) (d := x.1) (by rw [List.getElem?_map, hf']; rfl) (by rw [List.getElem?_map, hx']; rfl) m hm)
    rw [List.drop_zero] at hk
    exact ⟨by omega, a, hk, hw⟩⟩

theorem param_slice {t e : TypeId} {wf : T e → Prop} (hC : CdcOk C) (ht : P.underlying t = some (.slice e)) (h : ∀ N, OpensF C P (C.enc e) (C.size e) e wf N)
    {H : Type} {enc : TypeId × Value → H} {w : World} {base : Nat} {spare : Nat → Bool} {held : Bool} {v : Value} {x : DataW H} {ps : List MemPlace} {r : Reach} {b0 : Nat} (hv : Value.okWide P w r b0 t v)
    {ts : List TypeId} {ds : List (DataW H)} {j : Nat} (hsz : (DataW.weightsEach P ts ds).all (· ≤ reachBytes) = true) (hj : ts[j]? = some t) (hd : ds[j]? = some x) (hx : DataW.Trod enc P w base spare held t v x ps) :
    ∃ (l : List (T e)), RepV C (CW w) (.sl e l) v ∧ WfL (P.bytesOf e) wf l := by
  obtain ⟨fuel, hf⟩ := hx
  obtain ⟨a, len, cap, rfl⟩ := okWide_slice ht hv
  obtain ⟨A, n, c, l, he, hr, hw⟩ := slice_open hC ht (h fuel) (by omega) hf (fun n hn => by simpa using List.all_eq_true.1 hsz _ (DataW.weights_mem_each hj hd n hn))
  simp only [Value.cells] at he
  injection he with he
  rw [he]
  exact ⟨l, hr, hw⟩
/-- As the run has it: nothing is its own yet. -/
theorem repV_start {w : World} {v : V T} {y : Value} (h : RepV C (CW w) v y) : RepV C (Cell C ⟨fun _ => none, fun _ _ => False⟩ ([] : List (AObj T)) w) v y :=
  h.mono fun b off x hc => ⟨⟨fun h => h, fun i o hi => by simp at hi⟩, hc⟩
end Go.Proofs.YtfoeekaanngoiaaDoor.Ev

