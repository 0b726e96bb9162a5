/- Regions that draw their order, code, ranges over functions and calls are sound. (The same text serves every seat.) -/
import Derived.Test.YtfffnkeogijkkaaGreatDb
import Derived.OrdersIn
import Derived.LoopNIn
import Derived.RangeFuncLeaves
set_option linter.unusedVariables false
set_option linter.unusedSimpArgs false
set_option linter.unusedSectionVars false
set_option linter.constructorNameAsVariable false
namespace Den
open Go

theorem eqv_eq {x : V} : ∀ {y : V}, V.eqv x y = true → x = y := by
  induction x with
  | b a => intro y h; cases y <;> first | (cases h; done) | skip
           rename_i c; have : (a == c) = true := h; rw [eq_of_beq this]
  | i k n => intro y h; cases y <;> first | (cases h; done) | skip
             rename_i k' n'
             have h' : and (Nat.beq (kb k) (kb k')) (ieqb n n') = true := h
             rw [Bool.and_eq_true] at h'
             have e1 := kb_eq h'.1
             have e2 : n = n' := by have := h'.2; rw [ieqb_eq] at this; exact eq_of_beq this
             rw [e1, e2]
  | s a => intro y h; cases y <;> first | (cases h; done) | skip
           rename_i c; have : (a == c) = true := h; rw [eq_of_beq this]
  | p0 => intro y h; cases y <;> first | (cases h; done) | rfl
  | p b o => intro y h; cases y <;> first | (cases h; done) | skip
             rename_i b' o'
             have h' : and (Pos.beq b b') (Nat.beq o o') = true := h
             rw [Bool.and_eq_true] at h'
             rw [Pos.beq_eq h'.1, Nat.eq_of_beq_eq_true h'.2]
  | s0 => intro y h; cases y <;> first | (cases h; done) | rfl
  | sl b o n c q => intro y h; cases y <;> first | (cases h; done) | skip
                    rename_i b' o' n' c' q'
                    have h' : and (Pos.beq b b') (and (Nat.beq o o') (and (Nat.beq n n') (and (Nat.beq c c') (q == q')))) = true := h
                    simp only [Bool.and_eq_true] at h'
                    rw [Pos.beq_eq h'.1, Nat.eq_of_beq_eq_true h'.2.1, Nat.eq_of_beq_eq_true h'.2.2.1, Nat.eq_of_beq_eq_true h'.2.2.2.1, eq_of_beq h'.2.2.2.2]
  | m0 => intro y h; cases y <;> first | (cases h; done) | rfl
  | m r => intro y h; cases y <;> first | (cases h; done) | skip
           rename_i r'
           have h' : Pos.beq r r' = true := h
           rw [Pos.beq_eq h']
  | f fn a b iha ihb => intro y h; cases y <;> first | (cases h; done) | skip
                        rename_i f' a' b'
                        have h' : and (Pos.beq fn f') (and (V.eqv a a') (V.eqv b b')) = true := h
                        simp only [Bool.and_eq_true] at h'
                        rw [Pos.beq_eq h'.1, iha h'.2.1, ihb h'.2.2]
  | y l => intro y h; cases h
  | f0 => intro y h; cases y <;> first | (cases h; done) | rfl
  | it t v ih => intro y h; cases y <;> first | (cases h; done) | skip
                 rename_i t' v'
                 have h' : and (Nat.beq t t') (V.eqv v v') = true := h
                 rw [Bool.and_eq_true] at h'
                 rw [Nat.eq_of_beq_eq_true h'.1, ih h'.2]
  | i0 => intro y h; cases y <;> first | (cases h; done) | rfl
  | ag v ih => intro y h; cases y <;> first | (cases h; done) | skip
               rename_i v'
               rw [ih (show V.eqv v v' = true from h)]
  | tu v ih => intro y h; cases y <;> first | (cases h; done) | skip
               rename_i v'
               rw [ih (show V.eqv v v' = true from h)]
  | nl => intro y h; cases y <;> first | (cases h; done) | rfl
  | co a b iha ihb => intro y h; cases y <;> first | (cases h; done) | skip
                      rename_i a' b'
                      have h' : and (V.eqv a a') (V.eqv b b') = true := h
                      simp only [Bool.and_eq_true] at h'
                      rw [iha h'.1, ihb h'.2]
theorem nm_eq : ∀ p : Pos, p.nm = p.num
  | .h => rfl
  | .o p => by show 2 * p.nm + 1 = _; rw [nm_eq p]; rfl
  | .i p => by show 2 * p.nm + 2 = _; rw [nm_eq p]; rfl
theorem size_eq (σ : St) : σ.size = σ.nx.num := by cases σ; exact nm_eq _
theorem same_ok {call : Cl} {o : AOp} {tm : T V} {v : V} {σ : St} (h : same call o tm v σ = true) : ∃ σ', op o call tm σ = .ok v σ' := by
  unfold same at h
  cases hr : op o call tm σ with
  | no => rw [hr] at h; cases h
  | ok v' σ' => rw [hr] at h; rw [eqv_eq (show V.eqv v v' = true from h)]; exact ⟨σ', rfl⟩

/-! the run of a region, in the order of the text -/
def DOper.ao : DOper → AOper
  | .q o => o
  | .ld o _ _ => o
  | .ef _ o => o
abbrev okS : OpsS := fun tm st => .ok tm st
theorem doMk_bnd (call : Cl) (d : Option Pos) (o : AOp) (k : OpsS) (tm : T V) (st : St) : doMk call d o k tm st = (doMk call d o okS tm st).bnd .no k := by
  unfold doMk
  cases op o call tm st <;> rfl
theorem doOper_bnd (call : Cl) (o : AOper) (k : OpsS) (tm : T V) (st : St) : doOper call o k tm st = (doOper call o okS tm st).bnd .no k := by
  cases o with
  | mk d o => exact doMk_bnd ..
  | gd g t d o =>
    show cond _ (doMk call d o k tm st) (k (tset tm d un) st) = RO.bnd (cond _ (doMk call d o okS tm st) (okS (tset tm d un) st)) .no k
    rw [doMk_bnd call d o k]
    cases (tg tm g).onB false (fun x => x == t) <;> rfl
  | df id f =>
    show doDf id f k tm st = (doDf id f okS tm st).bnd .no k
    unfold doDf
    cases ev tm f <;> try rfl
    rename_i g _ _
    show cond (Pos.beq g id) (k tm st) RO.no = RO.bnd (cond (Pos.beq g id) (okS tm st) RO.no) .no k
    cases Pos.beq g id <;> rfl
theorem ro_ok {r : RO} {k : T V → St → RO} {tm : T V} {st : St} (h : r.bnd .no k = .ok tm st) : ∃ tm1 st1, r = .ok tm1 st1 ∧ k tm1 st1 = .ok tm st := by
  cases r with
  | no => cases h
  | ok a b => exact ⟨a, b, rfl, h⟩
/-- the temporaries and the state ahead of number i. -/
noncomputable def tr (call : Cl) : List DOper → T V → St → Nat → T V × St
  | _, tm, st, 0 => (tm, st)
  | [], tm, st, _ + 1 => (tm, st)
  | d :: l, tm, st, n + 1 => match doOper call d.ao okS tm st with
    | .ok tm2 st2 => tr call l tm2 st2 n
    | .no => (tm, st)
/-- a reading that is carried out tells the same on another state. -/
def LdSame (call : Cl) (o : AOper) (tm : T V) (st st' : St) : Prop :=
  match o with
  | .mk _ a => ∃ v st1, op a call tm st = .ok v st1 ∧ same call a tm v st' = true
  | .gd g w _ a => (tg tm g).onB false (fun t => t == w) = true → ∃ v st1, op a call tm st = .ok v st1 ∧ same call a tm v st' = true
  | .df .. => True
structure Trace (call : Cl) (ds : List DOper) (tm : T V) (st : St) (h : Hs) (ws : List Wt) (tm' : T V) (st' : St) : Prop where
  last : tr call ds tm st ds.length = (tm', st')
  step : ∀ i d, ds[i]? = some d → doOper call d.ao okS (tr call ds tm st i).1 (tr call ds tm st i).2 = .ok (tr call ds tm st (i + 1)).1 (tr call ds tm st (i + 1)).2
  mono : ∀ i n o, ds[i]? = some (.ef n o) → (tr call ds tm st i).2.nx.num ≤ (tr call ds tm st (i + 1)).2.nx.num
  old : ∀ i o lo hi, ds[i]? = some (.ld o lo hi) → ∀ p ∈ h, lo ≤ p.1 → LdSame call o (tr call ds tm st i).1 (tr call ds tm st i).2 p.2
  back : ∀ i o lo hi, ds[i]? = some (.ld o lo hi) → ∀ e n oe, e < i → ds[e]? = some (.ef n oe) → lo ≤ n → LdSame call o (tr call ds tm st i).1 (tr call ds tm st i).2 (tr call ds tm st e).2
  wait : ∀ hi o tmw v, Wt.mk hi o tmw v ∈ ws → ∀ e n oe, ds[e]? = some (.ef n oe) → n ≤ hi → same call o tmw v (tr call ds tm st (e + 1)).2 = true
  fwd : ∀ i o lo hi, ds[i]? = some (.ld o lo hi) → ∀ e n oe, i < e → ds[e]? = some (.ef n oe) → n ≤ hi → LdSame call o (tr call ds tm st i).1 (tr call ds tm st i).2 (tr call ds tm st (e + 1)).2

theorem back_all {call : Cl} {o : AOp} {tm : T V} {v : V} {lo : Nat} {h : Hs} (hb : backOk call o tm v lo h = true) : ∀ p ∈ h, lo ≤ p.1 → same call o tm v p.2 = true := by
  induction h with
  | nil => simp
  | cons q l ih =>
    have hb' : and (cond (Nat.ble lo q.1) (same call o tm v q.2) true) (backOk call o tm v lo l) = true := hb
    rw [Bool.and_eq_true] at hb'
    intro p hp hl
    rcases List.mem_cons.1 hp with e | e
    · subst e
      have := hb'.1
      rw [show Nat.ble lo p.1 = true from by simpa using hl] at this
      exact this
    · exact ih hb'.2 p e hl
theorem wait_all {call : Cl} {e : Nat} {st : St} {l : List Wt} (hb : waitOk call e st l = true) : ∀ hi o tm v, Wt.mk hi o tm v ∈ l → e ≤ hi → same call o tm v st = true := by
  induction l with
  | nil => simp
  | cons q l ih =>
    cases q with
    | mk hi0 o0 tm0 v0 =>
      have hb' : and (cond (Nat.ble e hi0) (same call o0 tm0 v0 st) true) (waitOk call e st l) = true := hb
      rw [Bool.and_eq_true] at hb'
      intro hi o tm v hp hl
      rcases List.mem_cons.1 hp with x | x
      · cases x
        have := hb'.1
        rw [show Nat.ble e hi0 = true from by simpa using hl] at this
        exact this
      · exact ih hb'.2 hi o tm v x hl

theorem Trace.cons {call : Cl} {d : DOper} {l : List DOper} {tm tm2 tm' : T V} {st st2 st' : St} {h h2 : Hs} {ws ws2 : List Wt} (hd : doOper call d.ao okS tm st = .ok tm2 st2)
    (t : Trace call l tm2 st2 h2 ws2 tm' st') (hmono : ∀ n o, d = .ef n o → st.nx.num ≤ st2.nx.num) (hh : ∀ p ∈ h, p ∈ h2) (hw : ∀ x ∈ ws, x ∈ ws2)
    (hold : ∀ o lo hi, d = .ld o lo hi → ∀ p ∈ h, lo ≤ p.1 → LdSame call o tm st p.2)
    (hef : ∀ n o, d = .ef n o → (n, st) ∈ h2 ∧ ∀ hi o tmw v, Wt.mk hi o tmw v ∈ ws → n ≤ hi → same call o tmw v st2 = true)
    (hld : ∀ o lo hi, d = .ld o lo hi → (∀ o' v, (o = .mk o' v ∨ ∃ g w, o = .gd g w o' v ∧ (tg tm g).onB false (fun t => t == w) = true) → ∃ u, (∃ st1, op v call tm st = .ok u st1) ∧ Wt.mk hi v tm u ∈ ws2)) :
    Trace call (d :: l) tm st h ws tm' st' := by
  have htr : ∀ n, tr call (d :: l) tm st (n + 1) = tr call l tm2 st2 n := fun n => by simp only [tr, hd]
  have h0 : tr call (d :: l) tm st 0 = (tm, st) := rfl
  have h1 : tr call (d :: l) tm st 1 = (tm2, st2) := by rw [htr 0]; cases l <;> rfl
  refine ⟨by rw [List.length_cons, htr]; exact t.last, fun i d' hi => ?_, fun i n o hi => ?_, fun i o lo hi hi' p hp hl => ?_, fun i o lo hi hi' e n oe hlt he hl => ?_, fun hi o tmw v hm e n oe he hl => ?_, fun i o lo hi hi' e n oe hlt he hl => ?_⟩
  · cases i with
    | zero => cases hi; rw [h0, h1]; exact hd
    | succ i => rw [htr, htr]; exact t.step i d' hi
  · cases i with
    | zero => cases hi; rw [h0, h1]; exact hmono n o rfl
    | succ i => rw [htr, htr]; exact t.mono i n o hi
  · cases i with
    | zero => cases hi'; rw [h0]; exact hold o lo hi rfl p hp hl
    | succ i => rw [htr]; exact t.old i o lo hi hi' p (hh p hp) hl
  · cases i with
    | zero => omega
    | succ i =>
      cases e with
      | zero => cases he; rw [h0, htr]; exact t.old i o lo hi hi' (n, st) (hef n oe rfl).1 hl
      | succ e => rw [htr, htr]; exact t.back i o lo hi hi' e n oe (by omega) he hl
  · cases e with
    | zero => cases he; rw [h1]; exact (hef n oe rfl).2 hi o tmw v hm hl
    | succ e => rw [htr]; exact t.wait hi o tmw v (hw _ hm) e n oe he hl
  · cases e with
    | zero => omega
    | succ e =>
      cases i with
      | succ i => rw [htr, htr]; exact t.fwd i o lo hi hi' e n oe (by omega) he hl
      | zero =>
        have hd' : d = .ld o lo hi := by simpa using hi'
        rw [h0, htr]
        have key := hld o lo hi hd'
        cases o with
        | mk d0 a =>
          obtain ⟨u, ⟨st1, k1⟩, k2⟩ := key d0 a (.inl rfl)
          exact ⟨u, st1, k1, t.wait hi a tm u k2 e n oe he hl⟩
        | gd g w d0 a =>
          intro hg
          obtain ⟨u, ⟨st1, k1⟩, k2⟩ := key d0 a (.inr ⟨g, w, rfl, hg⟩)
          exact ⟨u, st1, k1, t.wait hi a tm u k2 e n oe he hl⟩
        | df _ _ => trivial

theorem opsD_trace {call : Cl} : ∀ {ds : List DOper} {h : Hs} {ws : List Wt} {tm tm' : T V} {st st' : St}, opsD call ds h ws tm st = .ok tm' st' → Trace call ds tm st h ws tm' st'
  | [], h, ws, tm, tm', st, st', e => by
    cases e
    exact ⟨rfl, by simp, by simp, by simp, by simp, by simp, by simp⟩
  | .q o :: l, h, ws, tm, tm', st, st', e => by
    change doOper call o (fun tm st => opsD call l h ws tm st) tm st = _ at e
    rw [doOper_bnd] at e
    obtain ⟨tm2, st2, e1, e2⟩ := ro_ok e
    exact Trace.cons (d := .q o) e1 (opsD_trace e2) (fun n o' hx => by cases hx) (fun _ h => h) (fun _ h => h) (fun o' lo hi hx => by cases hx) (fun n o' hx => by cases hx) (fun o' lo hi hx => by cases hx)
  | .ef i o :: l, h, ws, tm, tm', st, st', e => by
    change doOper call o (fun tm' st' => cond (and (Nat.ble st.size st'.size) (waitOk call i st' ws)) (opsD call l ((i, st) :: h) ws tm' st') .no) tm st = _ at e
    rw [doOper_bnd] at e
    obtain ⟨tm2, st2, e1, e2⟩ := ro_ok e
    cases hc : and (Nat.ble st.size st2.size) (waitOk call i st2 ws) with
    | false => rw [hc] at e2; cases e2
    | true =>
      rw [hc] at e2
      rw [Bool.and_eq_true] at hc
      refine Trace.cons (d := .ef i o) e1 (opsD_trace e2) (fun n o' hx => ?_) (fun p hp => by simp [hp]) (fun _ h => h) (fun o lo hi hx => by cases hx) (fun n o' hx => ?_) (fun o lo hi hx => by cases hx)
      · have := hc.1; rw [size_eq, size_eq] at this; simpa using this
      · cases hx
        exact ⟨by simp, fun hi o tmw v hm hl => wait_all hc.2 hi o tmw v hm hl⟩
  | .ld (.mk d0 a) lo hi :: l, h, ws, tm, tm', st, st', e => by
    change ldMk call d0 a lo hi (opsD call l) h ws tm st = _ at e
    unfold ldMk at e
    cases ho : op a call tm st with
    | no => rw [ho] at e; cases e
    | ok v st2 =>
      rw [ho] at e
      change cond (backOk call a tm v lo h) (opsD call l h (.mk hi a tm v :: ws) (tset tm d0 v) st2) .no = _ at e
      cases hb : backOk call a tm v lo h with
      | false => rw [hb] at e; cases e
      | true =>
        rw [hb] at e
        have hd : doOper call (.mk d0 a) okS tm st = .ok (tset tm d0 v) st2 := by
          show doMk call d0 a okS tm st = _
          unfold doMk; rw [ho]; rfl
        refine Trace.cons (d := .ld (.mk d0 a) lo hi) hd (opsD_trace (show opsD call l h (.mk hi a tm v :: ws) (tset tm d0 v) st2 = _ from e)) (fun n o hx => by cases hx) (fun _ h => h) (fun x hx => by simp [hx]) (fun o lo' hi' hx p hp hl => ?_) (fun n o hx => by cases hx) (fun o lo' hi' hx o' v' hor => ?_)
        · cases hx
          exact ⟨v, st2, ho, back_all hb p hp hl⟩
        · cases hx
          rcases hor with hx | ⟨g, w, hx, _⟩
          · cases hx; exact ⟨v, ⟨st2, ho⟩, by simp⟩
          · cases hx
  | .ld (.gd g w d0 a) lo hi :: l, h, ws, tm, tm', st, st', e => by
    change cond ((tg tm g).onB false (fun t => t == w)) (ldMk call d0 a lo hi (opsD call l) h ws tm st) (opsD call l h ws (tset tm d0 un) st) = _ at e
    cases hg : (tg tm g).onB false (fun t => t == w) with
    | false =>
      rw [hg] at e
      have hd : doOper call (.gd g w d0 a) okS tm st = .ok (tset tm d0 un) st := by
        show cond ((tg tm g).onB false (fun t => t == w)) _ _ = _
        rw [hg]; rfl
      refine Trace.cons (d := .ld (.gd g w d0 a) lo hi) hd (opsD_trace (show opsD call l h ws (tset tm d0 un) st = _ from e)) (fun n o hx => by cases hx) (fun _ h => h) (fun _ h => h) (fun o lo' hi' hx p hp hl => ?_) (fun n o hx => by cases hx) (fun o lo' hi' hx o' v' hor => ?_)
      · cases hx
        intro hg'; rw [hg] at hg'; cases hg'
      · cases hx
        rcases hor with hx | ⟨g, w, hx, hg'⟩
        · cases hx
        · cases hx; rw [hg] at hg'; cases hg'
    | true =>
      rw [hg] at e
      change ldMk call d0 a lo hi (opsD call l) h ws tm st = _ at e
      unfold ldMk at e
      cases ho : op a call tm st with
      | no => rw [ho] at e; cases e
      | ok v st2 =>
        rw [ho] at e
        change cond (backOk call a tm v lo h) (opsD call l h (.mk hi a tm v :: ws) (tset tm d0 v) st2) .no = _ at e
        cases hb : backOk call a tm v lo h with
        | false => rw [hb] at e; cases e
        | true =>
          rw [hb] at e
          have hd : doOper call (.gd g w d0 a) okS tm st = .ok (tset tm d0 v) st2 := by
            show cond ((tg tm g).onB false (fun t => t == w)) (doMk call d0 a okS tm st) _ = _
            rw [hg]
            show doMk call d0 a okS tm st = _
            unfold doMk; rw [ho]; rfl
          refine Trace.cons (d := .ld (.gd g w d0 a) lo hi) hd (opsD_trace (show opsD call l h (.mk hi a tm v :: ws) (tset tm d0 v) st2 = _ from e)) (fun n o hx => by cases hx) (fun _ h => h) (fun x hx => by simp [hx]) (fun o lo' hi' hx p hp hl => ?_) (fun n o hx => by cases hx) (fun o lo' hi' hx o' v' hor => ?_)
          · cases hx
            exact fun _ => ⟨v, st2, ho, back_all hb p hp hl⟩
          · cases hx
            rcases hor with hx | ⟨g', w', hx, _⟩
            · cases hx
            · cases hx; exact ⟨v, ⟨st2, ho⟩, by simp⟩
  | .ld (.df a b) lo hi :: l, h, ws, tm, tm', st, st', e => by cases e
end Den

namespace Den
open Go

/-- a run that leaves the state. -/
def Kp (σ : St) (r : R) : Prop := ∀ v σ', r = .ok v σ' → σ' = σ
section
variable {σ : St}
theorem Kp.no : Kp σ .no := fun _ _ h => by cases h
theorem Kp.ok (v : V) : Kp σ (.ok v σ) := fun _ _ h => by cases h; rfl
theorem Kp.okv (v : V) : Kp σ (okv σ v) := Kp.ok v
theorem Kp.cond {c : Bool} {a b : R} (ha : Kp σ a) (hb : Kp σ b) : Kp σ (cond c a b) := by cases c <;> assumption
theorem Kp.onB {v : V} {k : Bool → R} (h : ∀ x, Kp σ (k x)) : Kp σ (v.onB .no k) := by cases v <;> first | exact h _ | exact Kp.no
theorem Kp.onI {v : V} {k : IntKind → Int → R} (h : ∀ x y, Kp σ (k x y)) : Kp σ (v.onI .no k) := by cases v <;> first | exact h _ _ | exact Kp.no
theorem Kp.onN {v : V} {k : Nat → R} (h : ∀ x, Kp σ (k x)) : Kp σ (v.onN .no k) := Kp.onI fun _ n => by cases n <;> first | exact h _ | exact Kp.no
theorem Kp.onS {v : V} {k : List UInt8 → R} (h : ∀ x, Kp σ (k x)) : Kp σ (v.onS .no k) := by cases v <;> first | exact h _ | exact Kp.no
theorem Kp.onP {v : V} {k : Pos → Nat → R} (h : ∀ x y, Kp σ (k x y)) : Kp σ (v.onP .no k) := by cases v <;> first | exact h _ _ | exact Kp.no
theorem Kp.onSl {v : V} {z : R} {k : Pos → Nat → Nat → Nat → Bool → R} (hz : Kp σ z) (h : ∀ a b c d e, Kp σ (k a b c d e)) : Kp σ (v.onSl .no z k) := by cases v <;> first | exact h _ _ _ _ _ | exact hz | exact Kp.no
theorem Kp.onM {v : V} {z : R} {k : Pos → R} (hz : Kp σ z) (h : ∀ a, Kp σ (k a)) : Kp σ (v.onM .no z k) := by cases v <;> first | exact h _ | exact hz | exact Kp.no
theorem Kp.onAg {v : V} {k : V → R} (h : ∀ a, Kp σ (k a)) : Kp σ (v.onAg .no k) := by cases v <;> first | exact h _ | exact Kp.no
theorem Kp.onTu {v : V} {k : V → R} (h : ∀ a, Kp σ (k a)) : Kp σ (v.onTu .no k) := by cases v <;> first | exact h _ | exact Kp.no
theorem Kp.onNil {v : V} {y n : R} (hy : Kp σ y) (hn : Kp σ n) : Kp σ (v.onNil .no y n) := by cases v <;> first | exact hy | exact hn | exact Kp.no
theorem Kp.row {b : Pos} {k : List V → Nat → R} (h : ∀ x y, Kp σ (k x y)) : Kp σ (σ.row b .no k) := fun v σ' e => by
  obtain ⟨cs, t, _, e2⟩ := St.row_ok e
  exact h _ _ _ _ e2
theorem Kp.onMap {o : Obj} {k : List (V × V × Nat) → Nat → R} (h : ∀ x y, Kp σ (k x y)) : Kp σ (o.onMap .no k) := by cases o <;> first | exact h _ _ | exact Kp.no
theorem Kp.ol {o : OL} {k : List V → R} (h : ∀ x, Kp σ (k x)) : Kp σ (o.bnd .no k) := by cases o <;> first | exact h _ | exact Kp.no
theorem Kp.getAt {l : List V} {n : Nat} {k : V → R} (h : ∀ x, Kp σ (k x)) : Kp σ (Den.getAt l n .no k) := fun v σ' e => by
  obtain ⟨x, _, e2⟩ := getAt_ok e
  exact h _ _ _ e2
theorem Kp.byteAt {l : List UInt8} {n : Nat} : Kp σ (Den.byteAt l n σ) := fun v σ' e => by
  obtain ⟨_, _, _, e2⟩ := byteAt_ok e
  exact e2
theorem Kp.args1 {l : V} {k : V → R} (h : ∀ x, Kp σ (k x)) : Kp σ (Den.args1 l k) := by
  show Kp σ (List.rec (motive := fun _ => R) .no (fun x _ _ => k x) l.lst)
  cases l.lst <;> first | exact h _ | exact Kp.no
theorem Kp.o3 {o : O3} {k : Nat → Nat → Nat → R} (h : ∀ x y z, Kp σ (k x y z)) : Kp σ (o.bnd k) := by cases o <;> first | exact h _ _ _ | exact Kp.no
theorem Kp.b3 {b : B3} {neg : Bool} : Kp σ (b.r neg σ) := by cases b <;> first | exact Kp.no | exact Kp.ok _
theorem Kp.bin {op : BinOp} {x y : V} : Kp σ (Den.bin op x y σ) := by
  refine Kp.onI fun k a => Kp.onI fun k' b => ?_
  refine Kp.cond (Kp.cond ?_ Kp.no) (Kp.cond Kp.no (Kp.ok _))
  cases op <;> first | exact Kp.ok _ | exact Kp.no | exact Kp.cond Kp.no (Kp.ok _)

theorem still_st {ao : AOp} (hc : ao.cls = .q ∨ ao.cls = .ld) (call : Cl) (tm : T V) : Kp σ (op ao call tm σ) := by
  cases ao with
  | mv x => exact Kp.ok _
  | pick c a b => exact Kp.onB fun _ => Kp.ok _
  | build z ps => exact Kp.ol fun _ => Kp.ok _
  | load a => exact Kp.onP fun _ _ => Kp.row fun _ _ => Kp.getAt fun _ => Kp.ok _
  | loadA n a => exact Kp.onP fun _ _ => Kp.row fun _ _ => Kp.ol fun _ => Kp.ok _
  | nilc x =>
    show Kp σ ((ev tm x).onNil (.ok (ev tm x) σ) .no (.ok (ev tm x) σ))
    generalize ev tm x = y
    cases y <;> first | exact Kp.no | exact Kp.ok _
  | bin b x y => exact Kp.bin
  | eqb n x y => exact Kp.onB fun _ => Kp.onB fun _ => Kp.ok _
  | eqs n x y => exact Kp.onS fun _ => Kp.onS fun _ => Kp.ok _
  | eqn n m x y => exact Kp.cond (Kp.cond (Kp.ok _) (Kp.cond (Kp.ok _) Kp.no)) (Kp.cond (Kp.cond (Kp.ok _) Kp.no) Kp.no)
  | eqa n m x y => exact Kp.onAg fun _ => Kp.onAg fun _ => Kp.cond Kp.b3 Kp.no
  | not x => exact Kp.onB fun _ => Kp.ok _
  | neg x => exact Kp.onI fun _ _ => Kp.ok _
  | com x => exact Kp.onI fun _ _ => Kp.ok _
  | conv k x => exact Kp.onI fun _ _ => Kp.ok _
  | mkf f a b => exact Kp.ok _
  | sliceS e x l h m => exact Kp.onSl (Kp.o3 fun _ _ _ => Kp.ok _) fun _ _ _ _ _ => Kp.o3 fun _ _ _ => Kp.ok _
  | sliceA e n x l h m => exact Kp.onP fun _ _ => Kp.o3 fun _ _ _ => Kp.ok _
  | fieldA o x => exact Kp.onP fun _ _ => Kp.ok _
  | field o x => exact Kp.onAg fun _ => Kp.getAt fun _ => Kp.ok _
  | fieldG o n x => exact Kp.onAg fun _ => Kp.ol fun _ => Kp.ok _
  | idxA e n x i => exact Kp.onN fun _ => Kp.cond (Kp.onP fun _ _ => Kp.ok _) Kp.no
  | idxS e x i => exact Kp.onN fun _ => Kp.onSl Kp.no fun _ _ _ _ _ => Kp.cond (Kp.ok _) Kp.no
  | idxV e n a x i => exact Kp.onN fun _ => Kp.cond (Kp.onAg fun _ => Kp.cond (Kp.ol fun _ => Kp.ok _) (Kp.getAt fun _ => Kp.ok _)) Kp.no
  | idxC x i => exact Kp.onN fun _ => Kp.onS fun _ => Kp.byteAt
  | lookup z ok x k =>
    show Kp σ (OE.rec (motive := fun _ => R) .no (okv σ _) (fun v => okv σ _) _)
    generalize (ev tm x).onM OE.no OE.nf _ = oe
    cases oe <;> first | exact Kp.no | exact Kp.ok _
  | ext x i => exact Kp.onTu fun _ => Kp.getAt fun _ => Kp.ok _
  | s2a n x => exact Kp.onSl Kp.no fun _ _ _ _ _ => Kp.cond (Kp.ok _) Kp.no
  | bi b xs =>
    cases b with
    | len => exact Kp.args1 fun _ => Kp.onSl (Kp.ok _) fun _ _ _ _ _ => Kp.ok _
    | lenM => exact Kp.args1 fun _ => Kp.onM (Kp.ok _) fun _ => Kp.onMap fun _ _ => Kp.ok _
    | cap => exact Kp.args1 fun _ => Kp.onSl (Kp.ok _) fun _ _ _ _ _ => Kp.row fun _ _ => Kp.cond Kp.no (Kp.ok _)
    | _ => exact absurd hc (by rintro (e | e) <;> cases e)
  | _ => exact absurd hc (by rintro (e | e) <;> cases e)
theorem al_st {ao : AOp} (hc : ao.cls = .al) {call : Cl} {tm : T V} {v : V} {σ' : St} (h : op ao call tm σ = .ok v σ') : ∃ ob, σ' = σ.add ob := by
  cases ao with
  | alloc z => have h : oAlloc z call tm σ = _ := h; unfold oAlloc at h; rw [St.new_eq] at h; cases h; exact ⟨_, rfl⟩
  | box n x => have h : oBox n x call tm σ = _ := h; unfold oBox at h; rw [St.new_eq] at h; cases h; exact ⟨_, rfl⟩
  | buildS e z n ps => obtain ⟨_, _, h⟩ := ol_ok h; rw [St.new_eq] at h; cases h; exact ⟨_, rfl⟩
  | mkm => have h : oMkm call tm σ = _ := h; unfold oMkm at h; rw [St.new_eq] at h; cases h; exact ⟨_, rfl⟩
  | mks b z l c =>
    obtain ⟨_, _, _, h⟩ := onN_ok (v := ev tm l) h
    obtain ⟨_, _, _, h⟩ := onN_ok (v := ev tm c) h
    obtain ⟨_, h⟩ := cond_ok h
    rw [St.new_eq] at h; cases h; exact ⟨_, rfl⟩
  | bi b xs => cases b <;> cases hc
  | _ => cases hc
end

/-! what may come before what: read off the edges -/
def maskOf (acc : List Nat) : List Edge → Nat
  | [] => 0
  | e :: l => if Region.binds .any e then (2 ^ e.on ||| acc.getD e.on 0) ||| maskOf acc l else maskOf acc l
def befs : List Oper → List Nat → List Nat
  | [], acc => acc
  | o :: l, acc => befs l (acc ++ [maskOf acc o.after.toList])
def isBef (ms : List Nat) (i j : Nat) : Bool := (ms.getD j 0).testBit i

theorem mask_ok {L : Nat → Prop} {acc : List Nat} (hacc : ∀ k, L k → ∀ i, (acc.getD k 0).testBit i = true → L i) : ∀ {es : List Edge}, (∀ e ∈ es, Region.binds .any e = true → L e.on) → ∀ i, (maskOf acc es).testBit i = true → L i
  | [], _, i, h => by simp [maskOf] at h
  | e :: es, he, i, h => by
    simp only [maskOf] at h
    by_cases hb : Region.binds .any e = true
    · rw [if_pos hb] at h
      simp only [Nat.testBit_or, Bool.or_eq_true] at h
      have hL := he e (by simp) hb
      rcases h with (h | h) | h
      · rw [Nat.testBit_two_pow] at h
        have : e.on = i := by simpa using h
        rw [← this]; exact hL
      · exact hacc _ hL i h
      · exact mask_ok hacc (fun e' h' => he e' (by simp [h'])) i h
    · rw [if_neg hb] at h
      exact mask_ok hacc (fun e' h' => he e' (by simp [h'])) i h
theorem befs_ok {ops : Array Oper} {L : Nat → Prop} (hcl : ∀ i o, ops[i]? = some o → L i → ∀ e ∈ o.after, Region.binds .any e = true → L e.on) :
    ∀ (l : List Oper) (acc : List Nat), (∀ k o, l[k]? = some o → ops[acc.length + k]? = some o) → (∀ k, (k < acc.length → ∀ o, ops[k]? = some o → (∀ e ∈ o.after, Region.binds .any e = true → L e.on) → ∀ i, (acc.getD k 0).testBit i = true → L i)) → (∀ k, k < acc.length → ∃ o, ops[k]? = some o) →
      ∀ j o, ops[j]? = some o → j < acc.length + l.length → (∀ e ∈ o.after, Region.binds .any e = true → L e.on) → ∀ i, ((befs l acc).getD j 0).testBit i = true → L i
  | [], acc, _, hacc, _, j, o, ho, hj, he, i, h => hacc j (by simpa using hj) o ho he i h
  | p :: l, acc, hl, hacc, hin, j, o, ho, hj, he, i, h => by
    have h0 : ops[acc.length]? = some p := by have := hl 0 p rfl; simpa using this
    have hgood : ∀ k, L k → ∀ i, (acc.getD k 0).testBit i = true → L i := by
      intro k hk i hi
      rcases Nat.lt_or_ge k acc.length with x | x
      · obtain ⟨q, hq⟩ := hin k x
        exact hacc k x q hq (hcl k q hq hk) i hi
      · rw [List.getD_eq_getElem?_getD, List.getElem?_eq_none x] at hi; simp at hi
    refine befs_ok hcl l (acc ++ [maskOf acc p.after.toList]) (fun k q hk => ?_) (fun k hk q hq hqe i hi => ?_) (fun k hk => ?_) j o ho (by simp at hj ⊢; omega) he i h
    · have := hl (k + 1) q (by simpa using hk)
      simpa [Nat.add_assoc, Nat.add_comm 1 k] using this
    · rcases Nat.lt_or_ge k acc.length with x | x
      · rw [List.getD_eq_getElem?_getD, List.getElem?_append_left x, ← List.getD_eq_getElem?_getD] at hi
        exact hacc k x q hq hqe i hi
      · have hke : k = acc.length := by simp at hk; omega
        subst hke
        rw [h0] at hq; cases hq
        rw [List.getD_eq_getElem?_getD, List.getElem?_append_right (Nat.le_refl _)] at hi
        simp at hi
        exact mask_ok hgood (fun e h' => hqe e (by simpa using h')) i hi
    · rcases Nat.lt_or_ge k acc.length with x | x
      · exact hin k x
      · have hke : k = acc.length := by simp at hk; omega
        subst hke; exact ⟨p, h0⟩

/-! is the region of the kind whose every order tells the same? -/
def AOper.cls : AOper → Cls
  | .mk _ a => a.cls
  | .gd _ _ _ a => a.cls
  | .df .. => .ef
def AOper.isDf : AOper → Bool
  | .df .. => true
  | _ => false
def DOper.isEf : DOper → Bool
  | .ef .. => true
  | _ => false
def DOper.isAl (d : DOper) : Bool := !d.isEf && d.ao.cls == .al
def DOper.kindOk (i : Nat) : DOper → Bool
  | .q a => !a.isDf && (a.cls == .q || a.cls == .al)
  | .ld a _ _ => !a.isDf && a.cls == .ld
  | .ef n a => n == i && !a.isDf
def names (ops : Array Oper) (o : Oper) : List Tmp := o.dst.toList ++ o.looksAt ops
def apartT (d : Option Tmp) (l : List Tmp) : Bool := match d with | some t => !l.contains t | none => true
/-- two operations that may come either way. -/
def pairOk (ops : Array Oper) (i j : Nat) (o p : Oper) (d e : DOper) : Bool :=
  !(d.isEf && e.isEf) && !(d.isAl && e.isEf) && (match e with | .ld _ lo _ => !d.isEf || decide (lo ≤ i) | _ => true) && (match d with | .ld _ _ hi => !e.isEf || decide (j ≤ hi) | _ => true)
    && apartT o.dst (names ops p) && apartT p.dst (names ops o)
def drawOk (ops : Array Oper) (ds : List DOper) : Bool :=
  let ms := befs ops.toList []
  ds.length == ops.size &&
  (List.range ops.size).all fun j => match ops[j]?, ds[j]? with
    | some p, some e => e.kindOk j && p.after.toList.all (fun x => !Region.binds .any x || decide (x.on < j)) &&
      (List.range j).all fun i => match ops[i]?, ds[i]? with
        | some o, some d => isBef ms i j || pairOk ops i j o p d e
        | _, _ => false
    | _, _ => false
end Den

namespace Den
open Go

def Inj.till (ι : Inj) (n : Nat) : Inj := fun p => if p.num < n then ι p else none
theorem Inj.till_some {ι : Inj} {n : Nat} {p : Pos} {l : Nat × Nat × Nat} : (ι.till n) p = some l ↔ p.num < n ∧ ι p = some l := by
  unfold Inj.till
  by_cases h : p.num < n
  · rw [if_pos h]; exact ⟨fun e => ⟨h, e⟩, fun e => e.2⟩
  · rw [if_neg h]; exact ⟨fun e => (by cases e), fun e => absurd e.1 h⟩
theorem Inj.till_le (ι : Inj) (n : Nat) : (ι.till n).le ι := fun _ _ e => (Inj.till_some.1 e).2
theorem Inj.till_mono {ι ι' : Inj} (h : ι.le ι') {n n' : Nat} (hn : n ≤ n') : (ι.till n).le (ι'.till n') := fun p l e => by
  obtain ⟨h1, h2⟩ := Inj.till_some.1 e
  exact Inj.till_some.2 ⟨by omega, h p l h2⟩
theorem Inj.ext {ι ι' : Inj} (h : ι.le ι') (k : ι'.le ι) : ι = ι' := by
  funext p
  cases e : ι p with
  | none =>
    cases e' : ι' p with
    | none => rfl
    | some l => rw [k p l e'] at e; cases e
  | some l => exact (h p l e).symm

/-- what the check tells. -/
structure Stat (ops : Array Oper) (ds : List DOper) : Prop where
  len : ds.length = ops.size
  each : ∀ j, j < ops.size → ∃ p e, ops[j]? = some p ∧ ds[j]? = some e ∧ e.kindOk j = true ∧ ∀ x ∈ p.after, Region.binds .any x = true → x.on < j
  pair : ∀ i j o p d e, i < j → ops[i]? = some o → ops[j]? = some p → ds[i]? = some d → ds[j]? = some e → isBef (befs ops.toList []) i j = true ∨ pairOk ops i j o p d e = true
theorem drawOk_stat {ops : Array Oper} {ds : List DOper} (h : drawOk ops ds = true) : Stat ops ds := by
  unfold drawOk at h
  simp only [Bool.and_eq_true, beq_iff_eq, List.all_eq_true, List.mem_range] at h
  obtain ⟨h1, h2⟩ := h
  have key : ∀ j, j < ops.size → ∃ p e, ops[j]? = some p ∧ ds[j]? = some e ∧ e.kindOk j = true ∧ (∀ x ∈ p.after, Region.binds .any x = true → x.on < j) ∧
      ∀ i, i < j → ∃ o d, ops[i]? = some o ∧ ds[i]? = some d ∧ (isBef (befs ops.toList []) i j = true ∨ pairOk ops i j o p d e = true) := by
    intro j hj
    have := h2 j hj
    split at this
    · rename_i p e hp he
      simp only [Bool.and_eq_true, List.all_eq_true, List.mem_range] at this
      obtain ⟨⟨k1, k2⟩, k3⟩ := this
      refine ⟨p, e, hp, he, k1, fun x hx hb => ?_, fun i hi => ?_⟩
      · have := k2 x (by simpa using hx)
        rw [hb] at this
        simpa using this
      · have := k3 i hi
        split at this
        · rename_i o d ho hd
          exact ⟨o, d, ho, hd, by simpa using this⟩
        · cases this
    · cases this
  refine ⟨h1, fun j hj => ?_, fun i j o p d e hij ho hp hd he => ?_⟩
  · obtain ⟨p, e, a1, a2, a3, a4, _⟩ := key j hj
    exact ⟨p, e, a1, a2, a3, a4⟩
  · have hj : j < ops.size := by
      rcases Nat.lt_or_ge j ops.size with x | x
      · exact x
      · rw [Array.getElem?_eq_none x] at hp; cases hp
    obtain ⟨p', e', a1, a2, _, _, a5⟩ := key j hj
    rw [hp] at a1; rw [he] at a2
    cases a1; cases a2
    obtain ⟨o', d', b1, b2, b3⟩ := a5 i hij
    rw [ho] at b1; rw [hd] at b2
    cases b1; cases b2
    exact b3
theorem pair_parts {ops : Array Oper} {i j : Nat} {o p : Oper} {d e : DOper} (h : pairOk ops i j o p d e = true) :
    (d.isEf = true → e.isEf = true → False) ∧ (d.isAl = true → e.isEf = true → False) ∧ (∀ a lo hi, e = .ld a lo hi → d.isEf = true → lo ≤ i) ∧ (∀ a lo hi, d = .ld a lo hi → e.isEf = true → j ≤ hi) ∧
      (∀ t, o.dst = some t → t ∉ names ops p) ∧ (∀ t, p.dst = some t → t ∉ names ops o) := by
  simp only [pairOk, Bool.and_eq_true, Bool.not_eq_true'] at h
  obtain ⟨⟨⟨⟨⟨h1, h2⟩, h3⟩, h4⟩, h5⟩, h6⟩ := h
  refine ⟨fun a b => by simp [a, b] at h1, fun a b => by simp [a, b] at h2, fun a lo hi he hd => ?_, fun a lo hi hd he => ?_, fun t ht => ?_, fun t ht => ?_⟩
  · subst he; simpa [hd] using h3
  · subst hd; simpa [he] using h4
  · rw [ht] at h5; simpa [apartT] using h5
  · rw [ht] at h6; simpa [apartT] using h6

/-- a number is listed. -/
def lst (listed : Array Bool) (i : Nat) : Prop := listed.getD i false = true

section
variable {P : Program} {E : Env} {CR : CRel} {call : Cl} {xa hm N : Nat} {ops : Array Oper} {ds : List DOper} {tm0 tm' : T V} {σ0 σ' : St}

section names
variable (call ds tm0 σ0)
noncomputable abbrev tau (i : Nat) : T V := (tr call ds tm0 σ0 i).1
noncomputable abbrev sig (i : Nat) : St := (tr call ds tm0 σ0 i).2
noncomputable abbrev nx (i : Nat) : Nat := (sig call ds tm0 σ0 i).nx.num
end names

/-- what number j does, in the order of the text. -/
inductive Does (E : Env) (call : Cl) (xa N : Nat) (ops : Array Oper) (j : Nat) (o : Oper) (d : DOper) (tm tm2 : T V) (st st2 : St) (ao : AOp) (dd : Option Pos) : Prop
  | free {v : V} : o.guard = none → d.ao = .mk dd ao → op ao call tm st = .ok v st2 → tm2 = tset tm dd v → Does E call xa N ops j o d tm tm2 st st2 ao dd
  | yes {jg : Nat} {t : Bool} {g : Nat} {v : V} : o.guard = some (jg, t) → (ops[jg]?).bind (·.dst) = some g → d.ao = .gd (pos g) t dd ao → (tg tm (pos g)).onB false (fun x => x == t) = true → op ao call tm st = .ok v st2 → tm2 = tset tm dd v → Does E call xa N ops j o d tm tm2 st st2 ao dd
  | no {jg : Nat} {t : Bool} {g : Nat} : o.guard = some (jg, t) → (ops[jg]?).bind (·.dst) = some g → d.ao = .gd (pos g) t dd ao → (tg tm (pos g)).onB false (fun x => x == t) = false → st2 = st → tm2 = tset tm dd un → Does E call xa N ops j o d tm tm2 st st2 ao dd

variable (S : Stat ops ds) (hao : ∀ (i : Nat) o, ops[i]? = some o → ∃ d, ds[i]? = some d ∧ d.ao = cOper E xa hm N ops o) (T : Trace call ds tm0 σ0 [] [] tm' σ')
include S hao T

omit S in
theorem does {j : Nat} {o : Oper} {d : DOper} (ho : ops[j]? = some o) (hd : ds[j]? = some d) (hk : d.kindOk j = true) :
    ∃ ao dd, cOp E xa o.op = some ao ∧ cDst N o.dst = some dd ∧ (∀ c, o.op ≠ .defer c) ∧ d.ao.cls = ao.cls ∧ Does E call xa N ops j o d ((tau call ds tm0 σ0) j) ((tau call ds tm0 σ0) (j + 1)) ((sig call ds tm0 σ0) j) ((sig call ds tm0 σ0) (j + 1)) ao dd := by
  obtain ⟨d', hd', e⟩ := hao j o ho
  rw [hd] at hd'; cases hd'
  have hst := T.step j d hd
  have hdf : d.ao.isDf = false := by
    cases d <;> simp only [DOper.kindOk, Bool.and_eq_true, Bool.not_eq_true'] at hk <;> first | exact hk.1 | exact hk.2
  have hbad : d.ao ≠ badO := by
    intro x; rw [x] at hst; cases hst
  rw [e] at hdf hbad
  have hmk : ∀ {dd : Option Pos} {ao : AOp}, doMk call dd ao okS ((tau call ds tm0 σ0) j) ((sig call ds tm0 σ0) j) = .ok ((tau call ds tm0 σ0) (j + 1)) ((sig call ds tm0 σ0) (j + 1)) → ∃ v, op ao call ((tau call ds tm0 σ0) j) ((sig call ds tm0 σ0) j) = .ok v ((sig call ds tm0 σ0) (j + 1)) ∧ (tau call ds tm0 σ0) (j + 1) = tset ((tau call ds tm0 σ0) j) dd v := by
    intro dd ao h
    unfold doMk at h
    cases hop : op ao call ((tau call ds tm0 σ0) j) ((sig call ds tm0 σ0) j) with
    | no => rw [hop] at h; cases h
    | ok v st =>
      rw [hop] at h
      have h' : RO.ok (tset ((tau call ds tm0 σ0) j) dd v) st = RO.ok ((tau call ds tm0 σ0) (j + 1)) ((sig call ds tm0 σ0) (j + 1)) := h
      injection h' with a b
      exact ⟨v, by rw [b], a.symm⟩
  by_cases hdef : ∃ c, o.op = .defer c
  · obtain ⟨c, hc⟩ := hdef
    exfalso
    simp only [cOper, hc] at hdf hbad
    split at hbad
    · split at hbad
      · split at hbad
        · rename_i h1 h2 h3; simp_all [AOper.isDf]
        · exact hbad rfl
      · exact hbad rfl
    · exact hbad rfl
  · have hnd : ∀ c, o.op ≠ .defer c := fun c x => hdef ⟨c, x⟩
    have e' : d.ao = (match cOp E xa o.op, cDst N o.dst, o.guard with
      | some ao, some d, none => .mk d ao
      | some ao, some d, some (j, t) => match (ops[j]?).bind (·.dst) with | some g => .gd (pos g) t d ao | none => badO
      | _, _, _ => badO) := by
      rw [e]; unfold cOper
      split
      · rename_i c hc; exact absurd hc (hnd c)
      · rfl
    rw [← e] at hbad
    split at e'
    · rename_i ao dd h1 h2 h3
      rw [e'] at hst
      obtain ⟨v, k1, k2⟩ := hmk hst
      exact ⟨ao, dd, h1, h2, hnd, by rw [e']; rfl, .free h3 e' k1 k2⟩
    · rename_i ao dd jg t h1 h2 h3
      split at e'
      · rename_i g hg
        rw [e'] at hst
        change cond ((tg ((tau call ds tm0 σ0) j) (pos g)).onB false (fun x => x == t)) (doMk call dd ao okS ((tau call ds tm0 σ0) j) ((sig call ds tm0 σ0) j)) (okS (tset ((tau call ds tm0 σ0) j) dd un) ((sig call ds tm0 σ0) j)) = _ at hst
        cases hw : (tg ((tau call ds tm0 σ0) j) (pos g)).onB false (fun x => x == t) with
        | true =>
          rw [hw] at hst
          obtain ⟨v, k1, k2⟩ := hmk hst
          exact ⟨ao, dd, h1, h2, hnd, by rw [e']; rfl, .yes h3 hg e' hw k1 k2⟩
        | false =>
          rw [hw] at hst
          have hst' : RO.ok (tset ((tau call ds tm0 σ0) j) dd un) ((sig call ds tm0 σ0) j) = RO.ok ((tau call ds tm0 σ0) (j + 1)) ((sig call ds tm0 σ0) (j + 1)) := hst
          injection hst' with s1 s2
          exact ⟨ao, dd, h1, h2, hnd, by rw [e']; rfl, .no h3 hg e' hw s2.symm s1.symm⟩
      · exact absurd e' hbad
    · exact absurd e' hbad

/-- one operation on. -/
theorem step1 {j : Nat} (hj : j < ops.size) : ∃ o d, ops[j]? = some o ∧ ds[j]? = some d ∧ (d.isEf = false → d.isAl = false → (sig call ds tm0 σ0) (j + 1) = (sig call ds tm0 σ0) j) ∧ (d.isAl = true → (sig call ds tm0 σ0) (j + 1) = (sig call ds tm0 σ0) j ∨ ∃ ob, (sig call ds tm0 σ0) (j + 1) = ((sig call ds tm0 σ0) j).add ob) ∧ (d.isEf = true → (nx call ds tm0 σ0) j ≤ (nx call ds tm0 σ0) (j + 1)) ∧
    ∀ t, o.dst ≠ some t → tg ((tau call ds tm0 σ0) (j + 1)) (pos t) = tg ((tau call ds tm0 σ0) j) (pos t) := by
  obtain ⟨o, d, ho, hd, hk, _⟩ := S.each j hj
  obtain ⟨ao, dd, h1, h2, h3, h4, h5⟩ := does (N := N) hao T ho hd hk
  have hclq : d.isEf = false → d.isAl = false → ao.cls = .q ∨ ao.cls = .ld := by
    intro a b
    cases d with
    | ef n x => cases a
    | q x =>
      simp only [DOper.kindOk, Bool.and_eq_true, Bool.or_eq_true, beq_iff_eq] at hk
      simp only [DOper.isAl, DOper.isEf, Bool.not_false, Bool.true_and, beq_eq_false_iff_ne] at b
      rcases hk.2 with x | x
      · left; rw [← h4]; exact x
      · exact absurd x b
    | ld x lo hi =>
      simp only [DOper.kindOk, Bool.and_eq_true, beq_iff_eq] at hk
      right; rw [← h4]; exact hk.2
  have hcal : d.isAl = true → ao.cls = .al := by
    intro b
    simp only [DOper.isAl, Bool.and_eq_true, beq_iff_eq] at b
    rw [← h4]; exact b.2
  have htg : ∀ v, (tau call ds tm0 σ0) (j + 1) = tset ((tau call ds tm0 σ0) j) dd v → ∀ t, o.dst ≠ some t → tg ((tau call ds tm0 σ0) (j + 1)) (pos t) = tg ((tau call ds tm0 σ0) j) (pos t) := by
    intro v e t ht
    rw [e]
    cases hod : o.dst with
    | none => rw [hod] at h2; cases h2; rfl
    | some u =>
      rw [hod] at h2
      simp only [cDst] at h2
      split at h2
      · cases h2
        show Den.T.get un (Den.T.set un v ((tau call ds tm0 σ0) j) (pos u)) (pos t) = _
        rw [Den.T.get_set, if_neg]
        · rfl
        · intro x
          have := congrArg Pos.num x
          rw [num_pos, num_pos] at this
          exact ht (by rw [hod, this])
      · cases h2
  refine ⟨o, d, ho, hd, fun a b => ?_, fun b => ?_, fun b => ?_, ?_⟩
  · cases h5 with
    | free _ _ k1 _ => exact still_st (hclq a b) _ _ _ _ k1
    | yes _ _ _ _ k1 _ => exact still_st (hclq a b) _ _ _ _ k1
    | no _ _ _ _ k1 _ => exact k1
  · cases h5 with
    | free _ _ k1 _ => exact .inr (al_st (hcal b) k1)
    | yes _ _ _ _ k1 _ => exact .inr (al_st (hcal b) k1)
    | no _ _ _ _ k1 _ => exact .inl k1
  · cases d with
    | ef n x => exact T.mono j n x hd
    | q x => cases b
    | ld x lo hi => cases b
  · cases h5 with
    | free _ _ _ k => exact htg _ k
    | yes _ _ _ _ _ k => exact htg _ k
    | no _ _ _ _ _ k => exact htg _ k

theorem nx_mono {i j : Nat} (h : i ≤ j) (hj : j ≤ ops.size) : (nx call ds tm0 σ0) i ≤ (nx call ds tm0 σ0) j := by
  induction j with
  | zero => have : i = 0 := by omega
            subst this; exact Nat.le_refl _
  | succ j ih =>
    by_cases e : i = j + 1
    · subst e; exact Nat.le_refl _
    · refine Nat.le_trans (ih (by omega) (by omega)) ?_
      obtain ⟨o, d, _, _, a, b, c, _⟩ := step1 (N := N) S hao T (show j < ops.size by omega)
      cases h1 : d.isEf with
      | true => exact c h1
      | false =>
        cases h2 : d.isAl with
        | true =>
          rcases b h2 with x | ⟨ob, x⟩
          · show ((sig call ds tm0 σ0) j).nx.num ≤ ((sig call ds tm0 σ0) (j + 1)).nx.num
            rw [x]; exact Nat.le_refl _
          · show ((sig call ds tm0 σ0) j).nx.num ≤ ((sig call ds tm0 σ0) (j + 1)).nx.num
            rw [x, St.nx_add, Pos.num_succ]; omega
        | false =>
          show ((sig call ds tm0 σ0) j).nx.num ≤ ((sig call ds tm0 σ0) (j + 1)).nx.num
          rw [a h1 h2]; exact Nat.le_refl _
/-- a temporary that nobody writes in between. -/
theorem tau_same {t c j : Nat} (hcj : c ≤ j) (hj : j ≤ ops.size) (h : ∀ i o, c ≤ i → i < j → ops[i]? = some o → o.dst ≠ some t) : tg ((tau call ds tm0 σ0) j) (pos t) = tg ((tau call ds tm0 σ0) c) (pos t) := by
  induction j with
  | zero => have : c = 0 := by omega
            subst this; rfl
  | succ j ih =>
    by_cases e : c = j + 1
    · subst e; rfl
    · obtain ⟨o, d, ho, _, _, _, _, k⟩ := step1 (N := N) S hao T (show j < ops.size by omega)
      rw [k t (h j o (by omega) (by omega) ho)]
      exact ih (by omega) (by omega) fun i o h1 h2 h3 => h i o h1 (by omega) h3
end
end Den

namespace Den
open Go

theorem Rel.push {CR : CRel} {ι : Inj} {σ : St} {w : World} (h : Rel CR ι σ w) (O : Go.Obj) : Rel CR ι σ (Wadd w O) := by
  refine ⟨h.dom, h.out, fun p B d X hp hd => ?_, h.inj, fun p B d X hp => ?_, h.ro, fun B O' hO' => ?_⟩
  · obtain ⟨O', a, b⟩ := h.obj p B d X hp hd
    have := h.lt p B d X hp
    exact ⟨O', by rw [Wadd_get, if_neg (by omega)]; exact a, b⟩
  · have := h.lt p B d X hp
    simp [Wadd]; omega
  · have := h.snapLt B (by rw [hO']; simp)
    rw [Wadd_get, if_neg (by omega)]; exact h.snap B O' hO'
theorem Rel.addNone {CR : CRel} {ι : Inj} {σ : St} {w : World} (h : Rel CR ι σ w) (ob : Obj) : Rel CR ι (σ.add ob) w := by
  have hne : ∀ p l, ι p = some l → p ≠ σ.nx := fun p l e x => by subst x; rw [h.fresh] at e; cases e
  refine ⟨fun p l e => ?_, fun p hp => ?_, fun p B d X hp hd => ?_, fun p q B d X d' X' hp hq hd hd' hz0 => ?_, h.lt, fun p B d X hp hz hd => ?_, h.snap⟩
  · rw [St.nx_add, Pos.num_succ]; have := h.dom p l e; omega
  · rw [St.nx_add, Pos.num_succ] at hp
    rw [St.at_add, if_neg (fun x => by subst x; omega)]
    exact h.out p (by omega)
  · rw [St.at_add, if_neg (hne p _ hp)] at hd ⊢
    exact h.obj p B d X hp hd
  · rw [St.at_add, if_neg (hne p _ hp)] at hd
    rw [St.at_add, if_neg (hne q _ hq)] at hd'
    exact h.inj p q B d X d' X' hp hq hd hd' hz0
  · rw [St.at_add, if_neg (hne p _ hp)] at hd ⊢
    exact h.ro p B d X hp hz hd
theorem lst_set {listed : Array Bool} {j i : Nat} (hj : j < listed.size) : lst (listed.setIfInBounds j true) i ↔ i = j ∨ lst listed i := by
  unfold lst
  by_cases e : i = j
  · subst e; simp [hj]
  · rw [getD_set_ne false (fun x => e x.symm)]; simp [e]

section
variable {P : Program} {E : Env} {CR : CRel} {call : Cl} {xa hm lb N : Nat} {ops : Array Oper} {ds : List DOper} {tm0 tm' : T V} {σ0 σ' : St}

/-- an object that was made early. -/
def Pnd (CR : CRel) (call : Cl) (ds : List DOper) (tm0 : T V) (σ0 : St) (listed : Array Bool) (w : World) (ιh : Inj) (k : Nat) (p : Pos) (B d X : Nat) : Prop :=
  ∃ i e ob O, k ≤ i ∧ lst listed i ∧ ds[i]? = some e ∧ e.isAl = true ∧ p = (sig call ds tm0 σ0 i).nx ∧ sig call ds tm0 σ0 (i + 1) = (sig call ds tm0 σ0 i).add ob ∧ ob.isDead = false ∧ w.heap[B]? = some O ∧
    OR CR (ιh.till (nx call ds tm0 σ0 (i + 1))) d X ob O ∧ CR.snap B = none ∧ ∀ q d' X', ιh q = some (B, d', X') → q = p
/-- how things stand, whichever are listed. -/
structure Inv (CR : CRel) (hm lb N : Nat) (ops : Array Oper) (call : Cl) (ds : List DOper) (tm0 : T V) (σ0 : St) (ι0 : Inj) (w0 : World) (listed : Array Bool) (a : Act) (w : World) (ιh : Inj) (k : Nat) : Prop where
  sz : listed.size = ops.size
  closed : ∀ (i : Nat) o, ops[i]? = some o → lst listed i → ∀ e ∈ o.after, Region.binds .any e = true → lst listed e.on
  ef : ∀ i d, ds[i]? = some d → d.isEf = true → (lst listed i ↔ i < k)
  km : k ≤ ops.size
  kk : k = 0 ∨ ∃ i d, k = i + 1 ∧ ds[i]? = some d ∧ d.isEf = true
  rel : Rel CR (ιh.till (nx call ds tm0 σ0 k)) (sig call ds tm0 σ0 k) w
  pend : ∀ p B d X, ιh p = some (B, d, X) → nx call ds tm0 σ0 k ≤ p.num → Pnd CR call ds tm0 σ0 listed w ιh k p B d X
  tmp : ∀ t, ∃ c, c ≤ ops.size ∧ (c = 0 ∨ ∃ (i : Nat) (o : Oper), c = i + 1 ∧ ops[i]? = some o ∧ o.dst = some t) ∧ VR (ιh.till (nx call ds tm0 σ0 (max c k))) (tg (tau call ds tm0 σ0 c) (pos t)) (a.tmps.getD t undef) ∧
    ∀ (i : Nat) o, ops[i]? = some o → o.dst = some t → (lst listed i ↔ i < c)
  size : N ≤ a.tmps.size
  defs : DR hm lb ιh w a.defers
  step : Step ι0 w0 ιh w

variable (S : Stat ops ds) (hao : ∀ (i : Nat) o, ops[i]? = some o → ∃ d, ds[i]? = some d ∧ d.ao = cOper E xa hm N ops o) (T : Trace call ds tm0 σ0 [] [] tm' σ')
variable {ι0 ιh : Inj} {w0 w : World} {listed : Array Bool} {a : Act} {k : Nat} (I : Inv CR hm lb N ops call ds tm0 σ0 ι0 w0 listed a w ιh k)

theorem ds_lt (S : Stat ops ds) {i : Nat} {e : DOper} (h : ds[i]? = some e) : i < ops.size := by
  rw [← S.len]
  rcases Nat.lt_or_ge i ds.length with x | x
  · exact x
  · rw [List.getElem?_eq_none x] at h; cases h
theorem ops_lt {i : Nat} {o : Oper} (h : ops[i]? = some o) : i < ops.size := by
  rcases Nat.lt_or_ge i ops.size with x | x
  · exact x
  · rw [Array.getElem?_eq_none x] at h; cases h

include S hao T in
theorem al_inj {i j : Nat} {o1 o2 : Obj} (hi : i < ops.size) (hj : j < ops.size) (h1 : (sig call ds tm0 σ0) (i + 1) = ((sig call ds tm0 σ0) i).add o1) (h2 : (sig call ds tm0 σ0) (j + 1) = ((sig call ds tm0 σ0) j).add o2) (h : (nx call ds tm0 σ0) i = (nx call ds tm0 σ0) j) : i = j := by
  have e1 : (nx call ds tm0 σ0) (i + 1) = (nx call ds tm0 σ0) i + 1 := by show ((sig call ds tm0 σ0) (i + 1)).nx.num = _; rw [h1, St.nx_add, Pos.num_succ]
  have e2 : (nx call ds tm0 σ0) (j + 1) = (nx call ds tm0 σ0) j + 1 := by show ((sig call ds tm0 σ0) (j + 1)).nx.num = _; rw [h2, St.nx_add, Pos.num_succ]
  rcases Nat.lt_trichotomy i j with x | x | x
  · have := nx_mono (N := N) S hao T (show i + 1 ≤ j from x) (by omega); omega
  · exact x
  · have := nx_mono (N := N) S hao T (show j + 1 ≤ i from x) (by omega); omega

include S hao T I in
theorem Inv.absorb {j : Nat} (hk : k ≤ j) (hj : j ≤ ops.size) (hno : ∀ i d, k ≤ i → i < j → ds[i]? = some d → d.isEf = false) : Rel CR (ιh.till ((nx call ds tm0 σ0) j)) ((sig call ds tm0 σ0) j) w := by
  induction j with
  | zero => have : k = 0 := by omega
            have h := I.rel
            rw [this] at h; exact h
  | succ j ih =>
    by_cases e : k = j + 1
    · have h := I.rel
      rw [e] at h; exact h
    · have hR := ih (by omega) (by omega) fun i d h1 h2 h3 => hno i d h1 (by omega) h3
      obtain ⟨o, d, ho, hd, s1, s2, _, _⟩ := step1 (N := N) S hao T (show j < ops.size by omega)
      have hne := hno j d (by omega) (by omega) hd
      have hsame : (sig call ds tm0 σ0) (j + 1) = (sig call ds tm0 σ0) j → Rel CR (ιh.till ((nx call ds tm0 σ0) (j + 1))) ((sig call ds tm0 σ0) (j + 1)) w := by
        intro h
        show Rel CR (ιh.till ((sig call ds tm0 σ0) (j + 1)).nx.num) ((sig call ds tm0 σ0) (j + 1)) w
        rw [h]; exact hR
      cases hal : d.isAl with
      | false => exact hsame (s1 hne hal)
      | true =>
        rcases s2 hal with x | ⟨ob, x⟩
        · exact hsame x
        · have hn1 : (nx call ds tm0 σ0) (j + 1) = (nx call ds tm0 σ0) j + 1 := by show ((sig call ds tm0 σ0) (j + 1)).nx.num = _; rw [x, St.nx_add, Pos.num_succ]
          cases hι : ιh ((sig call ds tm0 σ0) j).nx with
          | none =>
            have : ιh.till ((nx call ds tm0 σ0) (j + 1)) = ιh.till ((nx call ds tm0 σ0) j) := by
              refine Inj.ext (fun p l hp => ?_) (Inj.till_mono (fun _ _ h => h) (by omega))
              obtain ⟨p1, p2⟩ := Inj.till_some.1 hp
              refine Inj.till_some.2 ⟨?_, p2⟩
              rcases Nat.lt_or_ge p.num ((nx call ds tm0 σ0) j) with y | y
              · exact y
              · have : p = ((sig call ds tm0 σ0) j).nx := Pos.num_inj (by show p.num = (nx call ds tm0 σ0) j; omega)
                rw [this, hι] at p2; cases p2
            rw [this, x]
            exact hR.addNone ob
          | some l =>
            obtain ⟨B, d0, X⟩ := l
            obtain ⟨i, e', ob', O, q1, q2, q3, q4, q5, q6, q7, q8, q9, qz, q10⟩ := I.pend _ _ _ _ hι (nx_mono (N := N) S hao T (by omega) (by omega))
            have hij : i = j := al_inj (N := N) S hao T (ds_lt S q3) (by omega) q6 x (by show ((sig call ds tm0 σ0) i).nx.num = ((sig call ds tm0 σ0) j).nx.num; rw [q5])
            subst hij
            have hup : (ιh.till ((nx call ds tm0 σ0) i)).upd ((sig call ds tm0 σ0) i).nx (B, d0, X) = ιh.till ((nx call ds tm0 σ0) (i + 1)) := by
              refine Inj.ext (fun p l hp => ?_) (fun p l hp => ?_)
              · simp only [Inj.upd] at hp
                by_cases y : p = ((sig call ds tm0 σ0) i).nx
                · rw [if_pos y] at hp; cases hp
                  refine Inj.till_some.2 ⟨?_, by rw [y]; exact hι⟩
                  rw [y]; show (nx call ds tm0 σ0) i < _; omega
                · rw [if_neg y] at hp
                  exact Inj.till_mono (fun _ _ h => h) (by omega) p l hp
              · obtain ⟨p1, p2⟩ := Inj.till_some.1 hp
                simp only [Inj.upd]
                by_cases y : p = ((sig call ds tm0 σ0) i).nx
                · rw [if_pos y, ← p2, y, hι]
                · rw [if_neg y]
                  refine Inj.till_some.2 ⟨?_, p2⟩
                  have : p.num ≠ (nx call ds tm0 σ0) i := fun z => y (Pos.num_inj z)
                  omega
            have h := hR.addAt (w' := w) (B := B) (d := d0) (X := X) (ob := ob') q8 (Nat.le_refl _) (fun q B' d' X' hq _ => ⟨fun z => ?_, rfl⟩) qz (fun _ _ => rfl) (by rw [hup]; exact q9)
            · rw [hup, ← q6] at h; exact h
            · subst z
              obtain ⟨u1, u2⟩ := Inj.till_some.1 hq
              have := q10 q d' X' u2
              rw [this] at u1
              exact absurd u1 (Nat.lt_irrefl _)

/-- what comes before what is listed is listed. -/
theorem Inv.before (I : Inv CR hm lb N ops call ds tm0 σ0 ι0 w0 listed a w ιh k) {j : Nat} {o : Oper} (ho : ops[j]? = some o) (he : ∀ e ∈ o.after, Region.binds .any e = true → lst listed e.on) {i : Nat} (h : isBef (befs ops.toList []) i j = true) : lst listed i :=
  befs_ok (L := lst listed) I.closed ops.toList [] (fun k o hk => by simpa using hk) (fun k hk => by simp at hk) (fun k hk => by simp at hk) j o ho (by simpa using ops_lt ho) he i h

section ready
variable {j : Nat} {o : Oper} {d : DOper} (ho : ops[j]? = some o) (hd : ds[j]? = some d) (hnl : ¬ lst listed j) (he : ∀ e ∈ o.after, Region.binds .any e = true → lst listed e.on)
include I S ho hnl he

/-- who writes what number j names. -/
theorem Inv.writes {t : Nat} (ht : t ∈ names ops o) {i : Nat} {p : Oper} (hi : ops[i]? = some p) (hp : p.dst = some t) (hij : i ≠ j) : lst listed i ↔ i < j := by
  obtain ⟨_, d1, _, hd1, _, _⟩ := S.each i (ops_lt hi)
  obtain ⟨_, d2, _, hd2, _, _⟩ := S.each j (ops_lt ho)
  rcases Nat.lt_or_ge i j with x | x
  · refine ⟨fun _ => x, fun _ => ?_⟩
    rcases S.pair i j p o d1 d2 x hi ho hd1 hd2 with y | y
    · exact I.before ho he y
    · exact absurd ht ((pair_parts y).2.2.2.2.1 t hp)
  · have x' : j < i := by omega
    refine ⟨fun hl => ?_, fun h => by omega⟩
    rcases S.pair j i o p d2 d1 x' ho hi hd2 hd1 with y | y
    · exact absurd (I.before hi (I.closed i p hi hl) y) hnl
    · exact absurd ht ((pair_parts y).2.2.2.2.2 t hp)
include hao T in
/-- what number j names holds what it holds in the order of the text. -/
theorem Inv.opd {t : Nat} (ht : t ∈ names ops o) : VR (ιh.till ((nx call ds tm0 σ0) (max j k))) (tg ((tau call ds tm0 σ0) j) (pos t)) (a.tmps.getD t undef) := by
  obtain ⟨c, hc, hc0, hv, hw⟩ := I.tmp t
  have hcj : c ≤ j := by
    rcases hc0 with x | ⟨i, p, x, hi, hp⟩
    · omega
    · have hl := (hw i p hi hp).2 (by omega)
      have := (I.writes S ho hnl he ht hi hp (fun y => by subst y; exact hnl hl)).1 hl
      omega
  have hj := ops_lt ho
  rw [tau_same (N := N) S hao T hcj (by omega) fun i p h1 h2 h3 h4 => ?_]
  · exact hv.mono (Inj.till_mono (fun _ _ h => h) (nx_mono (N := N) S hao T (by omega) (by have := I.km; omega)))
  · have := (I.writes S ho hnl he ht h3 h4 (by omega)).2 h2
    have := (hw i p h3 h4).1 this
    omega
include hao T hd in
/-- a result is put. -/
theorem Inv.put {ιh' : Inj} {k' : Nat} {w' : World} {v : V} {v' : Value} {dd : Option Pos} (hdd : cDst N o.dst = some dd) (hτ : (tau call ds tm0 σ0) (j + 1) = tset ((tau call ds tm0 σ0) j) dd v) (hle : ιh.le ιh') (hk : k ≤ k') (hks : k' ≤ ops.size)
    (hef : ∀ i e, ds[i]? = some e → e.isEf = true → (lst (listed.setIfInBounds j true) i ↔ i < k')) (hkk : k' = 0 ∨ ∃ i e, k' = i + 1 ∧ ds[i]? = some e ∧ e.isEf = true) (hrel : Rel CR (ιh'.till ((nx call ds tm0 σ0) k')) ((sig call ds tm0 σ0) k') w')
    (hpend : ∀ p B d X, ιh' p = some (B, d, X) → (nx call ds tm0 σ0) k' ≤ p.num → Pnd CR call ds tm0 σ0 (listed.setIfInBounds j true) w' ιh' k' p B d X) (hst : Step ιh w ιh' w') (hv : VR (ιh'.till ((nx call ds tm0 σ0) (max (j + 1) k'))) v v') :
    Inv CR hm lb N ops call ds tm0 σ0 ι0 w0 (listed.setIfInBounds j true) (a.put o.dst v') w' ιh' k' := by
  have hj := ops_lt ho
  have hjs : j < listed.size := by rw [I.sz]; exact hj
  have hds : (a.put o.dst v').defers = a.defers := by cases o.dst <;> rfl
  refine ⟨by simp [I.sz], fun i p hi hl e hee hb => ?_, hef, hks, hkk, hrel, hpend, fun t => ?_, ?_, by rw [hds]; exact I.defs.step hst, I.step.trans hst⟩
  · rcases (lst_set hjs).1 hl with x | x
    · subst x; rw [ho] at hi; cases hi
      exact (lst_set hjs).2 (.inr (he e hee hb))
    · exact (lst_set hjs).2 (.inr (I.closed i p hi x e hee hb))
  · by_cases ht : o.dst = some t
    · have hmem : t ∈ names ops o := by simp [names, ht]
      refine ⟨j + 1, by omega, .inr ⟨j, o, rfl, ho, ht⟩, ?_, fun i p hi hp => ?_⟩
      · rw [ht] at hdd
        simp only [cDst] at hdd
        split at hdd
        · rename_i hlt
          cases hdd
          have e1 : tg ((tau call ds tm0 σ0) (j + 1)) (pos t) = v := by
            rw [hτ]
            show Den.T.get un (Den.T.set un v ((tau call ds tm0 σ0) j) (pos t)) (pos t) = _
            rw [Den.T.get_set, if_pos rfl]
          have e2 : (a.put o.dst v').tmps.getD t undef = v' := by
            have hlt' : t < a.tmps.size := Nat.lt_of_lt_of_le hlt I.size
            rw [ht]
            simp [Act.put, hlt']
          rw [e1, e2]; exact hv
        · cases hdd
      · rw [lst_set hjs]
        by_cases hij : i = j
        · subst hij; exact ⟨fun _ => by omega, fun _ => .inl rfl⟩
        · have := I.writes S ho hnl he hmem hi hp hij
          rw [this]; omega
    · obtain ⟨c, hc, hc0, hv0, hw⟩ := I.tmp t
      refine ⟨c, hc, hc0, ?_, fun i p hi hp => ?_⟩
      · have e2 : (a.put o.dst v').tmps.getD t undef = a.tmps.getD t undef := by
          cases hod : o.dst with
          | none => rfl
          | some u =>
            have : u ≠ t := fun x => ht (by rw [hod, x])
            simp [Act.put, Array.getElem?_setIfInBounds_ne this]
        rw [e2]
        exact hv0.mono (Inj.till_mono hle (nx_mono (N := N) S hao T (by omega) (by omega)))
      · rw [lst_set hjs]
        have hij : i ≠ j := fun x => by subst x; rw [ho] at hi; cases hi; exact ht hp
        rw [← hw i p hi hp]; simp [hij]
  · cases o.dst <;> simp [Act.put, I.size]
end ready
end
end Den

namespace Den
open Go

theorem least (p : Nat → Prop) (k : Nat) : ∀ j, (∀ i, k ≤ i → i < j → ¬ p i) ∨ ∃ e, k ≤ e ∧ e < j ∧ p e ∧ ∀ i, k ≤ i → i < e → ¬ p i
  | 0 => .inl fun i _ h => by omega
  | j + 1 => by
    rcases least p k j with h | ⟨e, a, b, c, d⟩
    · by_cases hp : k ≤ j ∧ p j
      · exact .inr ⟨j, hp.1, by omega, hp.2, h⟩
      · refine .inl fun i h1 h2 h3 => ?_
        by_cases e : i = j
        · subst e; exact hp ⟨h1, h3⟩
        · exact h i h1 (by omega) h3
    · exact .inr ⟨e, a, by omega, c, d⟩
theorem ev_ok1 {ι : Inj} {tm : T V} {a : Act} {X : Operand} {x : Opd} (h : ∀ t, X = .tmp t → VR ι (tg tm (pos t)) (a.tmps.getD t undef)) (hx : cOpd X = some x) : VR ι (ev tm x) (a.eval X) := by
  cases X with
  | tmp t => cases hx; exact h t rfl
  | const c =>
    simp only [cOpd] at hx
    split at hx
    · rename_i y hy
      cases hx
      show VR ι y c
      unfold cV at hy
      split at hy <;> first | (cases hy; done) | skip
      · cases hy; exact .b _
      · cases hy; exact .i ..
      · cases hy; exact .s _ _ rfl
      · cases hy; exact .p0
      · cases hy; exact .s0
      · cases hy; exact .m0
      · cases hy; exact .f0
      · cases hy; exact .i0
    · cases hx
  | func f =>
    cases hx
    exact .f (num_pos f) .nl .nl
  | global g => cases hx
theorem wanted_ok1 {ι : Inj} {tm : T V} {tmps : Array Value} {ops : Array Oper} {j g : Nat} (hj : (ops[j]?).bind (·.dst) = some g) (hv : VR ι (tg tm (pos g)) (tmps.getD g undef)) (t : Bool) :
    ((tg tm (pos g)).onB false (fun x => x == t)) = (yielded ops tmps j == some t) := by
  have hy : yielded ops tmps j = match tmps[g]? with | some (.bool b) => some b | _ => none := by
    unfold yielded
    rw [hj]; rfl
  rw [hy]
  rw [Array.getD_eq_getD_getElem?] at hv
  generalize tg tm (pos g) = x at hv ⊢
  cases hg : tmps[g]? with
  | none =>
    rw [hg] at hv
    cases x <;> first | (cases hv; done) | rfl
  | some u =>
    rw [hg] at hv
    simp only [Option.getD_some] at hv
    cases hv <;> rfl

section
variable {P : Program} {E : Env} (hE : TyOK P E) {CR : CRel} {call : Cl} (hcall : CallOK P CR call) {xa hm lb N : Nat} (hX : XOK P xa) {F : Fence} (hF : Wd F) {ops : Array Oper} {ds : List DOper} {tm0 tm' : T V} {σ0 σ' : St}
variable (S : Stat ops ds) (hao : ∀ (i : Nat) o, ops[i]? = some o → ∃ d, ds[i]? = some d ∧ d.ao = cOper E xa hm N ops o) (T : Trace call ds tm0 σ0 [] [] tm' σ')
variable {ι0 ιh : Inj} {w0 w : World} {listed : Array Bool} {a : Act} {k : Nat} (I : Inv CR hm lb N ops call ds tm0 σ0 ι0 w0 listed a w ιh k)
variable {j : Nat} {o : Oper} {d : DOper} (ho : ops[j]? = some o) (hd : ds[j]? = some d) (hnl : ¬ lst listed j) (he : ∀ e ∈ o.after, Region.binds .any e = true → lst listed e.on)

/-- behind number j. -/
def Nxt (CR : CRel) (hm lb N : Nat) (ops : Array Oper) (call : Cl) (ds : List DOper) (tm0 : Den.T V) (σ0 : St) (ι0 : Inj) (w0 : World) (listed : Array Bool) (a : Act) (j : Nat) (o : Oper) (v' : Value) (w' : World) : Prop :=
  ∃ ιh' k', Inv CR hm lb N ops call ds tm0 σ0 ι0 w0 (listed.setIfInBounds j true) (a.put o.dst v') w' ιh' k'

theorem Pnd.more {p : Pos} {B d0 X : Nat} (hjs : j < listed.size) (h : Pnd CR call ds tm0 σ0 listed w ιh k p B d0 X) : Pnd CR call ds tm0 σ0 (listed.setIfInBounds j true) w ιh k p B d0 X := by
  obtain ⟨i, e, ob, O, q1, q2, q⟩ := h
  exact ⟨i, e, ob, O, q1, (lst_set hjs).2 (.inr q2), q⟩

include S hao T I ho hnl he in
theorem Inv.evs : Ev (ιh.till ((nx call ds tm0 σ0) (max j k))) ((tau call ds tm0 σ0) j) a.eval o.op := by
  intro X x hX hx
  refine ev_ok1 (fun t ht => I.opd S hao T ho hnl he ?_) hx
  subst ht
  simp only [names, Oper.looksAt, List.mem_append]
  exact .inr (.inl (List.mem_filterMap.2 ⟨.tmp t, hX, rfl⟩))

include S hao T I ho hd hnl he in
/-- what leaves the state: a result is put. -/
theorem Inv.putS {v : V} {v' : Value} {dd : Option Pos} (hdd : cDst N o.dst = some dd) (hτ : (tau call ds tm0 σ0) (j + 1) = tset ((tau call ds tm0 σ0) j) dd v) (hne : d.isEf = false) (hv : VR (ιh.till ((nx call ds tm0 σ0) (max j k))) v v') : Nxt CR hm lb N ops call ds tm0 σ0 ι0 w0 listed a j o v' w := by
  have hj := ops_lt ho
  have hjs : j < listed.size := by rw [I.sz]; exact hj
  refine ⟨ιh, k, I.put S hao T ho hd hnl he hdd hτ (fun _ _ h => h) (Nat.le_refl _) I.km (fun i e hi hie => ?_) I.kk I.rel (fun p B d0 X hp hl => (I.pend p B d0 X hp hl).more hjs) (.refl _ _) (hv.mono (Inj.till_mono (fun _ _ h => h) (nx_mono (N := N) S hao T (by omega) (by have := I.km; omega))))⟩
  rw [lst_set hjs, ← I.ef i e hi hie]
  have : i ≠ j := fun x => by subst x; rw [hd] at hi; cases hi; rw [hne] at hie; cases hie
  simp [this]

include hE hcall hX S hao T I ho hd hnl he in
theorem Inv.runE {v : V} {ao : AOp} {dd : Option Pos} (hc : cOp E xa o.op = some ao) (hdd : cDst N o.dst = some dd) (hop : op ao call ((tau call ds tm0 σ0) j) ((sig call ds tm0 σ0) j) = .ok v ((sig call ds tm0 σ0) (j + 1))) (hτ : (tau call ds tm0 σ0) (j + 1) = tset ((tau call ds tm0 σ0) j) dd v) (hef : d.isEf = true) :
    Upon P (Nxt CR hm lb N ops call ds tm0 σ0 ι0 w0 listed a j o) ((execOp a.eval o).run P w) := by
  have hj := ops_lt ho
  have hjs : j < listed.size := by rw [I.sz]; exact hj
  have hkj : k ≤ j := by
    rcases Nat.lt_or_ge j k with x | x
    · exact absurd ((I.ef j d hd hef).2 x) hnl
    · exact x
  have hall : ∀ i e, i < j → ds[i]? = some e → e.isEf = true → i < k := by
    intro i e hij hi hie
    obtain ⟨p, e', hp, he', _⟩ := S.each i (by omega)
    rw [hi] at he'; cases he'
    rcases S.pair i j p o e d hij hp ho hi hd with y | y
    · exact (I.ef i e hi hie).1 (I.before ho he y)
    · exact absurd hef (fun z => (pair_parts y).1 hie z)
  have hR := I.absorb S hao T hkj (by omega) fun i e h1 h2 h3 => by
    cases hie : e.isEf with
    | false => rfl
    | true => have := hall i e h2 h3 hie; omega
  have hev := I.evs S hao T ho hnl he
  have hmax : max j k = j := by omega
  rw [hmax] at hev
  have m1 := nx_mono (N := N) S hao T (show j ≤ j + 1 by omega) hj
  have m2 := nx_mono (N := N) S hao T hkj (by omega)
  refine (op_ok hE hcall hX hR hc hev hop).mono fun v' w' ⟨ι', s, R', hv'⟩ => ?_
  let ιn : Inj := fun p => if p.num < (nx call ds tm0 σ0) (j + 1) then ι' p else ιh p
  have nlt : ∀ {p}, p.num < (nx call ds tm0 σ0) (j + 1) → ιn p = ι' p := fun h => if_pos h
  have nge : ∀ {p}, (nx call ds tm0 σ0) (j + 1) ≤ p.num → ιn p = ιh p := fun h => if_neg (by omega)
  have hdom : ∀ p l, ι' p = some l → p.num < (nx call ds tm0 σ0) (j + 1) := R'.dom
  have L1 : ιn.till ((nx call ds tm0 σ0) (j + 1)) = ι' := by
    refine Inj.ext (fun p l h => ?_) (fun p l h => ?_)
    · obtain ⟨a1, a2⟩ := Inj.till_some.1 h
      rw [nlt a1] at a2; exact a2
    · have := hdom p l h
      exact Inj.till_some.2 ⟨this, by rw [nlt this]; exact h⟩
  have hpi : ∀ {i e} {ob : Obj}, ds[i]? = some e → e.isAl = true → (sig call ds tm0 σ0) (i + 1) = ((sig call ds tm0 σ0) i).add ob → i < j ∧ (nx call ds tm0 σ0) i < (nx call ds tm0 σ0) j ∨ j < i ∧ (nx call ds tm0 σ0) (j + 1) ≤ (nx call ds tm0 σ0) i := by
    intro i e ob h1 h2 h3
    have hi := ds_lt S h1
    have e1 : (nx call ds tm0 σ0) (i + 1) = (nx call ds tm0 σ0) i + 1 := by show ((sig call ds tm0 σ0) (i + 1)).nx.num = _; rw [h3, St.nx_add, Pos.num_succ]
    rcases Nat.lt_trichotomy i j with x | x | x
    · have := nx_mono (N := N) S hao T (show i + 1 ≤ j from x) (by omega)
      exact .inl ⟨x, by omega⟩
    · subst x
      rw [hd] at h1; cases h1
      simp [DOper.isAl, hef] at h2
    · exact .inr ⟨x, nx_mono (N := N) S hao T (show j + 1 ≤ i from x) (by omega)⟩
  have L2 : ιh.le ιn := by
    intro p l h
    by_cases x : p.num < (nx call ds tm0 σ0) (j + 1)
    · rw [nlt x]
      by_cases y : p.num < (nx call ds tm0 σ0) j
      · exact s.le p l (Inj.till_some.2 ⟨y, h⟩)
      · obtain ⟨B, d0, X⟩ := l
        obtain ⟨i, e, ob, O, q1, q2, q3, q4, q5, q6, _⟩ := I.pend p B d0 X h (by omega)
        have hpn : p.num = (nx call ds tm0 σ0) i := by rw [q5]
        rcases hpi q3 q4 q6 with z | z <;> omega
    · rw [nge (by omega)]; exact h
  have hpend : ∀ p B d0 X, ιh p = some (B, d0, X) → (nx call ds tm0 σ0) (j + 1) ≤ p.num → ∃ i e ob O, j + 1 ≤ i ∧ lst listed i ∧ ds[i]? = some e ∧ e.isAl = true ∧ p = ((sig call ds tm0 σ0) i).nx ∧ (sig call ds tm0 σ0) (i + 1) = ((sig call ds tm0 σ0) i).add ob ∧ ob.isDead = false ∧ w.heap[B]? = some O ∧ OR CR (ιh.till ((nx call ds tm0 σ0) (i + 1))) d0 X ob O ∧ CR.snap B = none ∧ (∀ q d' X', ιh q = some (B, d', X') → q = p) ∧ (∀ q d' X', (ιh.till ((nx call ds tm0 σ0) j)) q ≠ some (B, d', X')) ∧ B < w.heap.size := by
    intro p B d0 X hp hl
    obtain ⟨i, e, ob, O, q1, q2, q3, q4, q5, q6, q7, q8, q9, qz, q10⟩ := I.pend p B d0 X hp (by omega)
    have hpn : p.num = (nx call ds tm0 σ0) i := by rw [q5]
    refine ⟨i, e, ob, O, ?_, q2, q3, q4, q5, q6, q7, q8, q9, qz, q10, fun q d' X' hq => ?_, ?_⟩
    · rcases hpi q3 q4 q6 with z | z <;> omega
    · obtain ⟨u1, u2⟩ := Inj.till_some.1 hq
      have := q10 q d' X' u2
      subst this; omega
    · rcases Nat.lt_or_ge B w.heap.size with z | z
      · exact z
      · rw [Array.getElem?_eq_none z] at q8; cases q8
  refine ⟨ιn, j + 1, I.put S hao T ho hd hnl he hdd hτ L2 (by omega) hj (fun i e hi hie => ?_) (.inr ⟨j, d, rfl, hd, hef⟩) (by rw [L1]; exact R') (fun p B d0 X hp hl => ?_) ⟨L2, fun p B d0 X hp => ?_, s.size, fun B hB hn => s.same B hB fun p d0 X e => hn p d0 X (Inj.till_le _ _ _ _ e), s.os, s.output⟩ ?_⟩
  · rw [lst_set hjs, I.ef i e hi hie]
    refine ⟨fun x => by omega, fun x => ?_⟩
    by_cases y : i = j
    · exact .inl y
    · exact .inr (hall i e (by omega) hi hie)
  · rw [nge hl] at hp
    obtain ⟨i, e, ob, O, q1, q2, q3, q4, q5, q6, q7, q8, q9, qz, q10, q11, q12⟩ := hpend p B d0 X hp hl
    refine ⟨i, e, ob, O, q1, (lst_set hjs).2 (.inr q2), q3, q4, q5, q6, q7, by rw [s.same B q12 (fun p' d' X' x => q11 p' d' X' x)]; exact q8, q9.mono (Inj.till_mono L2 (Nat.le_refl _)), qz, fun q d' X' hq => ?_⟩
    by_cases x : q.num < (nx call ds tm0 σ0) (j + 1)
    · rw [nlt x] at hq
      rcases s.new q B d' X' hq with ⟨q', d'', X'', hq'⟩ | y
      · exact absurd hq' (q11 q' d'' X'')
      · omega
    · rw [nge (by omega)] at hq
      exact q10 q d' X' hq
  · by_cases x : p.num < (nx call ds tm0 σ0) (j + 1)
    · rw [nlt x] at hp
      rcases s.new p B d0 X hp with ⟨q', d'', X'', hq'⟩ | y
      · exact .inl ⟨q', d'', X'', Inj.till_le _ _ _ _ hq'⟩
      · exact .inr y
    · rw [nge (by omega)] at hp
      exact .inl ⟨p, d0, X, hp⟩
  · rw [show max (j + 1) (j + 1) = j + 1 by omega, L1]; exact hv'
end
end Den

namespace Den
open Go

section
variable {P : Program} {E : Env} (hE : TyOK P E) {CR : CRel} {call : Cl} (hcall : CallOK P CR call) {xa hm lb N : Nat} (hX : XOK P xa) {F : Fence} (hF : Wd F) {ops : Array Oper} {ds : List DOper} {tm0 tm' : Den.T V} {σ0 σ' : St}
variable (S : Stat ops ds) (hao : ∀ (i : Nat) o, ops[i]? = some o → ∃ d, ds[i]? = some d ∧ d.ao = cOper E xa hm N ops o) (T : Trace call ds tm0 σ0 [] [] tm' σ')
variable {ι0 ιh : Inj} {w0 w : World} {listed : Array Bool} {a : Act} {k : Nat} (I : Inv CR hm lb N ops call ds tm0 σ0 ι0 w0 listed a w ιh k)
variable {j : Nat} {o : Oper} {d : DOper} (ho : ops[j]? = some o) (hd : ds[j]? = some d) (hnl : ¬ lst listed j) (he : ∀ e ∈ o.after, Region.binds .any e = true → lst listed e.on)

include hE S hao T I ho hd hnl he in
theorem Inv.runA {v : V} {ao : AOp} {dd : Option Pos} (hc : cOp E xa o.op = some ao) (hdd : cDst N o.dst = some dd) (hop : op ao call ((tau call ds tm0 σ0) j) ((sig call ds tm0 σ0) j) = .ok v ((sig call ds tm0 σ0) (j + 1))) (hτ : (tau call ds tm0 σ0) (j + 1) = tset ((tau call ds tm0 σ0) j) dd v) (hal : d.isAl = true) (hcl : ao.cls = .al) :
    Upon P (Nxt CR hm lb N ops call ds tm0 σ0 ι0 w0 listed a j o) ((execOp a.eval o).run P w) := by
  have hj := ops_lt ho
  have hjs : j < listed.size := by rw [I.sz]; exact hj
  have hne : d.isEf = false := by cases hh : d.isEf with
    | false => rfl
    | true => simp [DOper.isAl, hh] at hal
  have hkj : k ≤ j := by
    rcases I.kk with x | ⟨i, e, x, hi, hie⟩
    · omega
    · rcases Nat.lt_trichotomy i j with y | y | y
      · omega
      · subst y; rw [hd] at hi; cases hi; rw [hne] at hie; cases hie
      · obtain ⟨p, e', hp, he', _⟩ := S.each i (ds_lt S hi)
        have hl := (I.ef i e hi hie).2 (by omega)
        rcases S.pair j i o p d e y ho hp hd hi with z | z
        · exact absurd (I.before hp (I.closed i p hp hl) z) hnl
        · exact absurd hie (fun u => (pair_parts z).2.1 hal u)
  have hev := I.evs S hao T ho hnl he
  have hmax : max j k = j := by omega
  rw [hmax] at hev
  have m2 := nx_mono (N := N) S hao T hkj (by omega)
  have hn : (ιh.till ((nx call ds tm0 σ0) j)) ((sig call ds tm0 σ0) j).nx = none := by
    cases hh : (ιh.till ((nx call ds tm0 σ0) j)) ((sig call ds tm0 σ0) j).nx with
    | none => rfl
    | some l => exact absurd (Inj.till_some.1 hh).1 (Nat.lt_irrefl _)
  refine (op_new (CR := CR) hE hcl hn hc hev hop).mono fun v' w' ⟨ob, O, X, h1, h2, h3, h4, h5⟩ => ?_
  have hn1 : (nx call ds tm0 σ0) (j + 1) = (nx call ds tm0 σ0) j + 1 := by show ((sig call ds tm0 σ0) (j + 1)).nx.num = _; rw [h2, St.nx_add, Pos.num_succ]
  have hnone : ιh ((sig call ds tm0 σ0) j).nx = none := by
    cases hh : ιh ((sig call ds tm0 σ0) j).nx with
    | none => rfl
    | some l =>
      obtain ⟨B, d0, X0⟩ := l
      obtain ⟨i, e, ob', O', q1, q2, q3, q4, q5, q6, _⟩ := I.pend _ _ _ _ hh m2
      have := al_inj (N := N) S hao T (ds_lt S q3) hj q6 h2 (by show ((sig call ds tm0 σ0) i).nx.num = ((sig call ds tm0 σ0) j).nx.num; rw [q5])
      subst this; exact absurd q2 hnl
  subst h3
  let ιn := ιh.upd ((sig call ds tm0 σ0) j).nx (w.heap.size, 0, X)
  have L2 : ιh.le ιn := Inj.upd_le hnone
  have hup : ((ιh.till ((nx call ds tm0 σ0) j)).upd ((sig call ds tm0 σ0) j).nx (w.heap.size, 0, X)).le (ιn.till ((nx call ds tm0 σ0) (j + 1))) := by
    intro p l hp
    simp only [Inj.upd] at hp
    by_cases y : p = ((sig call ds tm0 σ0) j).nx
    · rw [if_pos y] at hp; cases hp
      refine Inj.till_some.2 ⟨?_, by rw [y]; exact upd_self ..⟩
      rw [y]; show (nx call ds tm0 σ0) j < _; omega
    · rw [if_neg y] at hp
      exact Inj.till_mono L2 (by omega) p l hp
  have hBlt : ∀ q B d' X', ιh q = some (B, d', X') → B < w.heap.size := by
    intro q B d' X' hq
    rcases Nat.lt_or_ge q.num ((nx call ds tm0 σ0) k) with z | z
    · exact I.rel.lt q B d' X' (Inj.till_some.2 ⟨z, hq⟩)
    · obtain ⟨i, e, ob', O', q1, q2, q3, q4, q5, q6, q7, q8, _⟩ := I.pend _ _ _ _ hq z
      rcases Nat.lt_or_ge B w.heap.size with z | z
      · exact z
      · rw [Array.getElem?_eq_none z] at q8; cases q8
  have hcase : ∀ q l, ιn q = some l → (q = ((sig call ds tm0 σ0) j).nx ∧ l = (w.heap.size, 0, X)) ∨ (q ≠ ((sig call ds tm0 σ0) j).nx ∧ ιh q = some l) := by
    intro q l hq
    simp only [ιn, Inj.upd] at hq
    by_cases y : q = ((sig call ds tm0 σ0) j).nx
    · rw [if_pos y] at hq; exact .inl ⟨y, by cases hq; rfl⟩
    · rw [if_neg y] at hq; exact .inr ⟨y, hq⟩
  have hk1 : ιn.till ((nx call ds tm0 σ0) k) = ιh.till ((nx call ds tm0 σ0) k) := by
    refine Inj.ext (fun p l hp => ?_) (Inj.till_mono L2 (Nat.le_refl _))
    obtain ⟨u1, u2⟩ := Inj.till_some.1 hp
    rcases hcase p l u2 with ⟨y, _⟩ | ⟨_, y⟩
    · rw [y] at u1; have : ((sig call ds tm0 σ0) j).nx.num = (nx call ds tm0 σ0) j := rfl; omega
    · exact Inj.till_some.2 ⟨u1, y⟩
  refine ⟨ιn, k, I.put S hao T ho hd hnl he hdd hτ L2 (Nat.le_refl _) I.km (fun i e hi hie => ?_) I.kk (by rw [hk1]; exact I.rel.push O) (fun p B d0 X0 hp hl => ?_) ⟨L2, fun p B d0 X0 hp => ?_, by simp [Wadd], fun B hB _ => by rw [Wadd_get, if_neg (by omega)], rfl, rfl⟩ (h5.mono (hup.trans (Inj.till_mono (fun _ _ h => h) (nx_mono (N := N) S hao T (by omega) (by omega)))))⟩
  · rw [lst_set hjs, ← I.ef i e hi hie]
    have : i ≠ j := fun x => by subst x; rw [hd] at hi; cases hi; rw [hne] at hie; cases hie
    simp [this]
  · rcases hcase p _ hp with ⟨y, z⟩ | ⟨y, z⟩
    · cases z
      refine ⟨j, d, ob, O, hkj, (lst_set hjs).2 (.inl rfl), hd, hal, y, h2, h1, by rw [Wadd_get, if_pos rfl], h4.mono hup, Classical.byContradiction fun x => by have := I.rel.snapLt _ x; omega, fun q d' X' hq => ?_⟩
      rcases hcase q _ hq with ⟨u, _⟩ | ⟨_, u⟩
      · rw [u, y]
      · exact absurd (hBlt q _ _ _ u) (Nat.lt_irrefl _)
    · obtain ⟨i, e, ob', O', q1, q2, q3, q4, q5, q6, q7, q8, q9, qz, q10⟩ := I.pend _ _ _ _ z hl
      have hB := hBlt p _ _ _ z
      refine ⟨i, e, ob', O', q1, (lst_set hjs).2 (.inr q2), q3, q4, q5, q6, q7, by rw [Wadd_get, if_neg (by omega)]; exact q8, q9.mono (Inj.till_mono L2 (Nat.le_refl _)), qz, fun q d' X' hq => ?_⟩
      rcases hcase q _ hq with ⟨_, u⟩ | ⟨_, u⟩
      · cases u; omega
      · exact q10 q d' X' u
  · rcases hcase p _ hp with ⟨_, u⟩ | ⟨_, u⟩
    · cases u; exact .inr (Nat.le_refl _)
    · exact .inl ⟨p, d0, X0, u⟩

include hE S hao T I ho hd hnl he in
theorem Inv.runS {v : V} {ao : AOp} {dd : Option Pos} (hc : cOp E xa o.op = some ao) (hdd : cDst N o.dst = some dd) (hop : op ao call ((tau call ds tm0 σ0) j) ((sig call ds tm0 σ0) j) = .ok v ((sig call ds tm0 σ0) (j + 1))) (hτ : (tau call ds tm0 σ0) (j + 1) = tset ((tau call ds tm0 σ0) j) dd v) (hne : d.isEf = false)
    (hcl : ao.cls = .q ∨ (ao.cls = .ld ∧ ∃ x lo hi, d = .ld x lo hi)) (hls : ∀ st', LdSame call d.ao ((tau call ds tm0 σ0) j) ((sig call ds tm0 σ0) j) st' → same call ao ((tau call ds tm0 σ0) j) v st' = true) :
    Upon P (Nxt CR hm lb N ops call ds tm0 σ0 ι0 w0 listed a j o) ((execOp a.eval o).run P w) := by
  have hj := ops_lt ho
  have hev := I.evs S hao T ho hnl he
  have fin : ∀ {st st' : St}, Upon P (Stl (ιh.till ((nx call ds tm0 σ0) (max j k))) w st st' v) ((execOp a.eval o).run P w) → Upon P (Nxt CR hm lb N ops call ds tm0 σ0 ι0 w0 listed a j o) ((execOp a.eval o).run P w) := by
    intro st st' h
    refine h.mono fun v' w' ⟨_, e2, e3⟩ => ?_
    subst e2
    exact I.putS S hao T ho hd hnl he hdd hτ hne e3
  rcases hcl with hq | ⟨hl, x, lo, hi, hdl⟩
  · exact fin (op_still (CR := CR) hE (.inl hq) hc hev hop)
  · have use : ∀ {i : Nat}, RelO CR (ιh.till ((nx call ds tm0 σ0) (max j k))) ((sig call ds tm0 σ0) i) w → same call ao ((tau call ds tm0 σ0) j) v ((sig call ds tm0 σ0) i) = true → Upon P (Nxt CR hm lb N ops call ds tm0 σ0 ι0 w0 listed a j o) ((execOp a.eval o).run P w) := by
      intro i hR hs
      obtain ⟨st', hs'⟩ := same_ok hs
      exact fin (op_still hE (.inr ⟨hl, hR⟩) hc hev hs')
    subst hdl
    rcases Nat.lt_or_ge j k with hjk | hkj
    · -- behind what does something, later in the text
      rcases I.kk with x0 | ⟨i, e, x0, hi', hie⟩
      · omega
      · have hij : i ≠ j := fun y => by subst y; rw [hd] at hi'; cases hi'; cases hie
        have hji : j < i := by omega
        obtain ⟨p, e', hp, he', hk', _⟩ := S.each i (ds_lt S hi')
        rw [hi'] at he'; cases he'
        cases e with
        | q _ => cases hie
        | ld _ _ _ => cases hie
        | ef n oe =>
          have hn : n = i := by simp only [DOper.kindOk, Bool.and_eq_true, beq_iff_eq] at hk'; exact hk'.1
          have hlst := (I.ef i _ hi' hie).2 (by omega)
          have hle : n ≤ hi := by
            rcases S.pair j i o p _ _ hji ho hp hd hi' with z | z
            · exact absurd (I.before hp (I.closed i p hp hlst) z) hnl
            · rw [hn]; exact (pair_parts z).2.2.2.1 x lo hi rfl hie
          have := T.fwd j x lo hi hd i n oe hji hi' hle
          have hk1 : i + 1 = k := x0.symm
          rw [hk1] at this
          refine use (i := k) ?_ (hls _ this)
          rw [show max j k = k by omega]
          exact I.rel.toO
    · have hmax : max j k = j := by omega
      rcases least (fun i => ∃ e, ds[i]? = some e ∧ e.isEf = true) k j with hno | ⟨i, h1, h2, ⟨e, hi', hie⟩, hmin⟩
      · have hR := I.absorb S hao T hkj (by omega) fun i e h1 h2 h3 => by
          cases hie : e.isEf with
          | false => rfl
          | true => exact absurd ⟨e, h3, hie⟩ (hno i h1 h2)
        refine fin (op_still (CR := CR) hE (.inr ⟨hl, ?_⟩) hc hev hop)
        rw [hmax]; exact hR.toO
      · have hR := I.absorb S hao T h1 (by omega) fun i e h1 h2 h3 => by
          cases hie : e.isEf with
          | false => rfl
          | true => exact absurd ⟨e, h3, hie⟩ (hmin i h1 h2)
        obtain ⟨p, e', hp, he', hk', _⟩ := S.each i (ds_lt S hi')
        rw [hi'] at he'; cases he'
        cases e with
        | q _ => cases hie
        | ld _ _ _ => cases hie
        | ef n oe =>
          have hn : n = i := by simp only [DOper.kindOk, Bool.and_eq_true, beq_iff_eq] at hk'; exact hk'.1
          have hle : lo ≤ n := by
            rcases S.pair i j p o _ _ h2 hp ho hi' hd with z | z
            · have := (I.ef i _ hi' hie).1 (I.before ho he z)
              omega
            · rw [hn]; exact (pair_parts z).2.2.1 x lo hi rfl hie
          refine use (i := i) (fun q B d0 X hq hdead => ?_) (hls _ (T.back j x lo hi hd i n oe h2 hi' hle))
          rw [hmax] at hq ⊢
          obtain ⟨u1, u2⟩ := Inj.till_some.1 hq
          rcases Nat.lt_or_ge q.num ((nx call ds tm0 σ0) i) with z | z
          · obtain ⟨O, g1, g2⟩ := hR.obj q B d0 X (Inj.till_some.2 ⟨z, u2⟩) hdead
            exact ⟨O, g1, g2.mono (Inj.till_mono (fun _ _ h => h) (nx_mono (N := N) S hao T (by omega) (by omega)))⟩
          · rw [hR.out q z] at hdead; cases hdead
end
end Den

namespace Den
open Go

theorem count_set {listed : Array Bool} {j : Nat} (h : listed.getD j true = false) : (listed.setIfInBounds j true).toList.count false + 1 = listed.toList.count false := by
  have hj : j < listed.size := by
    rcases Nat.lt_or_ge j listed.size with x | x
    · exact x
    · simp [Array.getElem?_eq_none x] at h
  have hv : listed.toList[j]'(by simpa using hj) = false := by simpa [hj] using h
  rw [Array.toList_setIfInBounds, List.count_set (by simpa using hj), hv]
  have hp : 0 < listed.toList.count false := List.count_pos_iff.2 (by rw [← hv]; exact List.getElem_mem _)
  rw [if_pos (show (false == false) = true from rfl), if_neg (show ¬ (true == false) = true from by simp)]
  omega
theorem all_lst {listed : Array Bool} (h : listed.toList.count false = 0) : ∀ i, i < listed.size → lst listed i := by
  intro i hi
  rw [List.count_eq_zero] at h
  unfold lst
  cases hb : listed[i] with
  | true => simp [hi, hb]
  | false => exact absurd (by rw [← hb]; simp) h

section
variable {P : Program} {E : Env} (hE : TyOK P E) {CR : CRel} {call : Cl} (hcall : CallOK P CR call) {xa hm lb N : Nat} (hX : XOK P xa) {F : Fence} (hF : Wd F) {ops : Array Oper} {ds : List DOper} {tm0 tm' : Den.T V} {σ0 σ' : St}
variable (S : Stat ops ds) (hao : ∀ (i : Nat) o, ops[i]? = some o → ∃ d, ds[i]? = some d ∧ d.ao = cOper E xa hm N ops o) (T : Trace call ds tm0 σ0 [] [] tm' σ')

section
variable {ι0 ιh : Inj} {w0 w : World} {listed : Array Bool} {a : Act} {k : Nat} (I : Inv CR hm lb N ops call ds tm0 σ0 ι0 w0 listed a w ιh k)
variable {j : Nat} {o : Oper} {d : DOper} (ho : ops[j]? = some o) (hd : ds[j]? = some d) (hnl : ¬ lst listed j) (he : ∀ e ∈ o.after, Region.binds .any e = true → lst listed e.on)
include S hao T I ho hd hnl he in
/-- what would do something is not wanted. -/
theorem Inv.skipE {dd : Option Pos} (hdd : cDst N o.dst = some dd) (hs : (sig call ds tm0 σ0) (j + 1) = (sig call ds tm0 σ0) j) (hτ : (tau call ds tm0 σ0) (j + 1) = tset ((tau call ds tm0 σ0) j) dd un) (hef : d.isEf = true) : Nxt CR hm lb N ops call ds tm0 σ0 ι0 w0 listed a j o undef w := by
  have hj := ops_lt ho
  have hjs : j < listed.size := by rw [I.sz]; exact hj
  have hkj : k ≤ j := by
    rcases Nat.lt_or_ge j k with x | x
    · exact absurd ((I.ef j d hd hef).2 x) hnl
    · exact x
  have hall : ∀ i e, i < j → ds[i]? = some e → e.isEf = true → i < k := by
    intro i e hij hi hie
    obtain ⟨p, e', hp, he', _⟩ := S.each i (by omega)
    rw [hi] at he'; cases he'
    rcases S.pair i j p o e d hij hp ho hi hd with y | y
    · exact (I.ef i e hi hie).1 (I.before ho he y)
    · exact absurd hef (fun z => (pair_parts y).1 hie z)
  have hR := I.absorb S hao T hkj (by omega) fun i e h1 h2 h3 => by
    cases hie : e.isEf with
    | false => rfl
    | true => have := hall i e h2 h3 hie; omega
  have hn1 : (nx call ds tm0 σ0) (j + 1) = (nx call ds tm0 σ0) j := by show ((sig call ds tm0 σ0) (j + 1)).nx.num = _; rw [hs]
  have m2 := nx_mono (N := N) S hao T hkj (by omega)
  refine ⟨ιh, j + 1, I.put S hao T ho hd hnl he hdd hτ (fun _ _ h => h) (by omega) hj (fun i e hi hie => ?_) (.inr ⟨j, d, rfl, hd, hef⟩) (by rw [hn1, hs]; exact hR) (fun p B d0 X hp hl => ?_) (.refl _ _) (.un _)⟩
  · rw [lst_set hjs, I.ef i e hi hie]
    refine ⟨fun x => by omega, fun x => ?_⟩
    by_cases y : i = j
    · exact .inl y
    · exact .inr (hall i e (by omega) hi hie)
  · obtain ⟨i, e, ob, O, q1, q2, q3, q4, q5, q6, q⟩ := I.pend p B d0 X hp (by omega)
    refine ⟨i, e, ob, O, ?_, (lst_set hjs).2 (.inr q2), q3, q4, q5, q6, q⟩
    have hpn : p.num = (nx call ds tm0 σ0) i := by rw [q5]
    have e1 : (nx call ds tm0 σ0) (i + 1) = (nx call ds tm0 σ0) i + 1 := by show ((sig call ds tm0 σ0) (i + 1)).nx.num = _; rw [q6, St.nx_add, Pos.num_succ]
    rcases Nat.lt_trichotomy i j with x | x | x
    · have := nx_mono (N := N) S hao T (show i + 1 ≤ j from x) (by omega)
      omega
    · subst x
      rw [hd] at q3; cases q3
      simp [DOper.isAl, hef] at q4
    · exact x

include S hao T I in
/-- all are listed. -/
theorem Inv.fin (hall : ∀ i, i < ops.size → lst listed i) : Step ι0 w0 ιh w ∧ Rel CR ιh σ' w ∧ AR hm lb ιh N tm' w a := by
  have hlast := T.last
  rw [S.len] at hlast
  have e1 : (sig call ds tm0 σ0) ops.size = σ' := by show (tr call ds tm0 σ0 ops.size).2 = _; rw [hlast]
  have e2 : (tau call ds tm0 σ0) ops.size = tm' := by show (tr call ds tm0 σ0 ops.size).1 = _; rw [hlast]
  have hR := I.absorb S hao T I.km (Nat.le_refl _) fun i e h1 h2 h3 => by
    cases hie : e.isEf with
    | false => rfl
    | true => have := (I.ef i e h3 hie).1 (hall i h2); omega
  have hι : ιh.till ((nx call ds tm0 σ0) ops.size) = ιh := by
    refine Inj.ext (Inj.till_le _ _) fun p l hp => Inj.till_some.2 ⟨?_, hp⟩
    rcases Nat.lt_or_ge p.num ((nx call ds tm0 σ0) k) with z | z
    · have := nx_mono (N := N) S hao T I.km (Nat.le_refl _); omega
    · obtain ⟨B, d0, X⟩ := l
      obtain ⟨i, e, ob, O, q1, q2, q3, q4, q5, q6, q⟩ := I.pend p B d0 X hp z
      have hpn : p.num = (nx call ds tm0 σ0) i := by rw [q5]
      have e1 : (nx call ds tm0 σ0) (i + 1) = (nx call ds tm0 σ0) i + 1 := by show ((sig call ds tm0 σ0) (i + 1)).nx.num = _; rw [q6, St.nx_add, Pos.num_succ]
      have := nx_mono (N := N) S hao T (show i + 1 ≤ ops.size from ds_lt S q3) (Nat.le_refl _)
      omega
  rw [hι, e1] at hR
  refine ⟨I.step, hR, ⟨fun p => ?_, I.size⟩, I.defs⟩
  have hpp : pos p.num = p := Pos.num_inj (num_pos _)
  obtain ⟨c, hc, hc0, hv, hw⟩ := I.tmp p.num
  rw [hpp] at hv
  have := tau_same (t := p.num) (N := N) S hao T hc (Nat.le_refl _) fun i q h1 h2 h3 h4 => by
    have := (hw i q h3 h4).1 (hall i h2); omega
  rw [hpp, e2] at this
  rw [this, ← hι]
  exact hv.mono (Inj.till_mono (fun _ _ h => h) (nx_mono (N := N) S hao T (by have := I.km; omega) (Nat.le_refl _)))
end

include hE hcall hX hF S hao T in
theorem any_ok {ι0 : Inj} {w0 : World} {Q : Exit → Act → World → Prop} (hQ : ∀ ι' a' w', Step ι0 w0 ι' w' → Rel CR ι' σ' w' → AR hm lb ι' N tm' w' a' → Q .normal a' w') :
    ∀ (fuel : Nat) {listed : Array Bool} {a : Act} {w : World} {ιh : Inj} {k : Nat}, Inv CR hm lb N ops call ds tm0 σ0 ι0 w0 listed a w ιh k → listed.toList.count false ≤ fuel → wpAnyIn F 0 P .any ops Q fuel listed a w := by
  have hfin : ∀ {listed : Array Bool} {a : Act} {w : World} {ιh : Inj} {k : Nat}, Inv CR hm lb N ops call ds tm0 σ0 ι0 w0 listed a w ιh k → Region.ready .any ops listed = [] → Q .normal a w := by
    intro listed a w ιh k I hr
    have hall : ∀ i, i < ops.size → lst listed i := by
      intro i
      induction i using Nat.strongRecOn with
      | ind i ih =>
        intro hi
        by_cases hl : lst listed i
        · exact hl
        · exfalso
          obtain ⟨p, e, hp, _, _, hb⟩ := S.each i hi
          have : i ∈ Region.ready .any ops listed := by
            rw [mem_ready]
            refine ⟨?_, p, hp, fun x hx hxb => ih x.on (hb x hx hxb) (by have := hb x hx hxb; omega)⟩
            have hs : i < listed.size := by rw [I.sz]; exact hi
            unfold lst at hl
            simp [hs] at hl ⊢
            exact hl
          rw [hr] at this; cases this
    obtain ⟨h1, h2, h3⟩ := I.fin S hao T hall
    exact hQ _ _ _ h1 h2 h3
  intro fuel
  induction fuel with
  | zero =>
    intro listed a w ιh k I hc
    have hr : Region.ready .any ops listed = [] := by
      rw [List.eq_nil_iff_forall_not_mem]
      intro j hj
      obtain ⟨h0, o, ho, _⟩ := mem_ready.1 hj
      have := all_lst (by omega : listed.toList.count false = 0) j (by rw [I.sz]; exact ops_lt ho)
      have hs : j < listed.size := by rw [I.sz]; exact ops_lt ho
      unfold lst at this
      simp [hs] at this h0
      rw [this] at h0; cases h0
    exact ⟨hr, hfin I hr⟩
  | succ fuel ih =>
    intro listed a w ιh k I hc
    refine ⟨hfin I, fun j hj => ?_⟩
    obtain ⟨h0, o, ho, hedge⟩ := mem_ready.1 hj
    have hs : j < listed.size := by rw [I.sz]; exact ops_lt ho
    have hnl : ¬ lst listed j := by unfold lst; simp [hs] at h0 ⊢; exact h0
    have hcnt := count_set h0
    obtain ⟨o', d, ho', hd, hk, _⟩ := S.each j (ops_lt ho)
    rw [ho] at ho'; cases ho'
    have hnext : ∀ v' w', Nxt CR hm lb N ops call ds tm0 σ0 ι0 w0 listed a j o v' w' → wpAnyIn F 0 P .any ops Q fuel (listed.setIfInBounds j true) (a.put o.dst v') w' := fun v' w' ⟨ιh', k', I'⟩ => ih I' (by omega)
    obtain ⟨ao, dd, hcop, hdd, hnd, hcl, D⟩ := does (N := N) hao T ho hd hk
    have hrun : ∀ {v : V}, op ao call ((tau call ds tm0 σ0) j) ((sig call ds tm0 σ0) j) = .ok v ((sig call ds tm0 σ0) (j + 1)) → (tau call ds tm0 σ0) (j + 1) = tset ((tau call ds tm0 σ0) j) dd v → (∀ st', LdSame call d.ao ((tau call ds tm0 σ0) j) ((sig call ds tm0 σ0) j) st' → same call ao ((tau call ds tm0 σ0) j) v st' = true) → Upon P (Nxt CR hm lb N ops call ds tm0 σ0 ι0 w0 listed a j o) ((execOp a.eval o).run P w) := by
      intro v h1 h2 h3
      cases hef : d.isEf with
      | true => exact I.runE hE hcall hX S hao T ho hd hnl hedge hcop hdd h1 h2 hef
      | false =>
        cases d with
        | ef _ _ => cases hef
        | ld x lo hi =>
          simp only [DOper.kindOk, Bool.and_eq_true, beq_iff_eq] at hk
          exact I.runS hE S hao T ho hd hnl hedge hcop hdd h1 h2 hef (.inr ⟨by rw [← hcl]; exact hk.2, x, lo, hi, rfl⟩) h3
        | q x =>
          simp only [DOper.kindOk, Bool.and_eq_true, Bool.or_eq_true, beq_iff_eq] at hk
          rcases hk.2 with z | z
          · exact I.runS hE S hao T ho hd hnl hedge hcop hdd h1 h2 hef (.inl (by rw [← hcl]; exact z)) h3
          · exact I.runA hE S hao T ho hd hnl hedge hcop hdd h1 h2 (by simp [DOper.isAl, DOper.isEf, DOper.ao, z]) (by rw [← hcl]; exact z)
    have hls : ∀ {v : V}, (d.ao = .mk dd ao ∨ ∃ g t, d.ao = .gd g t dd ao ∧ (tg ((tau call ds tm0 σ0) j) g).onB false (fun x => x == t) = true) → op ao call ((tau call ds tm0 σ0) j) ((sig call ds tm0 σ0) j) = .ok v ((sig call ds tm0 σ0) (j + 1)) → ∀ st', LdSame call d.ao ((tau call ds tm0 σ0) j) ((sig call ds tm0 σ0) j) st' → same call ao ((tau call ds tm0 σ0) j) v st' = true := by
      intro v hor h1 st' hL
      rcases hor with x | ⟨g, t, x, y⟩
      · rw [x] at hL
        obtain ⟨u, st1, u1, u2⟩ := hL
        rw [h1] at u1; cases u1; exact u2
      · rw [x] at hL
        obtain ⟨u, st1, u1, u2⟩ := hL y
        rw [h1] at u1; cases u1; exact u2
    have hgo : Region.wanted o (yielded ops a.tmps) = true → Upon P (Nxt CR hm lb N ops call ds tm0 σ0 ι0 w0 listed a j o) ((execOp a.eval o).run P w) → wpOpIn F 0 P ops Q j (wpAnyIn F 0 P .any ops Q fuel (listed.setIfInBounds j true)) a w := by
      intro hw hu
      unfold wpOpIn
      simp only [ho]
      rw [if_pos hw]
      refine ⟨about_wide hF o a w, ?_⟩
      rw [Oper.semAt_eq _ _ _ hnd]
      exact uponIn_of hF hu hnext
    have hgmem : ∀ {jg t g}, o.guard = some (jg, t) → (ops[jg]?).bind (·.dst) = some g → g ∈ names ops o := by
      intro jg t g h1 h2
      simp only [names, Oper.looksAt, h1, h2, List.mem_append]
      exact .inr (.inr (by simp))
    cases D with
    | free g1 g2 g3 g4 => exact hgo (by simp [Region.wanted, g1]) (hrun g3 g4 (hls (.inl g2) g3))
    | yes g1 g2 g3 g4 g5 g6 =>
      have hv := I.opd S hao T ho hnl hedge (hgmem g1 g2)
      refine hgo ?_ (hrun g5 g6 (hls (.inr ⟨_, _, g3, g4⟩) g5))
      simp only [Region.wanted, g1]
      rw [← wanted_ok1 g2 hv]; exact g4
    | no g1 g2 g3 g4 g5 g6 =>
      have hv := I.opd S hao T ho hnl hedge (hgmem g1 g2)
      have hw : ¬ Region.wanted o (yielded ops a.tmps) = true := by
        simp only [Region.wanted, g1]
        rw [← wanted_ok1 g2 hv, g4]; simp
      unfold wpOpIn
      simp only [ho]
      rw [if_neg hw]
      refine ⟨about_wide hF o a w, hnext _ _ ?_⟩
      cases hef : d.isEf with
      | true => exact I.skipE S hao T ho hd hnl hedge hdd g5 g6 hef
      | false => exact I.putS S hao T ho hd hnl hedge hdd g6 hef (.un _)

end
section
variable {P : Program} {E : Env} (hE : TyOK P E) {CR : CRel} {call : Cl} (hcall : CallOK P CR call) {xa hm lb N : Nat} (hX : XOK P xa) {F : Fence} (hF : Wd F)
include hE hcall hX hF in
/-- a region that draws its order. -/
theorem opsD_ok (hmix : P.follows .mixedOrders = true) {ops : Array Oper} {ds : List DOper} (hok : drawOk ops ds = true) (hao : ∀ (i : Nat) o, ops[i]? = some o → ∃ d, ds[i]? = some d ∧ d.ao = cOper E xa hm N ops o)
    {id : Nat} {Q : Exit → Act → World → Prop} {tm tm' : T V} {σ σ' : St} (h : opsD call ds [] [] tm σ = .ok tm' σ') {ι : Inj} {w : World} {a : Act} (hR : Rel CR ι σ w) (hA : AR hm lb ι N tm w a)
    (hQ : ∀ ι' a' w', Step ι w ι' w' → Rel CR ι' σ' w' → AR hm lb ι' N tm' w' a' → Q .normal a' w') : (Code.region id ops true).wpIn F 0 P Q a w := by
  have S := drawOk_stat hok
  have T := opsD_trace h
  have hs : Step ι w ι { w with drawn := w.drawn + 1 } := Step.world rfl rfl rfl
  have h0 : tr call ds tm σ 0 = (tm, σ) := by cases ds <;> rfl
  have hι : ι.till (nx call ds tm σ 0) = ι := by
    refine Inj.ext (Inj.till_le _ _) fun p l hp => Inj.till_some.2 ⟨?_, hp⟩
    show p.num < (tr call ds tm σ 0).2.nx.num
    rw [h0]; exact hR.dom p l hp
  have hnl : ∀ i, ¬ lst (Array.replicate ops.size false) i := by
    intro i hl
    unfold lst at hl
    simp only [Array.getD_eq_getD_getElem?, Array.getElem?_replicate] at hl
    split at hl <;> cases hl
  refine wpIn_region_any hmix (any_ok hE hcall hX hF S hao T hQ ops.size (ιh := ι) (k := 0) ⟨by simp, fun i o _ hl => absurd hl (hnl i), fun i d _ _ => ⟨fun hl => absurd hl (hnl i), fun h => by omega⟩, Nat.zero_le _, .inl rfl, ?_, fun p B d X hp hl => ?_, fun t => ?_, hA.tmps.size, hA.defers.step hs, hs⟩ (by simp [List.count_replicate]))
  · rw [hι]
    show Rel CR ι (tr call ds tm σ 0).2 _
    rw [h0]; exact hR.world rfl
  · have := hR.dom p _ hp
    have hl' : (tr call ds tm σ 0).2.nx.num ≤ p.num := hl
    rw [h0] at hl'
    have hl'' : σ.nx.num ≤ p.num := hl'
    omega
  · refine ⟨0, Nat.zero_le _, .inl rfl, ?_, fun i o _ _ => ⟨fun hl => absurd hl (hnl i), fun h => by omega⟩⟩
    rw [show max 0 0 = 0 from rfl, hι]
    show VR ι (tg (tr call ds tm σ 0).1 (pos t)) _
    rw [h0]
    have := hA.tmps.get (pos t)
    rw [num_pos] at this
    exact this
end
end Den

namespace Den
open Go

/-- the kinds and numbers of a drawn region's operations. -/
def kinds (l : List AOper) : List Cls := l.map AOper.cls
def loOf (ms : List Nat) (cl : List Cls) (i n : Nat) : Nat := (((List.range i).find? fun e => cl[e]? == some .ef && !isBef ms e i)).getD n
def hiOf (ms : List Nat) (cl : List Cls) (i n : Nat) : Nat := (((List.range n).reverse.find? fun e => decide (i < e) && cl[e]? == some .ef && !isBef ms i e)).getD 0
def dOpers (ms : List Nat) (cl : List Cls) (n : Nat) : Nat → List AOper → List DOper
  | _, [] => []
  | i, a :: l => (match a.cls with | .ef => DOper.ef i a | .ld => .ld a (loOf ms cl i n) (hiOf ms cl i n) | _ => .q a) :: dOpers ms cl n (i + 1) l
theorem dOpers_ao (ms : List Nat) (cl : List Cls) (n : Nat) : ∀ (l : List AOper) (i j : Nat) (a : AOper), l[j]? = some a → ∃ d, (dOpers ms cl n i l)[j]? = some d ∧ d.ao = a
  | [], _, _, _, h => by simp at h
  | b :: l, i, 0, a, h => by
    simp at h; subst h
    refine ⟨_, rfl, ?_⟩
    cases b.cls <;> rfl
  | b :: l, i, j + 1, a, h => by
    simp at h
    obtain ⟨d, h1, h2⟩ := dOpers_ao ms cl n l (i + 1) j a h
    exact ⟨d, by simpa [dOpers] using h1, h2⟩
def cDraw (E : Env) (xa hm N : Nat) (ops : Array Oper) : List DOper :=
  let l := ops.toList.map (cOper E xa hm N ops)
  dOpers (befs ops.toList []) (kinds l) ops.size 0 l

/-- no deferring, no range over a function. -/
def noDf : Code → Bool
  | .region _ ops _ => ops.all fun o => match o.op with | .defer _ => false | _ => true
  | .seq a b => noDf a && noDf b
  | .cond _ a b => noDf a && noDf b
  | .block _ a => noDf a
  | .loop a => noDf a
  | .scope a => noDf a
  | .rangeFunc .. => false
  | _ => true
def cCode (E : Env) (xa hm N : Nat) : Code → C
  | .skip => .skip
  | .region _ ops false => .reg (ops.toList.map (cOper E xa hm N ops))
  | .region _ ops true => if drawOk ops (cDraw E xa hm N ops) then .regD (cDraw E xa hm N ops) else .bad
  | .seq a b => .seq (cCode E xa hm N a) (cCode E xa hm N b)
  | .cond c a b => match cOpd c with | some x => .cond x (cCode E xa hm N a) (cCode E xa hm N b) | none => .bad
  | .block id a => .block id (cCode E xa hm N a)
  | .loop a => .loop (cCode E xa hm N a)
  | .rangeFunc g ps as bo => match cOpd g with
    | some x => if ps.toList.all (fun p => decide (p < N)) && noDf as && noDf bo then .rf x (ps.toList.map pos) (cCode E xa hm N as) (cCode E xa hm N bo) else .bad
    | none => .bad
  | .exit id => .exit id
  | .scope a => cCode E xa hm N a
  | .label _ => .skip
  | .goto _ => .bad
  | .ret => .ret
  | .refuse _ => .bad

/-- how code is left. -/
def exOf : Ex → Exit
  | .nrm => .normal
  | .ex i => .exit i
  | .ret => .ret
/-- a range over a function is sound. -/
def RfOK (P : Program) (E : Env) (CR : CRel) (call : Cl) (xa hm N : Nat) : Prop :=
  ∀ {lb : Nat} {F : Fence}, Wd F → F.round = none → ∀ {g : Operand} {x : Opd} {ps : Array Tmp} {as bo : Code}, cOpd g = some x → (∀ p ∈ ps.toList, p < N) → noDf as = true → noDf bo = true →
    ∀ {tm tm' : T V} {σ σ' : St} {xx : Ex}, cRf call x (ps.toList.map pos) (cCode E xa hm N as) (cCode E xa hm N bo) tm σ = .ok xx tm' σ' → ∀ {ι : Inj} {w : World} {a : Act} {Q : Exit → Act → World → Prop}, Rel CR ι σ w → AR hm lb ι N tm w a →
      (∀ ι' a' w', Step ι w ι' w' → Rel CR ι' σ' w' → AR hm lb ι' N tm' w' a' → Q (exOf xx) a' w') → (Code.rangeFunc g ps as bo).wpIn F 0 P Q a w

/-- left, but by no goto. -/
def noJump (Q : Exit → Act → World → Prop) : Exit → Act → World → Prop
  | .goto _, _, _ => False
  | e, a, w => Q e a w
theorem stepR_scope {P : Program} {b : Frame} {a : Act} {k : List Item} {cs : List Frame} {w : World} {c : Code} : step P (lone (b.atR a (.code (.scope c) :: k)) cs w) = .next (lone (b.atR a (.code c :: .inScope c :: k)) cs w) :=
  step_lone_go (by simp [stepG, stepG.exec, Frame.atR])
theorem stepR_inScope {P : Program} {b : Frame} {a : Act} {k : List Item} {cs : List Frame} {w : World} {c : Code} : step P (lone (b.atR a (.inScope c :: k)) cs w) = .next (lone (b.atR a k) cs w) :=
  step_lone_go (by simp [stepG, stepG.exec, Frame.atR])
theorem wpIn_scope {P : Program} {F : Fence} {n : Nat} {a : Act} {w : World} {c : Code} {Q : Exit → Act → World → Prop} (h : c.wpIn F n P (noJump Q) a w) : (Code.scope c).wpIn F n P Q a w := by
  intro b k cs hro hb hr
  have h0 : (lone (b.atR a (.code (.scope c) :: k)) cs w).fenced P F := fenced_calm hb hr rfl
  obtain ⟨e, a₁, w₁, hq, harr⟩ := h b (.inScope c :: k) cs hro hb hr
  cases e with
  | normal => exact ⟨.normal, a₁, w₁, hq, .head h0 stepR_scope (StepsIn.trans harr (.one (fenced_calm hb hr rfl) stepR_inScope))⟩
  | exit id =>
    have hx : exitTo id (.inScope c :: k) = exitTo id k := by simp [exitTo]
    exact ⟨.exit id, a₁, w₁, hq, fun k' hk => .head h0 stepR_scope (harr.1 k' (by rw [hx]; exact hk)),
      fun hr' hk => let ⟨k₁, h1, h2⟩ := harr.2 hr' (by rw [hx]; exact hk); ⟨k₁, h1, .head h0 stepR_scope h2⟩⟩
  | goto l => exact hq.elim
  | ret => exact ⟨_, a₁, w₁, hq, .of_steps (.one h0 stepR_scope) harr⟩
  | panic ch => exact ⟨_, a₁, w₁, hq, .of_steps (.one h0 stepR_scope) harr⟩
  | outgrown => exact ⟨_, a₁, w₁, hq, .of_steps (.one h0 stepR_scope) harr⟩

theorem rc_ok {r : RC} {k : Ex → T V → St → RC} {x : Ex} {tm : T V} {st : St} (h : r.bnd .no k = .ok x tm st) : ∃ x1 tm1 st1, r = .ok x1 tm1 st1 ∧ k x1 tm1 st1 = .ok x tm st := by
  cases r with
  | no => cases h
  | ok a b c => exact ⟨a, b, c, rfl, h⟩
theorem roc_ok {r : RO} {k : T V → St → RC} {x : Ex} {tm : T V} {st : St} (h : r.bnd .no k = .ok x tm st) : ∃ tm1 st1, r = .ok tm1 st1 ∧ k tm1 st1 = .ok x tm st := by
  cases r with
  | no => cases h
  | ok b c => exact ⟨b, c, rfl, h⟩

section
variable {P : Program} {E : Env} (hE : TyOK P E) {CR : CRel} {call : Cl} (hcall : CallOK P CR call) {xa hm lb N : Nat} (hX : XOK P xa) (hmix : P.follows .mixedOrders = true) (hrf : RfOK P E CR call xa hm N) {F : Fence} (hF : Wd F)
include hE hcall hX hmix hrf hF

theorem code_ok (K : Nat) : ∀ (c : Code), (F.round = none ∨ noDf c = true) → ∀ {tm tm' : T V} {σ σ' : St} {x : Ex}, code call K (cCode E xa hm N c) tm σ = .ok x tm' σ' → ∀ {ι : Inj} {w : World} {a : Act} {Q : Exit → Act → World → Prop}, Rel CR ι σ w → AR hm lb ι N tm w a →
    (∀ ι' a' w', Step ι w ι' w' → Rel CR ι' σ' w' → AR hm lb ι' N tm' w' a' → Q (exOf x) a' w') → c.wpIn F 0 P Q a w := by
  intro c
  induction c with
  | skip =>
    intro _ tm tm' σ σ' x h ι w a Q hR hA hQ
    cases h
    exact wpIn_skip (hQ _ _ _ (.refl _ _) hR hA)
  | label l =>
    intro _ tm tm' σ σ' x h ι w a Q hR hA hQ
    cases h
    exact wpIn_label (hQ _ _ _ (.refl _ _) hR hA)
  | goto l => intro _ tm tm' σ σ' x h; cases h
  | refuse s => intro _ tm tm' σ σ' x h; cases h
  | exit id =>
    intro _ tm tm' σ σ' x h ι w a Q hR hA hQ
    cases h
    exact wpIn_exit (hQ _ _ _ (.refl _ _) hR hA)
  | ret =>
    intro _ tm tm' σ σ' x h ι w a Q hR hA hQ
    cases h
    exact wpIn_ret (hQ _ _ _ (.refl _ _) hR hA)
  | region id ops draw =>
    intro hd tm tm' σ σ' x h ι w a Q hR hA hQ
    cases draw with
    | false =>
      change cReg call (ops.toList.map (cOper E xa hm N ops)) tm σ = _ at h
      obtain ⟨tm1, st1, h1, h2⟩ := roc_ok h
      cases h2
      refine wpIn_region ?_
      have hr : F.round = none ∨ ∀ o ∈ ops, ∀ c, o.op ≠ .defer c := by
        refine hd.imp (fun h => h) fun hn o ho c e => ?_
        simp only [noDf, Array.all_eq_true_iff_forall_mem] at hn
        have := hn o ho
        rw [e] at this; cases this
      have := ops_ok (Q := Q) hE hcall hX hF hr ops.toList 0 (fun j => by simp) h1 hR hA (fun ι' a' w' s1 s2 s3 => hQ ι' a' w' s1 s2 s3)
      rw [List.range_eq_range']
      simpa using this
    | true =>
      simp only [cCode] at h
      split at h
      · rename_i hok
        change cRegD call (cDraw E xa hm N ops) tm σ = _ at h
        obtain ⟨tm1, st1, h1, h2⟩ := roc_ok h
        cases h2
        refine opsD_ok hE hcall hX hF hmix hok (fun i o ho => ?_) h1 hR hA hQ
        exact dOpers_ao _ _ _ _ _ _ _ (by simp [ho])
      · cases h
  | seq x y ihx ihy =>
    intro hd tm tm' σ σ' e h ι w a Q hR hA hQ
    have hdx : F.round = none ∨ noDf x = true := hd.imp (fun h => h) fun h => by simp only [noDf, Bool.and_eq_true] at h; exact h.1
    have hdy : F.round = none ∨ noDf y = true := hd.imp (fun h => h) fun h => by simp only [noDf, Bool.and_eq_true] at h; exact h.2
    change cSeq (code call K (cCode E xa hm N x)) (code call K (cCode E xa hm N y)) tm σ = _ at h
    obtain ⟨x1, tm1, st1, h1, h2⟩ := rc_ok h
    refine wpIn_seq (ihx hdx h1 hR hA fun ι1 a1 w1 s1 s2 s3 => ?_)
    cases x1 with
    | nrm => exact ihy hdy h2 s2 s3 fun ι2 a2 w2 t1 t2 t3 => hQ ι2 a2 w2 (s1.trans t1) t2 t3
    | ex i => cases h2; exact hQ ι1 a1 w1 s1 s2 s3
    | ret => cases h2; exact hQ ι1 a1 w1 s1 s2 s3
  | cond c x y ihx ihy =>
    intro hd tm tm' σ σ' e h ι w a Q hR hA hQ
    have hdx : F.round = none ∨ noDf x = true := hd.imp (fun h => h) fun h => by simp only [noDf, Bool.and_eq_true] at h; exact h.1
    have hdy : F.round = none ∨ noDf y = true := hd.imp (fun h => h) fun h => by simp only [noDf, Bool.and_eq_true] at h; exact h.2
    simp only [cCode] at h
    split at h
    · rename_i cc hcc
      have hv := ev_ok hA.tmps hcc
      change (ev tm cc).onB .no (fun t => cond t (code call K (cCode E xa hm N x) tm σ) (code call K (cCode E xa hm N y) tm σ)) = _ at h
      generalize ev tm cc = v at h hv
      cases v <;> first | (cases h; done) | skip
      rename_i t
      generalize hev : a.eval c = v' at hv
      cases hv
      cases t with
      | true => exact wpIn_cond_true hev (ihx hdx h hR hA hQ)
      | false => exact wpIn_cond_false hev (ihy hdy h hR hA hQ)
    · cases h
  | block id c ih =>
    intro hd tm tm' σ σ' e h ι w a Q hR hA hQ
    change cBlock id (code call K (cCode E xa hm N c)) tm σ = _ at h
    obtain ⟨x1, tm1, st1, h1, h2⟩ := rc_ok h
    refine wpIn_block (ih hd h1 hR hA fun ι1 a1 w1 s1 s2 s3 => ?_)
    cases x1 with
    | nrm => cases h2; exact hQ ι1 a1 w1 s1 s2 s3
    | ret => cases h2; exact hQ ι1 a1 w1 s1 s2 s3
    | ex i =>
      change cond (Nat.beq i id) _ _ = _ at h2
      show (if i = id then Q .normal a1 w1 else Q (.exit i) a1 w1)
      cases hb : Nat.beq i id with
      | true =>
        rw [hb] at h2; cases h2
        rw [if_pos (Nat.eq_of_beq_eq_true hb)]; exact hQ ι1 a1 w1 s1 s2 s3
      | false =>
        rw [hb] at h2; cases h2
        rw [if_neg (fun x => by subst x; simp at hb)]; exact hQ ι1 a1 w1 s1 s2 s3
  | loop c ih =>
    intro hd tm tm' σ σ' e h ι w a Q hR hA hQ
    refine wpIn_loop_rounds K ?_
    change cLoop K (code call K (cCode E xa hm N c)) tm σ = _ at h
    have key : ∀ m {tm σ} {ι : Inj} {w : World} {a : Act}, cLoop m (code call K (cCode E xa hm N c)) tm σ = .ok e tm' σ' → Rel CR ι σ w → AR hm lb ι N tm w a → (∀ ι' a' w', Step ι w ι' w' → Rel CR ι' σ' w' → AR hm lb ι' N tm' w' a' → Q (exOf e) a' w') → Code.roundsIn F 0 P c Q m a w := by
      intro m
      induction m with
      | zero => intro tm σ ι w a h; cases h
      | succ m ihm =>
        intro tm σ ι w a h hR hA hQ
        change (code call K (cCode E xa hm N c) tm σ).bnd .no (fun x tm st => onEx x (cLoop m (code call K (cCode E xa hm N c)) tm st) (fun i => .ok (.ex i) tm st) (.ok .ret tm st)) = _ at h
        obtain ⟨x1, tm1, st1, h1, h2⟩ := rc_ok h
        refine ih hd h1 hR hA fun ι1 a1 w1 s1 s2 s3 => ?_
        cases x1 with
        | nrm => exact ihm h2 s2 s3 fun ι2 a2 w2 t1 t2 t3 => hQ ι2 a2 w2 (s1.trans t1) t2 t3
        | ex i => cases h2; exact hQ ι1 a1 w1 s1 s2 s3
        | ret => cases h2; exact hQ ι1 a1 w1 s1 s2 s3
    exact key K h hR hA hQ
  | scope c ih =>
    intro hd tm tm' σ σ' e h ι w a Q hR hA hQ
    exact wpIn_scope (ih hd h hR hA fun ι1 a1 w1 s1 s2 s3 => by have := hQ ι1 a1 w1 s1 s2 s3; cases e <;> exact this)
  | rangeFunc g ps as bo iha ihb =>
    intro hd tm tm' σ σ' e h ι w a Q hR hA hQ
    have hr : F.round = none := hd.resolve_right (by simp [noDf])
    simp only [cCode] at h
    split at h
    · rename_i x hx
      split at h
      · rename_i hall
        simp only [Bool.and_eq_true, List.all_eq_true, decide_eq_true_eq] at hall
        exact hrf hF hr hx hall.1.1 hall.1.2 hall.2 h hR hA hQ
      · cases h
    · cases h
end
end Den

namespace Den
open Go

/-- what is laid down with a loop: its code, compiled. -/
def CRl (E : Env) (xa hm : Nat) (Z : Nat → Option Go.Obj) : CRel := ⟨fun c d N => d = cCode E xa hm N c ∧ noDf c = true, Z⟩
theorem sameLen_eq {ps : List Pos} : ∀ {vs : List V}, sameLen ps vs = true → ps.length = vs.length := by
  induction ps with
  | nil => intro vs h; cases vs <;> first | rfl | cases h
  | cons p ps ih =>
    intro vs h
    cases vs with
    | nil => cases h
    | cons v vs => simp [ih (show sameLen ps vs = true from h)]
theorem TR.puts {ι : Inj} {N : Nat} : ∀ {ps : List Pos} {vs : List V} {vs' : List Value} {tm : T V} {tmps : Array Value}, TR ι N tm tmps → (∀ p ∈ ps, p.num < N) → CL ι vs vs' → ps.length = vs.length →
    TR ι N (putP ps vs tm) (((ps.map Pos.num).zip vs').foldl (fun t (p, v) => t.setIfInBounds p v) tmps) := by
  intro ps
  induction ps with
  | nil => intro vs vs' tm tmps h _ _ _; simpa [putP] using h
  | cons p ps ih =>
    intro vs vs' tm tmps h hp hc hl
    cases hc with
    | nil => simp at hl
    | cons hv hc =>
      rename_i v v' vs vs'
      show TR ι N (putP ps vs (T.set un v tm p)) _
      simp only [List.map_cons, List.zip_cons_cons, List.foldl_cons]
      exact ih (h.set hv (hp p (by simp))) (fun q hq => hp q (by simp [hq])) hc (by simpa using hl)
end Den

namespace Den
open Go

theorem Rel.loopObj {CR : CRel} {ι : Inj} {σ : St} {w : World} (h : Rel CR ι σ w) {l : Pos} {s : Nat} {tm : T V} {pend : Ex} {ps : List Pos} {as bo : C} (hl : σ.at l = .loop s tm pend ps as bo) {B d X : Nat} (hb : ι l = some (B, d, X)) :
    ∃ (L : Loop) (st : LoopState) (N : Nat), w.heap[B]? = some (.loop L) ∧ s = stC st ∧ L.state = st ∧ L.pending = exC pend ∧ L.params.toList = ps.map Pos.num ∧ (∀ p ∈ ps, p.num < N) ∧ TR ι N tm L.tmps ∧ CR.rel L.assign as N ∧ CR.rel L.body bo N := by
  obtain ⟨O, h1, h2⟩ := h.obj l B d X hb (by rw [hl]; rfl)
  rw [hl] at h2
  cases h2 with
  | loop a b c n t x y => exact ⟨_, _, _, h1, rfl, a, b, c, n, t, x, y⟩
theorem onLoop_ok {ob : Obj} {k : Nat → T V → Ex → List Pos → C → C → R} {v : V} {s : St} (h : ob.onLoop .no k = .ok v s) : ∃ a b c d e f, ob = .loop a b c d e f ∧ k a b c d e f = .ok v s := by
  cases ob <;> first | exact ⟨_, _, _, _, _, _, rfl, h⟩ | cases h
theorem rcr_ok {r : RC} {k : Ex → T V → St → R} {v : V} {st : St} (h : r.bnd .no k = .ok v st) : ∃ x1 tm1 st1, r = .ok x1 tm1 st1 ∧ k x1 tm1 st1 = .ok v st := by
  cases r with
  | no => cases h
  | ok a b c => exact ⟨a, b, c, rfl, h⟩

section
variable {P : Program} {E : Env} (hE : TyOK P E) {call : Cl} {xa hm : Nat} {Z : Nat → Option Go.Obj} (hcall : CallOK P (CRl E xa hm Z) call) (hX : XOK P xa) (hmix : P.follows .mixedOrders = true) (hrf : ∀ N, RfOK P E (CRl E xa hm Z) call xa hm N)
include hE hcall hX hmix hrf

/-- a call of yield. -/
theorem round_ok (K : Nat) {l : Pos} {args v : V} {σ σ' : St} {ι : Inj} {w : World} {fv : Value} {as : Array Value} (h : round call K l args σ = .ok v σ') (hR : Rel (CRl E xa hm Z) ι σ w) (hf : VR ι (.y l) fv) (ha : VL ι args as.toList) :
    Upon P (Post (CRl E xa hm Z) ι w σ' v) ((do let d ← Deferred.ofValue fv as; invoke d.target d.args : Sem Next).run P w) := by
  obtain ⟨s, tm, pend, ps, cas, cbo, hl, h1⟩ := onLoop_ok h
  obtain ⟨h2, h3⟩ := cond_ok h1
  rw [Bool.and_eq_true] at h2
  obtain ⟨h2a, h2b⟩ := h2
  cases hf with
  | y hb =>
    rename_i B d0 X0
    obtain ⟨L, st, N, g1, g2, g3, g4, g5, g6, g7, g8, g9⟩ := hR.loopObj hl hb
    have hlen := sameLen_eq h2b
    have hcl := ha.cl
    have hsz : as.size = L.params.size := by
      have e1 := congrArg List.length g5
      have e2 := hcl.length
      simp at e1 e2; omega
    obtain ⟨x1, tm1, σ1, k1, k2⟩ := rcr_ok h3
    cases x1 with
    | ex i => cases k2
    | ret => cases k2
    | nrm =>
    have hrun : ((do let d ← Deferred.ofValue (.func (.yield B) #[] #[]) as; invoke d.target d.args : Sem Next).run P w) =
        .ok (.round B L.fn ((L.params.zip as).foldl (fun tmps (t, a) => tmps.setIfInBounds t a) L.tmps) L.assign L.body) w := by
      simp [Deferred.ofValue, invoke, Instr.yield, Instr.getLoop, getObj, Sem.run, g1, hsz]
    rw [hrun]
    show RoundIn Fence.wide 0 P B L.fn _ L.assign L.body w _
    refine roundIn_of_wpIn trivial ?_
    have hF : Wd (Fence.wide.inRound B) := .inr ⟨B, rfl⟩
    obtain ⟨ea, na⟩ := g8
    obtain ⟨eb, nb⟩ := g9
    have hA : AR hm 0 ι N (putP ps args.lst tm) w { tmps := (L.params.zip as).foldl (fun tmps (t, a) => tmps.setIfInBounds t a) L.tmps, defers := [] } := by
      refine ⟨?_, ⟨Nat.zero_le _, fun d hd => by simp at hd, by simp⟩⟩
      have := TR.puts g7 g6 hcl hlen
      rw [← g5] at this
      rw [← Array.foldl_toList, Array.toList_zip]
      exact this
    rw [ea] at k1
    refine code_ok hE hcall hX hmix (hrf N) hF K L.assign (.inr na) k1 hR hA fun ι1 a1 w1 s1 s2 s3 => ?_
    obtain ⟨st1, tmx, px, psx, asx, box, q1, q2⟩ := onLoop_ok k2
    obtain ⟨q3, q4⟩ := cond_ok q2
    have hb1 := s1.le _ _ hb
    obtain ⟨L1, t1, N1, r1, r2, r3, r4, r5, r6, r7, r8, r9⟩ := s2.loopObj q1 hb1
    have ht1 : t1 = .ready := by
      have := Nat.eq_of_beq_eq_true q3
      cases t1 <;> first | rfl | (rw [this] at r2; cases r2)
    subst ht1
    obtain ⟨p1, p2⟩ := s2.put hb1 (by rw [q1]; rfl) (fun cs e => by rw [q1] at e; cases e) (ob := .loop 1 tmx px psx asx box) (O := .loop { L1 with state := .busy }) (.loop (s := .busy) rfl r4 r5 r6 r7 r8 r9)
    refine ⟨Wput w1 B (.loop { L1 with state := .busy }), ?_, ?_⟩
    · simp [Instr.beginRound, Instr.getLoop, getObj, setObj, Sem.run, r1, r3, Wput]
    obtain ⟨x2, tm2, σ2, u1, u2⟩ := rcr_ok q4
    rw [eb] at u1
    refine code_ok hE hcall hX hmix (hrf N) hF K L.body (.inr nb) u1 p1 ⟨s3.tmps, s3.defers.step p2⟩ fun ι2 a2 w2 t1 t2 t3 => ?_
    obtain ⟨st2, tmy, py, psy, asy, boy, v1, v2⟩ := onLoop_ok u2
    have hb2 := t1.le _ _ hb1
    obtain ⟨L2, t2', N2, z1, z2, z3, z4, z5, z6, z7, z8, z9⟩ := t2.loopObj v1 hb2
    have hput : ∀ (ls : LoopState) (xx : Ex), Rel (CRl E xa hm Z) ι2 (σ2.put l (.loop (stC ls) tmy xx psy asy boy)) (Wput w2 B (.loop { L2 with state := ls, pending := exC xx })) ∧ Step ι2 w2 ι2 (Wput w2 B (.loop { L2 with state := ls, pending := exC xx })) :=
      fun ls xx => t2.put hb2 (by rw [v1]; rfl) (fun cs e => by rw [v1] at e; cases e) (.loop (s := ls) rfl rfl z5 z6 z7 z8 z9)
    have hend : ∀ (jump : Option Code), (Instr.endRound B jump).run P w2 = .ok (.bool jump.isNone) (Wput w2 B (.loop { L2 with state := if jump.isNone then .ready else .done, pending := jump })) := by
      intro jump
      simp [Instr.endRound, Instr.getLoop, getObj, setObj, Sem.run, z1, Wput]
    have hst := (s1.trans p2).trans t1
    cases x2 with
    | nrm =>
      cases v2
      obtain ⟨o1, o2⟩ := hput .ready .nrm
      exact ⟨_, _, hend none, _, rfl, ι2, hst.trans o2, o1, .b _⟩
    | ret =>
      cases v2
      obtain ⟨o1, o2⟩ := hput .done .ret
      exact ⟨_, _, hend (some .ret), _, rfl, ι2, hst.trans o2, o1, .b _⟩
    | ex i =>
      cases v2
      obtain ⟨o1, o2⟩ := hput .done (.ex i)
      exact ⟨_, _, hend (some (.exit i)), _, rfl, ι2, hst.trans o2, o1, .b _⟩
end
end Den

namespace Den
open Go

/-- calls of the program's functions. -/
def CallE (P : Program) (CR : CRel) (call : Cl) : Prop :=
  ∀ {f : Pos} {fs cs args : V} {σ σ' : St} {v : V} {ι : Inj} {w : World} {fv : Value} {as : Array Value}, call (.f f fs cs) args σ = .ok v σ' → Rel CR ι σ w → VR ι (.f f fs cs) fv → VL ι args as.toList →
    ∃ (d : Deferred) (F : FuncId) (as' : Array Value), (Deferred.ofValue fv as).run P w = .ok d w ∧ (invoke d.target d.args).run P w = .ok (.enter F as') w ∧
      CallsIn Fence.wide 0 P F as' w fun e w' => ∃ v', e = .returned v' ∧ Post CR ι w σ' v v' w'

theorem rcr_ok' {r : R} {k : V → St → RC} {x : Ex} {tm : T V} {st : St} (h : r.bnd .no k = .ok x tm st) : ∃ v st1, r = .ok v st1 ∧ k v st1 = .ok x tm st := by
  cases r with
  | no => cases h
  | ok a b => exact ⟨a, b, rfl, h⟩
theorem onLoopC_ok {ob : Obj} {k : Nat → T V → Ex → List Pos → C → C → RC} {x : Ex} {tm : T V} {s : St} (h : ob.onLoop .no k = .ok x tm s) : ∃ a b c d e f, ob = .loop a b c d e f ∧ k a b c d e f = .ok x tm s := by
  cases ob <;> first | exact ⟨_, _, _, _, _, _, rfl, h⟩ | cases h
theorem cond_noC {c : Bool} {y : RC} {x : Ex} {tm : T V} {s : St} (h : cond c .no y = .ok x tm s) : c = false ∧ y = .ok x tm s := by
  cases c with
  | false => exact ⟨rfl, h⟩
  | true => cases h

section
variable {CR : CRel} {ι : Inj} {σ : St} {w : World}
/-- a block that nobody knows. -/
theorem Rel.junk (h : Rel CR ι σ w) (O : Go.Obj) : Rel CR ι σ (Wadd w O) ∧ Step ι w ι (Wadd w O) := by
  have hs : (Wadd w O).heap.size = w.heap.size + 1 := by simp [Wadd]
  refine ⟨⟨h.dom, h.out, fun p B d X hp hd => ?_, h.inj, fun p B d X hp => by have := h.lt p B d X hp; omega, h.ro, fun B O' hO' => by have := h.snapLt B (by rw [hO']; simp); rw [Wadd_get, if_neg (by omega)]; exact h.snap B O' hO'⟩, ⟨.refl _, fun p B d X e => .inl ⟨p, d, X, e⟩, by omega, fun B hB _ => by rw [Wadd_get, if_neg (by omega)], rfl, rfl⟩⟩
  obtain ⟨O', h1, h2⟩ := h.obj p B d X hp hd
  have := h.lt p B d X hp
  exact ⟨O', by rw [Wadd_get, if_neg (by omega)]; exact h1, h2⟩
end

section
variable {P : Program} {E : Env} {call : Cl} {xa hm : Nat} {Z : Nat → Option Go.Obj} (hcall : CallE P (CRl E xa hm Z) call)
include hcall

theorem rfOK (N : Nat) : RfOK P E (CRl E xa hm Z) call xa hm N := by
  intro lb F hF hr g x ps as bo hx hps has hbo tm tm' σ σ' xx h ι w a Q hR hA hQ
  have hlo := hA.defers.low
  obtain rfl : F = Fence.wide := by
    rcases hF with rfl | ⟨l, rfl⟩
    · rfl
    · cases hr
  have hv := ev_ok hA.tmps hx
  change (V.onF (ev tm x) RC.no (fun _ _ _ => σ.new (β := RC) (.loop 0 tm .nrm (ps.toList.map pos) (cCode E xa hm N as) (cCode E xa hm N bo)) (fun l st => (call (ev tm x) (.co (.y l) .nl) st).bnd RC.no (fun _ st => (st.at l).onLoop RC.no (fun s tm1 pend ps1 as1 bo1 => cond (Nat.beq s 1) RC.no (RC.ok pend tm (st.put l (.loop 3 tm1 pend ps1 as1 bo1))))))) (fun _ => RC.no)) = _ at h
  cases hev : ev tm x <;> rw [hev] at h hv <;> first | (cases h; done) | skip
  rename_i f fs cs
  simp only [V.onF, St.new_eq] at h
  obtain ⟨v1, σ1, h1, h2⟩ := rcr_ok' h
  obtain ⟨s, tm1, pend, ps1, as1, bo1, hl, h3⟩ := onLoopC_ok h2
  obtain ⟨hs, h4⟩ := cond_noC h3
  cases h4
  refine wpIn_rangeFunc fun fn _ => ?_
  -- what is laid
  let L : Loop := { state := .ready, pending := none, fn, tmps := a.tmps, params := ps, assign := as, body := bo, defers := w.heap.size }
  obtain ⟨r1, s1⟩ := hR.junk (.deferred (some []))
  have hsz : (Wadd w (.deferred (some []))).heap.size = w.heap.size + 1 := by simp [Wadd]
  have hle := Inj.upd_le (l := ((Wadd w (.deferred (some []))).heap.size, 0, 0)) r1.fresh
  obtain ⟨r2, s2⟩ := r1.add (X := 0) (ob := .loop 0 tm .nrm (ps.toList.map pos) (cCode E xa hm N as) (cCode E xa hm N bo)) (O := .loop L)
    (.loop (s := .ready) (N := N) rfl rfl (by rw [List.map_map, show (Pos.num ∘ pos) = id from funext num_pos, List.map_id]) (fun p hp => by
      obtain ⟨q, hq, rfl⟩ := List.mem_map.1 hp
      rw [num_pos]; exact hps q hq) (hA.tmps.mono hle) ⟨rfl, has⟩ ⟨rfl, hbo⟩)
  obtain ⟨d, G, as', c1, c2, c3⟩ := hcall h1 r2 (hv.mono hle) (as := #[.func (.yield (w.heap.size + 1)) #[] #[]]) (.co (.y (by rw [upd_self, hsz])) .nl)
  refine ⟨w.heap.size + 1, [{ target := .collected w.heap.size, args := #[] }], Wadd (Wadd w (.deferred (some []))) (.loop L), d, _, G, as', _, ?_, ?_, fun _ _ => trivial, c2, (fun e => by cases e), ?_⟩
  · simp [Instr.enterLoop, newObj, Sem.run, Wadd, hr, L]
    rfl
  · simp only [resolve]
    have : (#[Operand.const (.func (.yield (w.heap.size + 1)) #[] #[])].map a.eval : Array Value) = #[.func (.yield (w.heap.size + 1)) #[] #[]] := by simp [Act.eval]
    rw [this]; exact c1
  · refine c3.mono fun e w3 ⟨v', he, ι3, t1, t2, t3⟩ => ?_
    subst he
    have hb3 := t1.le _ _ (upd_self ι σ.nx ((Wadd w (.deferred (some []))).heap.size, 0, 0))
    rw [hsz] at hb3
    obtain ⟨L3, q, N3, z1, z2, z3, z4, z5, z6, z7, z8, z9⟩ := t2.loopObj hl hb3
    obtain ⟨p1, p2⟩ := t2.put hb3 (by rw [hl]; rfl) (fun cs e => by rw [hl] at e; cases e) (ob := .loop 3 tm1 xx ps1 as1 bo1) (O := .loop { L3 with state := .exhausted }) (.loop (s := .exhausted) rfl z4 z5 z6 z7 z8 z9)
    have hst : L3.state ≠ .busy := by
      rw [z3]
      cases q <;> first | (intro e; cases e; done) | (rw [z2] at hs; cases hs)
    have hend : (Instr.endLoop (w.heap.size + 1)).run P w3 = .ok (exC xx) (Wput w3 (w.heap.size + 1) (.loop { L3 with state := .exhausted })) := by
      simp [Instr.endLoop, Instr.getLoop, getObj, setObj, Sem.run, z1, Wput, z4, hst]
    refine ⟨exC xx, _, hend, ?_⟩
    have hS := ((s1.trans s2).trans t1).trans p2
    have hA2 : AR hm lb (ι.upd σ.nx ((Wadd w (.deferred (some []))).heap.size, 0, 0)) N tm (Wadd (Wadd w (.deferred (some []))) (.loop L)) { a with defers := [{ target := .collected w.heap.size, args := #[] }] ++ a.defers } := by
      have hd := (hA.defers.step s1).step s2
      refine ⟨hA.tmps.mono hle, ⟨hd.low, fun d hd' => ?_, ?_⟩⟩
      · rcases List.mem_append.1 hd' with hd' | hd'
        · have : d = { target := .collected w.heap.size, args := #[] } := by simpa using hd'
          subst this
          refine .inl ⟨w.heap.size, hlo, rfl, ?_, fun p e X hp => ?_⟩
          · rw [Wadd_get, if_neg (by omega), Wadd_get, if_pos rfl]
          · simp only [Inj.upd] at hp
            by_cases hpn : p = σ.nx
            · rw [if_pos hpn, hsz] at hp; simp only [Option.some.injEq, Prod.mk.injEq] at hp; omega
            · rw [if_neg hpn] at hp; have := hR.lt _ _ _ _ hp; omega
        · exact hd.each d hd'
      · show (w.heap.size :: a.defers.filterMap coll).Nodup
        refine List.nodup_cons.2 ⟨fun hm' => ?_, hA.defers.nodup⟩
        obtain ⟨d, hd1, hd2⟩ := List.mem_filterMap.1 hm'
        rcases hA.defers.each d hd1 with ⟨r, _, e1, e2, _⟩ | ⟨cap, e1⟩
        · simp only [coll, e1, Option.some.injEq] at hd2
          subst hd2
          rw [Array.getElem?_eq_none (Nat.le_refl _)] at e2; cases e2
        · simp [coll, e1] at hd2
    have hA4 : AR hm lb ι3 N tm (Wput w3 (w.heap.size + 1) (.loop { L3 with state := .exhausted })) { a with defers := [{ target := .collected w.heap.size, args := #[] }] ++ a.defers } :=
      ⟨hA2.tmps.mono (t1.trans p2).le, hA2.defers.step (t1.trans p2)⟩
    have hfin := hQ ι3 _ _ hS p1 hA4
    cases xx with
    | nrm => exact hfin
    | ex i => exact wpIn_exit hfin
    | ret => exact wpIn_ret hfin
end
end Den

namespace Den
open Go

/-- the deferred function does nothing where no panic is. -/
def HmOK (P : Program) (hm : Nat) : Prop := ∀ (cap args : Array Value) (w : World), ∃ (as : Array Value), (invoke (.fn (.func hm) cap) args).run P w = .ok (.enter hm as) w ∧
  CallsDIn Fence.wide 0 P hm as .returning w fun e u w' => (∃ v, e = .returned v) ∧ u = .returning ∧ w' = w

section
variable {P : Program} {CR : CRel} {hm : Nat} (hh : HmOK P hm) {fn : Func} {tmps : Array Value} {R : Ending → World → Prop} {σ : St}
include hh

theorem leaves_ok {ι0 : Inj} {w0 : World} (hz : ∀ B, CR.snap B ≠ none → B < w0.heap.size) : ∀ (ds : List Deferred) {ι : Inj} {w : World}, DR hm w0.heap.size ι w ds → Step ι0 w0 ι w → Rel CR ι σ w →
    (∀ w', Step ι0 w0 ι w' → Rel CR ι σ w' → ∃ v, (results fn tmps).run P w' = .ok v w' ∧ R (.returned v) w') → LeavesInM Fence.wide 0 P fn tmps R ds .returning w
  | [], ι, w, _, hS, hR, hQ => hQ w hS hR
  | d :: ds, ι, w, hD, hS, hR, hQ => by
    refine ⟨by simp, ?_⟩
    rcases hD.each d (by simp) with ⟨r, h0, h1, h2, h3⟩ | ⟨cap, h1⟩
    · have hr : r < w.heap.size := by
        rcases Nat.lt_or_ge r w.heap.size with x | x
        · exact x
        · rw [Array.getElem?_eq_none x] at h2; cases h2
      have hs : (Wput w r (.deferred none)).heap.size = w.heap.size := by simp [Wput]
      refine .inl ⟨r, Wput w r (.deferred none), h1, ?_, ?_⟩
      · simp [Instr.takeDeferred, getObj, setObj, Sem.run, h2, Wput]
      · have hnd := hD.nodup
        have hc : coll d = some r := by simp [coll, h1]
        rw [List.filterMap_cons, hc] at hnd
        obtain ⟨n1, n2⟩ := List.nodup_cons.1 hnd
        refine leaves_ok hz ds ⟨by rw [hs]; exact hD.low, fun d' hd' => ?_, n2⟩ ⟨hS.le, fun p B e X hp => ?_, by rw [hs]; exact hS.size, fun B hB hn => ?_, hS.os, hS.output⟩
          ⟨hR.dom, hR.out, fun p B e X hp hdd => ?_, hR.inj, fun p B e X hp => by rw [hs]; exact hR.lt p B e X hp, hR.ro, fun B O hO => by
            have := hz B (by rw [hO]; simp)
            rw [Wput_get, if_neg (fun x => by omega)]; exact hR.snap B O hO⟩ hQ
        · rcases hD.each d' (by simp [hd']) with ⟨r', g0, g1, g2, g3⟩ | g
          · refine .inl ⟨r', g0, g1, ?_, g3⟩
            rw [Wput_get, if_neg (fun x => ?_)]
            · exact g2
            · obtain ⟨rfl, _⟩ := x
              exact n1 (List.mem_filterMap.2 ⟨d', hd', by simp [coll, g1]⟩)
          · exact .inr g
        · exact hS.new p B e X hp
        · rw [Wput_get, if_neg (fun x => by omega)]; exact hS.same B hB hn
        · obtain ⟨O, o1, o2⟩ := hR.obj p B e X hp hdd
          exact ⟨O, by rw [Wput_get, if_neg (fun x => by obtain ⟨rfl, _⟩ := x; exact h3 p e X hp)]; exact o1, o2⟩
    · obtain ⟨as, g1, g2⟩ := hh cap d.args w
      refine .inr ⟨(fun e => by cases e), _, cap, hm, as, h1, (by rw [h1]; exact g1), fun _ _ => trivial, ?_⟩
      refine g2.mono fun e u w' ⟨⟨v, e1⟩, e2, e3⟩ => ?_
      subst e1; subst e2; subst e3
      have hnd := hD.nodup
      have hc : coll d = none := by simp [coll, h1]
      rw [List.filterMap_cons, hc] at hnd
      exact leaves_ok hz ds ⟨hD.low, fun d' hd' => hD.each d' (by simp [hd']), hnd⟩ hS hR hQ
end

/-! results -/
def cRes (E : Env) : ResultVar → Option RsV
  | .tmp t => some (.t (pos t))
  | .cell a t => if (E t).k.isBad then none else some (if (E t).k.agg then .ca (pos a) (E t).size else .c (pos a))
def cRess (E : Env) : List ResultVar → Option (List RsV)
  | [] => some []
  | r :: l => match cRes E r, cRess E l with | some x, some y => some (x :: y) | _, _ => none
def cFunc (E : Env) (xa hm : Nat) (fn : Func) : Option AFunc :=
  match fn.body, cRess E fn.results.toList with | some c, some rs => some ⟨rs, cCode E xa hm fn.ntmps c⟩ | _, _ => none

def resF (tmps : Array Value) (r : ResultVar) : Sem Value := match r with | .tmp t => pure (tmps.getD t undef) | .cell a t => do loadVar t (← asAddr (tmps.getD a undef))
theorem onP_okL {v : V} {k : Pos → Nat → OL} {xs : List V} (h : v.onP .no k = .ok xs) : ∃ x y, v = .p x y ∧ k x y = .ok xs := by
  cases v <;> first | exact ⟨_, _, rfl, h⟩ | cases h
theorem row_okL {σ : St} {b : Pos} {k : List V → Nat → OL} {xs : List V} (h : σ.row b .no k = .ok xs) : ∃ cs t, σ.at b = .cells cs t ∧ k cs t = .ok xs := by
  cases σ with
  | mk o nx =>
    change Obj.onC (T.get .dead o b) .no k = _ at h
    show ∃ cs t, T.get .dead o b = _ ∧ _
    cases hb : T.get .dead o b with
    | cells cs t => rw [hb] at h; exact ⟨cs, t, rfl, h⟩
    | _ => rw [hb] at h; cases h

section
variable {P : Program} {E : Env} (hE : TyOK P E) {CR : CRel} {ι : Inj} {σ : St} {w : World} {N : Nat} {tm : T V} {tmps : Array Value} (hR : RelO CR ι σ w) (hT : TR ι N tm tmps)
include hE hR hT

theorem resV_ok : ∀ (l : List ResultVar) {rs : List RsV} {xs : List V}, cRess E l = some rs → resV tm σ rs = .ok xs →
    ∃ vs, (l.mapM (resF tmps)).run P w = .ok vs w ∧ CL ι xs vs
  | [], rs, xs, h, k => by
    cases h; cases k
    exact ⟨[], rfl, .nil⟩
  | r :: l, rs, xs, h, k => by
    simp only [cRess] at h
    split at h
    · rename_i x y hx hy
      cases h
      obtain ⟨ys, k1, k2⟩ := ol_ok' (o := resV tm σ y) k
      obtain ⟨vs, g1, g2⟩ := resV_ok l hy k1
      have fin : ∀ (v : Value) (z : V), VR ι z v → xs = z :: ys → (resF tmps r).run P w = .ok v w →
          ∃ vs, ((r :: l).mapM (resF tmps)).run P w = .ok vs w ∧ CL ι xs vs := by
        intro v z hz hxs hrun
        refine ⟨v :: vs, ?_, by rw [hxs]; exact .cons hz g2⟩
        rw [List.mapM_cons, Sem.run_bind, hrun, Result.andThen_ok, Sem.run_bind, g1]; rfl
      cases r with
      | tmp t =>
        cases hx
        cases k2
        have := hT.get (pos t)
        rw [num_pos] at this
        exact fin _ _ this rfl rfl
      | cell a t =>
        simp only [cRes] at hx
        split at hx
        · cases hx
        rename_i hb
        have hb' : (E t).k.isBad = false := by simpa using hb
        cases hx
        have ha := hT.get (pos a)
        rw [num_pos] at ha
        cases hg : (E t).k.agg with
        | true =>
          simp only [hg] at k2
          obtain ⟨b, o, e1, e2⟩ := onP_okL k2
          obtain ⟨cs, n, e3, e4⟩ := row_okL e2
          obtain ⟨zs, e5, e6⟩ := ol_ok' e4
          cases e6
          rw [e1] at ha
          generalize hav : tmps.getD a undef = av at ha
          cases ha with
          | p hι =>
          obtain ⟨xs', q1, q2⟩ := hR.cells (P := P) hι e3 e5
          refine fin (.agg xs'.toArray) (.ag (mkl zs)) (.ag (by simpa using q1.vl)) rfl ?_
          have := q2 w rfl
          simp [resF, asAddr, loadVar, hav, hE.isAgg w hb', hg, hE.size w hb', this]
        | false =>
          simp only [hg] at k2
          obtain ⟨b, o, e1, e2⟩ := onP_okL k2
          obtain ⟨cs, n, e3, e4⟩ := row_okL e2
          obtain ⟨zs, e5, e6⟩ := ol_ok' e4
          cases e6
          rw [e1] at ha
          generalize hav : tmps.getD a undef = av at ha
          cases ha with
          | p hι =>
          obtain ⟨s1, s2⟩ := sub_ok e5
          have hlen : zs.length = 1 := s2
          obtain ⟨z, rfl⟩ := List.length_eq_one_iff.1 hlen
          have hz : cs[o]? = some z := by have := sub_get e5 0 (by omega); simpa using this.symm
          obtain ⟨v', q1, q2⟩ := hR.cell hι e3 hz
          refine fin v' z q2 rfl ?_
          simp [resF, asAddr, loadVar, hav, hE.isAgg w hb', hg, q1]
    · cases h

theorem results_ok {fn : Func} {rs : List RsV} {v : V} {σ' : St} (h : cRess E fn.results.toList = some rs) (k : leave rs tm σ = .ok v σ') : σ' = σ ∧ ∃ v', (results fn tmps).run P w = .ok v' w ∧ VR ι v v' := by
  obtain ⟨xs, k1, k2⟩ := ol_ok k
  obtain ⟨vs, g1, g2⟩ := resV_ok hE hR hT _ h k1
  have hr : (results fn tmps).run P w = .ok (if h : vs.toArray.size = 1 then vs.toArray[0] else .tuple vs.toArray) w := by
    have e : results fn tmps = (do let vs ← fn.results.mapM (resF tmps); pure (if h : vs.size = 1 then vs[0] else .tuple vs)) := rfl
    rw [e, Array.mapM_eq_mapM_toList, map_eq_pure_bind, bind_assoc, Sem.run_bind]
    rw [g1]; rfl
  cases g2 with
  | nil => cases k2; exact ⟨rfl, _, hr, .un _⟩
  | cons a g2 =>
    cases g2 with
    | nil => cases k2; exact ⟨rfl, _, hr, by simpa using a⟩
    | cons b g2 =>
      cases k2
      refine ⟨rfl, _, hr, ?_⟩
      rw [dif_neg (by simp)]
      exact .tu (.co a (.co b (CL.vl g2)))
end

/-! arguments -/
theorem args0_get (l : List V) : ∀ (n : Pos) (t : T V) (p : Pos), tg (List.rec (motive := fun _ => Pos → T V → T V) (fun _ t => t) (fun v _ g n t => g n.succ (T.set un v t n)) l n t) p =
    if n.num ≤ p.num ∧ p.num < n.num + l.length then (l[p.num - n.num]?).getD un else tg t p := by
  induction l with
  | nil => intro n t p; rw [if_neg (by simp only [List.length_nil]; omega)]
  | cons v l ih =>
    intro n t p
    show tg (List.rec (motive := fun _ => Pos → T V → T V) (fun _ t => t) (fun v _ g n t => g n.succ (T.set un v t n)) l n.succ (T.set un v t n)) p = _
    rw [ih, Pos.num_succ]
    by_cases h : n.num + 1 ≤ p.num ∧ p.num < n.num + 1 + l.length
    · rw [if_pos h, if_pos (by simp; omega)]
      have : p.num - n.num = (p.num - (n.num + 1)) + 1 := by omega
      rw [this, List.getElem?_cons_succ]
    · rw [if_neg h]
      show T.get Den.un (T.set Den.un v t n) p = _
      rw [T.get_set]
      by_cases e : p = n
      · subst e
        rw [if_pos rfl, if_pos (by simp)]; simp
      · rw [if_neg e, if_neg (fun x => ?_)]
        · rfl
        · have : p.num ≠ n.num := fun h => e (Pos.num_inj h)
          simp at x; omega
theorem TR.args {ι : Inj} {args : V} {as : Array Value} (h : VL ι args as.toList) (N : Nat) : TR ι N (args0 args .h .e) (as ++ Array.replicate (N - as.size) undef) := by
  refine ⟨fun p => ?_, by simp; omega⟩
  show VR ι (tg (List.rec (motive := fun _ => Pos → T V → T V) (fun _ t => t) (fun v _ g n t => g n.succ (T.set un v t n)) args.lst .h .e) p) _
  rw [args0_get]
  have hc := h.cl
  have hl := hc.length
  simp only [Array.length_toList] at hl
  have h0 : Pos.num .h = 0 := rfl
  rw [h0]
  by_cases hp : p.num < args.lst.length
  · rw [if_pos (by omega)]
    have hp' : p.num < as.size := by omega
    have := hc.get (k := p.num) (v := args.lst[p.num]) (by simp [hp])
    obtain ⟨v', h1, h2⟩ := this
    have e1 : (args.lst[p.num - 0]?).getD un = args.lst[p.num] := by simp [hp]
    rw [e1, Array.getD_eq_getD_getElem?, Array.getElem?_append_left hp']
    have : as[p.num]? = some v' := by simpa using h1
    rw [this]; exact h2
  · rw [if_neg (by omega)]
    have : tg (T.e) p = un := rfl
    rw [this, Array.getD_eq_getD_getElem?]
    have e2 : ((as ++ Array.replicate (N - as.size) undef)[p.num]?).getD undef = undef := by
      rw [Array.getElem?_append_right (by omega), Array.getElem?_replicate]
      split <;> rfl
    rw [e2]; exact .un _
end Den

namespace Den
open Go

/-- what is asked of a function's meaning. -/
def FxOK (P : Program) (E : Env) (xa hm : Nat) (f : Pos) (fx : Fx) : Prop :=
  ∀ (Z : Nat → Option Go.Obj) (call : Cl), CallOK P (CRl E xa hm Z) call → CallE P (CRl E xa hm Z) call → ∀ {args : V} {σ σ' : St} {v : V} {ι : Inj} {w : World} {avs : Array Value}, fx call args σ = .ok v σ' → Rel (CRl E xa hm Z) ι σ w → VL ι args avs.toList →
    (∃ fn, P.funcs[f.num]? = some fn ∧ fn.body.isNone = false ∧ (fn.name == "runtime.NumGoroutine") = false) ∧
    CallsIn Fence.wide 0 P f.num avs w fun e w' => ∃ v', e = .returned v' ∧ Post (CRl E xa hm Z) ι w σ' v v' w'

theorem run_callFunc {P : Program} {w : World} {F : Nat} {as : Array Value} {fn : Func} (h : P.funcs[F]? = some fn) (hb : fn.body.isNone = false) (hn : (fn.name == "runtime.NumGoroutine") = false) : (callFunc F as).run P w = .ok (.enter F as) w := by
  have h1 : fn.name ≠ "runtime.NumGoroutine" := by simpa using hn
  have h2 : fn.body ≠ none := by intro e; rw [e] at hb; cases hb
  simp [callFunc, h, h1, h2]

section
variable {P : Program} {E : Env} (hE : TyOK P E) {xa hm : Nat} (hX : XOK P xa) (hmix : P.follows .mixedOrders = true)
include hE hX hmix

theorem enter_ok (hh : HmOK P hm) (K : Nat) {f : Pos} {fn : Func} {af : AFunc} (hf : P.funcs[f.num]? = some fn) (hn : (fn.name == "runtime.NumGoroutine") = false) (hc : cFunc E xa hm fn = some af) : FxOK P E xa hm f (enter K af) := by
  intro Z call hcall hcallE args σ σ' v ι w avs h hR ha
  unfold cFunc at hc
  split at hc
  · rename_i c rs hb hrs
    cases hc
    change (code call K (cCode E xa hm fn.ntmps c) (args0 args .h .e) σ).bnd .no (fun x tm st => onEx x (leave rs tm st) (fun _ => .no) (leave rs tm st)) = _ at h
    obtain ⟨x1, tm1, σ1, k1, k2⟩ := rcr_ok h
    refine ⟨⟨fn, hf, by rw [hb]; rfl, hn⟩, callsIn_of_wp_marks hf hb trivial ?_⟩
    refine code_ok (lb := w.heap.size) hE hcall hX hmix (rfOK hcallE fn.ntmps) (.inl rfl) K c (.inl rfl) k1 hR ⟨TR.args ha _, ⟨Nat.le_refl _, by simp, by simp⟩⟩ fun ι1 a1 w1 s1 s2 s3 => ?_
    have key : ∀ {σ'' : St}, leave rs tm1 σ1 = .ok v σ'' → σ'' = σ' → LeavesInM Fence.wide 0 P fn a1.tmps (fun e w' => ∃ v', e = .returned v' ∧ Post (CRl E xa hm Z) ι w σ' v v' w') a1.defers .returning w1 := by
      intro σ'' k2 e
      refine leaves_ok hh hR.snapLt a1.defers s3.defers s1 s2 fun w2 t1 t2 => ?_
      obtain ⟨e1, v', g1, g2⟩ := results_ok hE t2.toO s3.tmps hrs k2
      subst e1; subst e
      exact ⟨v', g1, v', rfl, ι1, t1, t2, g2⟩
    cases x1 with
    | ex i => cases k2
    | nrm => exact key k2 rfl
    | ret => exact key k2 rfl
  · cases hc

theorem callN_ok {FT : Pos → Fx} (hFT : ∀ f, FxOK P E xa hm f (FT f)) (K : Nat) {Z : Nat → Option Go.Obj} : ∀ n, CallOK P (CRl E xa hm Z) (callN FT K n) ∧ CallE P (CRl E xa hm Z) (callN FT K n)
  | 0 => ⟨(fun h => by cases h), (fun h => by cases h)⟩
  | n + 1 => by
    have ih := callN_ok hFT K (Z := Z) n
    have hE' : CallE P (CRl E xa hm Z) (callN FT K (n + 1)) := by
      intro f fs cs args σ σ' v ι w fv as h hR hf ha
      change FT f (callN FT K n) (V.app fs (V.app args cs)) σ = _ at h
      cases hf with | f e1 e2 e3 =>
      rename_i F Fs Cs
      obtain ⟨⟨fn, q1, q2, q3⟩, q4⟩ := hFT f _ _ ih.1 ih.2 h hR (avs := Fs ++ as ++ Cs) (by
        rw [Array.toList_append, Array.toList_append, List.append_assoc]; exact e2.app (ha.app e3))
      subst e1
      exact ⟨{ target := .fn (.func f.num) Cs, args := Fs ++ as }, f.num, Fs ++ as ++ Cs, rfl, run_callFunc q1 q2 q3, q4⟩
    refine ⟨?_, hE'⟩
    intro f args σ σ' v ι w fv as h hR hf ha
    cases f <;> first | (cases h; done) | skip
    · obtain ⟨d, F, as', c1, c2, c3⟩ := hE' h hR hf ha
      rw [Sem.run_bind, c1, Result.andThen_ok, c2]
      exact c3
    · exact round_ok hE ih.1 hX hmix (fun N => rfOK ih.2 N) K h hR hf ha

/-- a call. -/
theorem run_ok {FT : Pos → Fx} (hFT : ∀ f, FxOK P E xa hm f (FT f)) {K n : Nat} {Z : Nat → Option Go.Obj} {f : Pos} {args v : V} {σ σ' : St} (h : callN FT K n (.f f .nl .nl) args σ = .ok v σ') {ι : Inj} {w : World} {avs : Array Value}
    (hR : Rel (CRl E xa hm Z) ι σ w) (ha : VL ι args avs.toList) :
    CallsIn Fence.wide 0 P f.num avs w fun e w' => ∃ v', e = .returned v' ∧ Post (CRl E xa hm Z) ι w σ' v v' w' := by
  cases n with
  | zero => cases h
  | succ n =>
    have ih := callN_ok hE hX hmix hFT K (Z := Z) n
    have h' : FT f (callN FT K n) (V.app .nl (V.app args .nl)) σ = .ok v σ' := h
    exact (hFT f _ _ ih.1 ih.2 h' hR (avs := avs) (by simpa using VL.app (a := .nl) .nl (ha.app .nl))).2
/-- a closed call. -/
theorem closed_ok {FT : Pos → Fx} (hFT : ∀ f, FxOK P E xa hm f (FT f)) {K n : Nat} {f : Pos} {v : V} {σ' : St} (h : callN FT K n (.f f .nl .nl) .nl (.mk .e .h) = .ok v σ') (w : World) :
    CallsIn Fence.wide 0 P f.num #[] w fun e w' => ∃ v' ι', e = .returned v' ∧ VR ι' v v' ∧ w.heap.size ≤ w'.heap.size ∧ (∀ B, B < w.heap.size → w'.heap[B]? = w.heap[B]?) ∧ w'.os = w.os ∧ w'.output = w.output := by
  have hR : Rel (CRl E xa hm fun _ => none) (fun _ => none) (.mk .e .h) w := ⟨(fun p l e => by cases e), (fun p _ => rfl), (fun p B d X e => by cases e), (fun p q B d X d' X' e => by cases e), (fun p B d X e => by cases e), (fun p B d X e => by cases e), fun B O e => by cases e⟩
  refine (run_ok hE hX hmix hFT h hR (avs := #[]) .nl).mono fun e w' ⟨v', he, ι', s1, s2, s3⟩ => ⟨v', ι', he, s3, s1.size, fun B hB => s1.same B hB (fun p d X e => (by cases e)), s1.os, s1.output⟩
end
end Den
