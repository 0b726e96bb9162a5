/- What a law's row asks, out of a run of the evaluator. (The same text serves every seat.) -/
import Derived.Test.YtfffnkeogijkkaaGreatDf
import Derived.ProofKit
import Derived.Test.YtfffnkeogijkkaaGreatWe
set_option linter.unusedVariables false
set_option linter.unusedSimpArgs false
set_option linter.unusedSectionVars false
set_option linter.constructorNameAsVariable false
namespace Den
open Go Go.ChangeShapes Go.WideShapes Go.RowKit

section
variable {H : Type} {enc : TypeId × Value → H} {P : Program}

theorem trodAll_stays (hl : laidOutB P = true) {W W' : World} (hh : ∀ B, B < W.heap.size → W'.heap[B]? = W.heap[B]?) : ∀ {ts : List TypeId} {vs : List Value} {ds : List (DataW H)} {ps : List MemPlace}, (∀ t ∈ ts, P.readableRec t = true ∧ t < P.types.size) →
    DataW.TrodAll enc P W 0 (fun _ => true) true ts vs ds ps → (∀ x ∈ ps, x.block < W.heap.size) → DataW.TrodAll enc P W' 0 (fun b => decide (b < W.heap.size)) true ts vs ds ps
  | [], vs, ds, ps, _, h, _ => by
    obtain ⟨rfl, rfl, rfl⟩ := trodAll_nil h
    rfl
  | t :: ts, vs, ds, ps, hr, h, hlt => by
    obtain ⟨v, vs1, d, ds1, a, b, rfl, rfl, rfl, h1, h2⟩ := trodAll_cons h
    have hs : ∀ x ∈ a, W.sameAt W' x := fun x hx => by
      have hb := hlt x (by simp [hx])
      cases x with
      | cell b o => exact World.cell?_of_block (w := W) (hh b hb)
      | map b => exact hh b hb
    exact ⟨a, b, WideElems.Trod_stays hl (hr t (by simp)).1 (hr t (by simp)).2 h1 hs (fun x hx => by simpa using hlt x (by simp [hx])), trodAll_stays hl hh (fun t ht => hr t (by simp [ht])) h2 (fun x hx => hlt x (by simp [hx])), rfl⟩

/-- what a law's row asks, where nothing that was there has turned. -/
theorem law_post (hl : laidOutB P = true) {f : Func} {s : ChangeSpec} {W W' : World} {args : Array Value} {ds gs : List (DataW H)} {before : List MemPlace} {tb : TypeId} (hW : DataW.Whole enc P f.params.toList s.vars false W args.toList ds gs before)
    (hv : s.vars = []) (hs : s.fn H (ds ++ gs) = { results := [.lit (.bool true)], args := ds }) (hr : ∀ t ∈ f.params.toList, P.readableRec t = true ∧ t < P.types.size) (hres : f.resultTypes = #[tb]) (htb : P.underlying tb = some .bool)
    (hh : ∀ B, B < W.heap.size → W'.heap[B]? = W.heap[B]?) (ho : W'.os = W.os) (hu : W'.output = W.output) : s.post enc P f false true false false W args (.bool true) W' := by
  obtain ⟨p, q, h1, h2, h3, h4, h5⟩ := id hW
  rw [hv] at h2
  obtain ⟨rfl, rfl⟩ := trodVars_none h2
  have hlt := hW.lt
  refine ⟨ds, [], before, [], p, [], by rw [hv] at hW ⊢; exact hW, ?_, ?_, ?_, ⟨ho, hu, fun i hi => ?_⟩, fun e => by cases e⟩
  · rw [hs, hres]
    exact trodAll_mk1 (shut_bool htb true)
  · rw [hs]
    exact trodAll_stays hl hh hr h1 fun x hx => hlt x (by rw [h3]; simp [hx])
  · rw [hv, hs]; rfl
  · rw [hh i hi]
    split <;> simp_all
end
end Den

namespace Den
open Go Go.ChangeShapes Go.WideShapes Go.RowKit

/-- what is there when a law is called with a slice of numbers: its cells, never written. -/
theorem slice_in {P : Program} {E : Env} {xa hm : Nat} {k : IntKind} {W : World} {a : Addr} {len cap : Nat} {zs : List Int} (hs : a.spot = none) (hsh : ∃ row cells, W.shape? a.block = some (row, cells)) (hl : len ≤ cap) (hz : zs.length = cap)
    (hc : ∀ i, i < zs.length → W.cell? (a.add i) = some (.int k (zs.getD i 0))) :
    ∃ (Z : Nat → Option Go.Obj) (ι : Inj) (σ : St) (v : V), Rel (CRl E xa hm Z) ι σ W ∧ VR ι v (.slice (some a) len cap) ∧ SlI k σ v (zs.take len) ∧ ∀ p B d X, ι p = some (B, d, X) → Z B = W.heap[B]? ∧ Z B ≠ none := by
  obtain ⟨B, off, sp⟩ := a
  simp only at hs
  subst hs
  obtain ⟨row, cells, hsh⟩ := hsh
  simp only [World.shape?] at hsh
  split at hsh
  · rename_i Cs e fz hB
    have hBs : B < W.heap.size := by
      rcases Nat.lt_or_ge B W.heap.size with x | x
      · exact x
      · rw [Array.getElem?_eq_none x] at hB; cases hB
    let Z : Nat → Option Go.Obj := fun b => if b = B then W.heap[B]? else none
    have hcell : ∀ i, i < zs.length → Cs[off + i]? = some (.int k (zs.getD i 0)) := by
      intro i hi
      have := hc i hi
      have hadd : (⟨B, off, none⟩ : Addr).add i = ⟨B, off + i, none⟩ := by
        unfold Addr.add
        by_cases h0 : i = 0
        · simp [h0]
        · simp [h0]
      rw [hadd] at this
      simpa [World.cell?, hB] using this
    -- a place that is there: where nothing is asked of, the block's beginning
    have key : ∀ (d : Nat) (cs : List V), (∀ k' v, cs[k']? = some v → ∃ v', Cs[d + k']? = some v' ∧ ∀ ι, VR ι v v') → d + cs.length ≤ Cs.size →
        Rel (CRl E xa hm Z) (fun p => if p = .h then some (B, d, 0) else none) (.mk (.n (.cells cs roT) .e .e) (.o .h)) W := by
      intro d cs h1 h2
      have hι : ∀ p l, (if p = Pos.h then some (B, d, 0) else none) = some l → p = .h ∧ l = (B, d, 0) := by
        intro p l h
        by_cases e : p = .h
        · rw [if_pos e] at h; cases h; exact ⟨e, rfl⟩
        · rw [if_neg e] at h; cases h
      refine ⟨fun p l h => ?_, fun p h => ?_, fun p b e x h hd => ?_, fun p q b e x e' x' h h' _ _ _ => ?_, fun p b e x h => ?_, fun p b e x h _ _ => ?_, fun b O h => ?_⟩
      · obtain ⟨rfl, _⟩ := hι p l h
        show Pos.num .h < Pos.num (.o .h)
        simp [Pos.num]
      · cases p with
        | h => simp [St.nx, Pos.num] at h
        | o p => rfl
        | i p => rfl
      · obtain ⟨rfl, e1⟩ := hι p _ h
        cases e1
        exact ⟨_, hB, .cells (fun k' v hv => let ⟨v', g1, g2⟩ := h1 k' v hv; ⟨v', g1, g2 _⟩) (fun _ => rfl) (by simpa using h2) (fun x => absurd x (Nat.lt_irrefl _))⟩
      · rw [(hι p _ h).1, (hι q _ h').1]
      · obtain ⟨_, e1⟩ := hι p _ h
        cases e1; exact hBs
      · obtain ⟨rfl, _⟩ := hι p _ h
        exact ⟨cs, rfl⟩
      · change (if b = B then W.heap[B]? else none) = some O at h
        by_cases e : b = B
        · rw [if_pos e] at h; rw [e]; exact h
        · rw [if_neg e] at h; cases h
    have hZ : ∀ (d : Nat) (p : Pos) (b e x : Nat), (if p = Pos.h then some (B, d, 0) else none) = some (b, e, x) → Z b = W.heap[b]? ∧ Z b ≠ none := by
      intro d p b e x h
      by_cases e : p = .h
      · rw [if_pos e] at h; cases h
        exact ⟨by simp [Z], by simp [Z, hB]⟩
      · rw [if_neg e] at h; cases h
    by_cases h0 : zs.length = 0
    · have hcap : cap = 0 := by omega
      have hlen0 : len = 0 := by omega
      subst hcap; subst hlen0
      refine ⟨Z, _, _, .sl .h 0 0 0 false, key 0 [] (fun k' v h => by simp at h) (by simp), .sl (B := B) (d := 0) (X := 0) (if_pos rfl) rfl (Nat.le_refl _) (.inl rfl), .inr ⟨.h, 0, 0, false, [], roT, by simp, by simp, rfl, by simp [St.nx, Pos.num], fun i h => by simp at h⟩, hZ 0⟩
    · have hle : off + zs.length ≤ Cs.size := by
        have := hcell (zs.length - 1) (by omega)
        rcases Nat.lt_or_ge (off + (zs.length - 1)) Cs.size with x | x
        · omega
        · rw [Array.getElem?_eq_none x] at this; cases this
      refine ⟨Z, _, _, .sl .h 0 len cap false, key off (zs.map (.i k)) (fun k' v h => ?_) (by simpa using hle), .sl (B := B) (d := off) (X := 0) (if_pos rfl) rfl hl (.inr rfl), .inr ⟨.h, 0, cap, false, zs.map (.i k), roT, ?_, ?_, rfl, by simp [St.nx, Pos.num], fun i h => ?_⟩, hZ off⟩
      · rw [List.getElem?_map] at h
        cases hk : zs[k']? with
        | none => rw [hk] at h; cases h
        | some z =>
          rw [hk] at h; cases h
          have hlt : k' < zs.length := by
            rcases Nat.lt_or_ge k' zs.length with x | x
            · exact x
            · rw [List.getElem?_eq_none x] at hk; cases hk
          refine ⟨_, hcell k' hlt, fun ι => ?_⟩
          rw [List.getD_eq_getElem?_getD, hk]
          exact .i _ _
      · rw [List.length_take, Nat.min_eq_left (by omega)]
      · rw [List.length_take]; omega
      · have hlt : i < zs.length := by rw [List.length_take] at h; omega
        rw [Nat.zero_add, List.getElem?_map, List.getElem?_eq_getElem hlt]; simp
  · cases hsh
/-- more blocks: nothing that is known turns. -/
theorem Rel.grow {CR : CRel} {ι : Inj} {σ : St} {w w' : World} (h : Rel CR ι σ w) (hs : w.heap.size ≤ w'.heap.size) (hh : ∀ B, B < w.heap.size → w'.heap[B]? = w.heap[B]?) : Rel CR ι σ w' :=
  ⟨h.dom, h.out, fun p B d X hp hd => let ⟨O, h1, h2⟩ := h.obj p B d X hp hd; ⟨O, by rw [hh B (h.lt p B d X hp)]; exact h1, h2⟩, h.inj, fun p B d X hp => Nat.lt_of_lt_of_le (h.lt p B d X hp) hs, h.ro,
    fun B O hO => by rw [hh B (h.snapLt B (by rw [hO]; simp))]; exact h.snap B O hO⟩
theorem Step.grow {ι : Inj} {w w' : World} (hs : w.heap.size ≤ w'.heap.size) (hh : ∀ B, B < w.heap.size → w'.heap[B]? = w.heap[B]?) (ho : w'.os = w.os) (hu : w'.output = w.output) : Step ι w ι w' :=
  ⟨.refl _, fun p B d X h => .inl ⟨p, d, X, h⟩, hs, fun B hB _ => hh B hB, ho, hu⟩
/-- the example, which is right. -/
noncomputable def fxAlive : Fx := fun _ args st => List.rec (motive := fun _ => R) (.ok (.b true) st) (fun _ _ _ => .no) args.lst
theorem fxAlive_ok {P : Program} {E : Env} {xa hm : Nat} {f : Pos} {fn : Func} (hf : P.funcs[f.num]? = some fn) (hb : fn.body.isNone = false) (hn : (fn.name == "runtime.NumGoroutine") = false)
    (h : ∀ w, CallsIn Fence.wide 0 P f.num #[] w fun e w' => e = .returned (.bool true) ∧ w.heap.size ≤ w'.heap.size ∧ (∀ B, B < w.heap.size → w'.heap[B]? = w.heap[B]?) ∧ w'.os = w.os ∧ w'.output = w.output) : FxOK P E xa hm f fxAlive := by
  intro Z call _ _ args σ σ' v ι w avs hx hR ha
  refine ⟨⟨fn, hf, hb, hn⟩, ?_⟩
  have hc := ha.cl
  change List.rec (motive := fun _ => R) (.ok (.b true) σ) (fun _ _ _ => .no) args.lst = _ at hx
  cases hl : args.lst with
  | cons a r => rw [hl] at hx; cases hx
  | nil =>
    rw [hl] at hx hc
    cases hx
    have : avs = #[] := by
      have := hc.length
      exact Array.eq_empty_of_size_eq_zero (by simpa using this.symm)
    subst this
    exact (h w).mono fun e w' ⟨e1, h1, h2, h3, h4⟩ => ⟨_, e1, ι, .grow h1 h2 h3 h4, hR.grow h1 h2, .b _⟩
theorem alive_tells {FT : Pos → Fx} {K : Nat} {st : St} {f : Pos} (hA : FT f = fxAlive) : Tells FT K (.f f .nl .nl) .nl st fun v st' => v = .b true ∧ st' = st :=
  ⟨.b true, st, ⟨rfl, rfl⟩, 1, fun n hn => by
    obtain ⟨n, rfl⟩ : ∃ m, n = m + 1 := ⟨n - 1, by omega⟩
    show FT f (callN FT K n) (V.app .nl (V.app .nl .nl)) st = _
    rw [hA]; rfl⟩
end Den
