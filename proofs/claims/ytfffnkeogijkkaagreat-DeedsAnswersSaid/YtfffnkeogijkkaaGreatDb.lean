/- The evaluator's operations are sound. (The same text serves every seat.) -/
import Derived.Test.YtfffnkeogijkkaaGreatDa
set_option linter.unusedVariables false
set_option linter.unusedSimpArgs false
set_option linter.unusedSectionVars false
set_option linter.constructorNameAsVariable false
namespace Den
open Go

section
variable {P : Program} {E : Env} (hE : TyOK P E) {CR : CRel} {ι : Inj} {σ σ' : St} {w : World} {v : V} {call : Cl} {tm : T V} {ρ : Operand → Value} {o : Oper} 
include hE

theorem e_eqa {neg : Bool} {t u : TypeId} {X Y : Operand} (ho : o.op = .binOp (cond neg .neq .eql) t X Y u) {n : Nat} {x y : Opd} (h : oEqa n neg x y call tm σ = .ok v σ') (hx : VR ι (ev tm x) (ρ X)) (hy : VR ι (ev tm y) (ρ Y))
    (hq : (E t).eqok = true) (hk : (∃ fs, (E t).k = .strct fs ∧ flat E fs 0 = true ∧ fs.length = n) ∨ (∃ e, (E t).k = .arr n e ∧ (E e).k.isInt = true ∧ (E e).size = 1)) :
    Upon P (Stl ι w σ σ' v) ((execOp ρ o).run P w) := by
  have hb : (E t).k.isBad = false := by rcases hk with ⟨fs, h1, _⟩ | ⟨e, h1, _⟩ <;> rw [h1] <;> rfl
  obtain ⟨g1, g2⟩ := (hE t hb).eq hq
  have hu := (hE t hb).und
  simp only [execOp, ho]
  obtain ⟨a, ex, h3⟩ := onAg_ok (v := ev tm x) h
  obtain ⟨b, ey, h4⟩ := onAg_ok (v := ev tm y) h3
  obtain ⟨hl, h5⟩ := cond_ok h4
  simp only [Bool.and_eq_true, Nat.beq_eq, len_eq] at hl
  rw [ex] at hx; rw [ey] at hy
  generalize ρ X = x' at hx ⊢
  generalize ρ Y = y' at hy ⊢
  cases hx with | ag hx => cases hy with | ag hy =>
  rename_i xs ys
  have key : ∃ r, eqVs a.lst b.lst = B3.of r ∧ v = .b (cond neg (!r) r) ∧ σ = σ' := by
    cases he : eqVs a.lst b.lst with
    | no => rw [he] at h5; cases h5
    | t => rw [he] at h5; obtain ⟨e1, e2⟩ := okv_ok h5; exact ⟨true, rfl, by rw [← e1]; cases neg <;> rfl, e2⟩
    | f => rw [he] at h5; obtain ⟨e1, e2⟩ := okv_ok h5; exact ⟨false, rfl, by rw [← e1]; cases neg <;> rfl, e2⟩
  obtain ⟨r, hr, e1, e2⟩ := key
  have heq : (Op.equalIn (9998 + 2) t (.agg xs) (.agg ys)).run P w = .ok r w := by
    rcases hk with ⟨fs, k1, k2, k3⟩ | ⟨e, k1, k2, k3⟩
    · rw [k1] at hu
      obtain ⟨f, f1, f2⟩ := hu
      obtain ⟨f4, f3⟩ := g2 f f1
      have hfo : P.fieldsOf t = f := by simp [Program.fieldsOf, f1]
      rw [run_equalIn_struct w (9998 + 1) t xs ys (by rw [hfo]; exact f1) f4, hfo]
      refine eqFields_ok hE 9998 f.toList 0 (by rw [f2]; exact k2) f3 (a := a.lst) (b := b.lst) (by simpa using hx.cl) (by simpa using hy.cl) ?_ ?_ hr
      · rw [hl.1, ← k3, ← f2]; simp
      · rw [hl.2, ← k3, ← f2]; simp
    · rw [k1] at hu
      exact run_equalArr hE 9998 hu k2 k3 hx.cl hy.cl hl.1 hl.2 hr
  have hg : ∀ op, (eqGuard op t X Y (.agg xs) (.agg ys)).run P w = .ok () w := fun op => run_eqGuard_agg w op t X Y xs ys g1
  cases neg
  · refine postV e2.symm (v' := .bool r) ?_ (by rw [e1]; exact .b _)
    have hh : (Op.equalIn 10000 t (.agg xs) (.agg ys)).run P w = .ok r w := heq
    rw [Sem.run_bind, hg]
    show (binOp .eql t (.agg xs) (.agg ys)).run P w = _
    rw [run_eql_struct, hh]; rfl
  · refine postV e2.symm (v' := .bool (!r)) ?_ (by rw [e1]; exact .b _)
    have hh : (Op.equalIn 10000 t (.agg xs) (.agg ys)).run P w = .ok r w := heq
    rw [Sem.run_bind, hg]
    show (binOp .neq t (.agg xs) (.agg ys)).run P w = _
    rw [run_neq_struct, hh]; rfl

theorem e_conv {s d : TypeId} {k k' : IntKind} {X : Operand} (ho : o.op = .convert s d X) {x : Opd} (h : oConv k x call tm σ = .ok v σ') (hx : VR ι (ev tm x) (ρ X)) (hs : (E s).k = .int k') (hd : (E d).k = .int k) :
    Upon P (Stl ι w σ σ' v) ((execOp ρ o).run P w) := by
  simp only [execOp, ho]
  have us := (hE s (by rw [hs]; rfl)).und
  have ud := (hE d (by rw [hd]; rfl)).und
  rw [hs] at us; rw [hd] at ud
  obtain ⟨q, n, ex, h3⟩ := onI_ok (v := ev tm x) h
  obtain ⟨e1, e2⟩ := okv_ok h3
  rw [ex] at hx
  generalize ρ X = x' at hx ⊢
  cases hx
  refine postV e2.symm (v' := .int k (k.wrap n)) ?_ (by rw [← e1, wrapF_eq]; exact .i ..)
  simp [convert, run_underlying us, run_underlying ud, Conv.intToInt]
omit hE in
theorem vls {xs : List Opd} {Xs : List Operand} (h : cOpds Xs = some xs) (hx : ∀ X x, X ∈ Xs → cOpd X = some x → VR ι (ev tm x) (ρ X)) : VL ι (evs tm xs) (Xs.map ρ) := by
  induction Xs generalizing xs with
  | nil => cases h; exact .nl
  | cons X Xs ih =>
    simp only [cOpds] at h
    split at h
    · rename_i y ys h1 h2
      cases h
      exact .co (hx X y (by simp) h1) (ih h2 fun Z z hz => hx Z z (by simp [hz]))
    · cases h
omit hE in
theorem e_mkf {f : FuncId} {A B : Array Operand} (ho : o.op = .makeFunc (.func f) A B) {a b : List Opd} (h : oMkf (pos f) a b call tm σ = .ok v σ') (ha : VL ι (evs tm a) (A.toList.map ρ)) (hb : VL ι (evs tm b) (B.toList.map ρ)) :
    Upon P (Stl ι w σ σ' v) ((execOp ρ o).run P w) := by
  cases h
  simp only [execOp, ho]
  refine postV rfl (v' := .func (.func f) (A.map ρ) (B.map ρ)) (by simp [Instr.makeFunc]) (.f (num_pos f) (by simpa using ha) (by simpa using hb))
theorem e_fieldA {t : TypeId} {X : Operand} {i : Nat} (ho : o.op = .fieldAddr t X i) {fs : List (Nat × TypeId)} (hk : (E t).k = .strct fs) {off : Nat} {u : TypeId} (hf : fs[i]? = some (off, u)) (hu : (E u).k.isBad = false) (hz : (E u).size ≠ 0)
    {x : Opd} (h : oFieldA off x call tm σ = .ok v σ') (hx : VR ι (ev tm x) (ρ X)) : Upon P (Stl ι w σ σ' v) ((execOp ρ o).run P w) := by
  simp only [execOp, ho]
  have ht := (hE t (by rw [hk]; rfl)).und
  rw [hk] at ht
  obtain ⟨f, f1, f2⟩ := ht
  obtain ⟨b, n, ex, h3⟩ := onP_ok (v := ev tm x) h
  cases h3
  rw [ex] at hx
  generalize ρ X = x' at hx ⊢
  cases hx with | p hb =>
  have hfi : ∃ g, f[i]? = some g ∧ g.offset = off ∧ g.type = u := by
    rw [← f2] at hf
    simp only [List.getElem?_map, Array.getElem?_toList] at hf
    cases hg : f[i]? with
    | none => rw [hg] at hf; cases hf
    | some g => rw [hg] at hf; simp at hf; exact ⟨g, rfl, hf.1, hf.2⟩
  obtain ⟨g, g1, g2, g3⟩ := hfi
  subst g2 g3
  refine postV rfl ?_ (.p hb)
  simp [Instr.fieldAt, run_underlying f1, g1, Instr.sureAddr, fieldPlace, hE.size w hu, hz, addr_add, Nat.add_assoc]
theorem e_field {t : TypeId} {X : Operand} {i : Nat} (ho : o.op = .field t X i) {fs : List (Nat × TypeId)} (hk : (E t).k = .strct fs) {off : Nat} {u : TypeId} (hf : fs[i]? = some (off, u)) (hu : (E u).k.isBad = false) (hg : (E u).k.agg = false)
    {x : Opd} (h : oField off x call tm σ = .ok v σ') (hx : VR ι (ev tm x) (ρ X)) : Upon P (Stl ι w σ σ' v) ((execOp ρ o).run P w) := by
  simp only [execOp, ho]
  have ht := (hE t (by rw [hk]; rfl)).und
  rw [hk] at ht
  obtain ⟨f, f1, f2⟩ := ht
  obtain ⟨b, ex, h3⟩ := onAg_ok (v := ev tm x) h
  obtain ⟨z, hz, h4⟩ := getAt_ok h3
  obtain ⟨e1, e2⟩ := okv_ok h4
  rw [ex] at hx
  generalize ρ X = x' at hx ⊢
  cases hx with | ag hb =>
  rename_i cs
  have hfi : ∃ g, f[i]? = some g ∧ g.offset = off ∧ g.type = u := by
    rw [← f2] at hf
    simp only [List.getElem?_map, Array.getElem?_toList] at hf
    cases hg : f[i]? with
    | none => rw [hg] at hf; cases hf
    | some g => rw [hg] at hf; simp at hf; exact ⟨g, rfl, hf.1, hf.2⟩
  obtain ⟨g, g1, g2, g3⟩ := hfi
  subst g2 g3
  obtain ⟨z', hz1, hz2⟩ := hb.cl.get hz
  refine postV e2.symm (v' := z') ?_ (by rw [← e1]; exact hz2)
  have hp : (part g.type cs g.offset).run P w = .ok z' w := run_part1 hE hu hg (by simpa using hz1)
  simp [Instr.field, run_underlying f1, g1, asAgg, hp]
theorem run_partA {t : TypeId} (ht : (E t).k.isBad = false) (hg : (E t).k.agg = true) {a : V} {cs : Array Value} (hc : VL ι a cs.toList) {n : Nat} {xs : List V} (h : sub a.lst n (E t).size = .ok xs) :
    ∃ v', (part t cs n).run P w = .ok v' w ∧ VR ι (.ag (mkl xs)) v' := by
  refine ⟨.agg (cs.extract n (n + (E t).size)), by simp [part, hE.isAgg w ht, hg, hE.size w ht], .ag ?_⟩
  obtain ⟨h1, h2⟩ := sub_ok h
  have hl := hc.cl.length
  refine (CL.of_get ?_ fun k v hk => ?_ : CL ι xs _).vl
  · rw [h1]; simp; rw [h1] at h2; simp at h2; simp at hl; omega
  · have hk' : k < (E t).size := by
      rcases Nat.lt_or_ge k (E t).size with x | x
      · exact x
      · rw [List.getElem?_eq_none (by omega)] at hk; cases hk
    rw [sub_get h k hk'] at hk
    obtain ⟨v', g1, g2⟩ := hc.cl.get hk
    refine ⟨v', ?_, g2⟩
    rw [Array.getElem?_toList] at g1 ⊢
    have hlt : n + k < cs.size := by
      rcases Nat.lt_or_ge (n + k) cs.size with x | x
      · exact x
      · rw [Array.getElem?_eq_none x] at g1; cases g1
    rw [Array.getElem?_extract, if_pos (by omega)]
    exact g1
theorem e_fieldG {t : TypeId} {X : Operand} {i : Nat} (ho : o.op = .field t X i) {fs : List (Nat × TypeId)} (hk : (E t).k = .strct fs) {off : Nat} {u : TypeId} (hf : fs[i]? = some (off, u)) (hu : (E u).k.isBad = false) (hg : (E u).k.agg = true)
    {x : Opd} (h : oFieldG off (E u).size x call tm σ = .ok v σ') (hx : VR ι (ev tm x) (ρ X)) : Upon P (Stl ι w σ σ' v) ((execOp ρ o).run P w) := by
  simp only [execOp, ho]
  have ht := (hE t (by rw [hk]; rfl)).und
  rw [hk] at ht
  obtain ⟨f, f1, f2⟩ := ht
  obtain ⟨b, ex, h3⟩ := onAg_ok (v := ev tm x) h
  obtain ⟨xs, hz, h4⟩ := ol_ok h3
  cases h4
  rw [ex] at hx
  generalize ρ X = x' at hx ⊢
  cases hx with | ag hb =>
  rename_i cs
  have hfi : ∃ g, f[i]? = some g ∧ g.offset = off ∧ g.type = u := by
    rw [← f2] at hf
    simp only [List.getElem?_map, Array.getElem?_toList] at hf
    cases hg : f[i]? with
    | none => rw [hg] at hf; cases hf
    | some g => rw [hg] at hf; simp at hf; exact ⟨g, rfl, hf.1, hf.2⟩
  obtain ⟨g, g1, g2, g3⟩ := hfi
  subst g2 g3
  obtain ⟨z', hz1, hz2⟩ := run_partA (w := w) hE hu hg hb hz
  refine postV rfl (v' := z') ?_ hz2
  simp [Instr.field, run_underlying f1, g1, asAgg, hz1]
theorem e_idxA {t e : TypeId} {n : Nat} {X I : Operand} (ho : o.op = .indexAddr t X I) (hk : (E t).k = .arr n e) (he : (E e).k.isBad = false) {x i : Opd} (h : oIdxA (E e).size n x i call tm σ = .ok v σ') (hx : VR ι (ev tm x) (ρ X)) (hi : VR ι (ev tm i) (ρ I)) :
    Upon P (Stl ι w σ σ' v) ((execOp ρ o).run P w) := by
  simp only [execOp, ho]
  have ht := (hE t (by rw [hk]; rfl)).und
  rw [hk] at ht
  obtain ⟨q, j, ei, h3⟩ := onN_ok (v := ev tm i) h
  obtain ⟨hj, h4⟩ := cond_ok h3
  obtain ⟨b, f, ex, h5⟩ := onP_ok (v := ev tm x) h4
  cases h5
  rw [natOf hi ei]
  rw [ex] at hx
  generalize ρ X = x' at hx ⊢
  cases hx with | p hb =>
  have hj' : j < n := by simpa [Nat.blt_eq] using hj
  have hc : (0 : Int) ≤ j ∧ (j : Int) < n := by omega
  refine postV rfl ?_ (.p hb)
  simp only [Instr.indexAt, asIntOf, Sem.run_bind, Sem.run_pure, Result.andThen_ok, run_underlying (show P.underlying t = some (.array n e) from ht), Instr.sureAddr, hE.size w he]
  simp [hc, hE.size w he, addr_add, Nat.add_assoc]
theorem e_idxS {t e : TypeId} {X I : Operand} (ho : o.op = .indexAddr t X I) (hk : (E t).k = .slice e) (he : (E e).k.isBad = false) {x i : Opd} (h : oIdxS (E e).size x i call tm σ = .ok v σ') (hx : VR ι (ev tm x) (ρ X)) (hi : VR ι (ev tm i) (ρ I)) :
    Upon P (Stl ι w σ σ' v) ((execOp ρ o).run P w) := by
  simp only [execOp, ho]
  have ht := (hE t (by rw [hk]; rfl)).und
  rw [hk] at ht
  obtain ⟨q, j, ei, h3⟩ := onN_ok (v := ev tm i) h
  rcases onSl_ok (v := ev tm x) h3 with ⟨_, h4⟩ | ⟨b, f, n, c, opn, ex, h4⟩
  · cases h4
  · obtain ⟨hj, h5⟩ := cond_ok h4
    cases h5
    rw [natOf hi ei]
    rw [ex] at hx
    generalize ρ X = x' at hx ⊢
    cases hx with | sl hb hc hl ha =>
    have hj' : j < n := by simpa [Nat.blt_eq] using hj
    have hcc : (0 : Int) ≤ j ∧ (j : Int) < n := by omega
    have ha' := ha.resolve_left (by omega)
    subst ha'
    refine postV rfl ?_ (.p hb)
    simp only [Instr.indexAt, asIntOf, Sem.run_bind, Sem.run_pure, Result.andThen_ok, run_underlying (show P.underlying t = some (.slice e) from ht)]
    simp [hcc, hE.size w he, addr_add, Nat.add_assoc]
theorem e_idxV {t e : TypeId} {n : Nat} {X I : Operand} (ho : o.op = .index t X I) (hk : (E t).k = .arr n e) (he : (E e).k.isBad = false) {x i : Opd} (h : oIdxV (E e).size n (E e).k.agg x i call tm σ = .ok v σ') (hx : VR ι (ev tm x) (ρ X)) (hi : VR ι (ev tm i) (ρ I)) :
    Upon P (Stl ι w σ σ' v) ((execOp ρ o).run P w) := by
  simp only [execOp, ho]
  have ht := (hE t (by rw [hk]; rfl)).und
  rw [hk] at ht
  obtain ⟨q, j, ei, h3⟩ := onN_ok (v := ev tm i) h
  obtain ⟨hj, h4⟩ := cond_ok h3
  obtain ⟨b, ex, h5⟩ := onAg_ok (v := ev tm x) h4
  rw [natOf hi ei]
  rw [ex] at hx
  generalize ρ X = x' at hx ⊢
  cases hx with | ag hb =>
  rename_i cs
  have hj' : j < n := by simpa [Nat.blt_eq] using hj
  have hc : (0 : Int) ≤ j ∧ (j : Int) < n := by omega
  cases hg : (E e).k.agg with
  | true =>
    rw [hg] at h5
    change (sub b.lst (Nat.mul j (E e).size) (E e).size).bnd R.no (fun xs => R.ok (.ag (mkl xs)) σ) = _ at h5
    obtain ⟨xs, hz, h6⟩ := ol_ok h5
    cases h6
    obtain ⟨z', hz1, hz2⟩ := run_partA (w := w) hE he hg hb hz
    refine postV rfl (v' := z') ?_ hz2
    simp only [Instr.index, asIntOf, Sem.run_bind, Sem.run_pure, Result.andThen_ok, run_underlying (show P.underlying t = some (.array n e) from ht)]
    simp [hc, hE.size w he]; exact hz1
  | false =>
    rw [hg] at h5
    change getAt b.lst (Nat.mul j (E e).size) R.no (okv σ) = _ at h5
    obtain ⟨z, hz, h6⟩ := getAt_ok h5
    obtain ⟨e1, e2⟩ := okv_ok h6
    obtain ⟨z', hz1, hz2⟩ := hb.cl.get hz
    refine postV e2.symm (v' := z') ?_ (by rw [← e1]; exact hz2)
    have hp : (part e cs (j * (E e).size)).run P w = .ok z' w := run_part1 hE he hg (by simpa using hz1)
    simp only [Instr.index, asIntOf, Sem.run_bind, Sem.run_pure, Result.andThen_ok, run_underlying (show P.underlying t = some (.array n e) from ht)]
    simp [hc, hE.size w he, hp]
omit hE in
theorem byteAt_ok {l : List UInt8} : ∀ {n : Nat}, byteAt l n σ = .ok v σ' → ∃ b, l[n]? = some b ∧ v = .i .u8 (Int.ofNat b.toNat) ∧ σ' = σ := by
  induction l with
  | nil => intro n h; cases h
  | cons x l ih =>
    intro n h
    cases n with
    | zero => cases h; exact ⟨x, rfl, rfl, rfl⟩
    | succ n => exact ih (n := n) h
theorem e_idxC {t : TypeId} {X I : Operand} (ho : o.op = .index t X I) (hk : (E t).k = .str) {x i : Opd} (h : oIdxC x i call tm σ = .ok v σ') (hx : VR ι (ev tm x) (ρ X)) (hi : VR ι (ev tm i) (ρ I)) :
    Upon P (Stl ι w σ σ' v) ((execOp ρ o).run P w) := by
  simp only [execOp, ho]
  have ht := (hE t (by rw [hk]; rfl)).und
  rw [hk] at ht
  obtain ⟨q, j, ei, h3⟩ := onN_ok (v := ev tm i) h
  obtain ⟨l, ex, h4⟩ := onS_ok (v := ev tm x) h3
  obtain ⟨b, hb, e1, e2⟩ := byteAt_ok h4
  rw [natOf hi ei]
  rw [ex] at hx
  generalize ρ X = x' at hx ⊢
  cases hx with | s _ p hp =>
  subst hp
  have hlt : j < p.size := by
    rcases Nat.lt_or_ge j p.data.toList.length with x | x
    · simpa using x
    · rw [List.getElem?_eq_none x] at hb; cases hb
  have hbb : p[j]? = some b := by
    rw [getElem?_pos p j hlt]
    rw [List.getElem?_eq_getElem (by simpa using hlt)] at hb
    show some p.data[j] = some b
    simpa using hb
  refine postV e2 (v' := .int .u8 b.toNat) ?_ (by rw [e1]; exact .i ..)
  simp only [Instr.index, asIntOf, Sem.run_bind, Sem.run_pure, Result.andThen_ok, run_underlying (show P.underlying t = some .string from ht)]
  simp [hbb]
omit hE in
theorem e_ext {X : Operand} {i : Nat} (ho : o.op = .extract X i) {x : Opd} (h : oExt x i call tm σ = .ok v σ') (hx : VR ι (ev tm x) (ρ X)) : Upon P (Stl ι w σ σ' v) ((execOp ρ o).run P w) := by
  simp only [execOp, ho]
  obtain ⟨b, ex, h3⟩ := onTu_ok (v := ev tm x) h
  obtain ⟨z, hz, h4⟩ := getAt_ok h3
  obtain ⟨e1, e2⟩ := okv_ok h4
  rw [ex] at hx
  generalize ρ X = x' at hx ⊢
  cases hx with | tu hb =>
  rename_i cs
  obtain ⟨z', hz1, hz2⟩ := hb.cl.get hz
  refine postV e2.symm (v' := z') ?_ (by rw [← e1]; exact hz2)
  have : cs[i]? = some z' := by simpa using hz1
  simp [Instr.extract, this]
theorem e_sliceS {t e : TypeId} {X : Operand} {L H M : Option Operand} (ho : o.op = .slice t X L H M) (hk : (E t).k = .slice e) (he : (E e).k.isBad = false) {x : Opd} {lo hi mx : Option Opd} (h : oSliceS (E e).size x lo hi mx call tm σ = .ok v σ')
    (hx : VR ι (ev tm x) (ρ X)) (hl : OO ι tm lo (L.map ρ)) (hh : OO ι tm hi (H.map ρ)) (hm : OO ι tm mx (M.map ρ)) (hmh : hi = none → mx = none) : Upon P (Stl ι w σ σ' v) ((execOp ρ o).run P w) := by
  simp only [execOp, ho]
  obtain ⟨e1, v', h1, h2⟩ := ok_sliceS (P := P) (w := w) hE hk he h hx hl hh hm hmh
  exact postV e1 h1 h2
theorem e_sliceA {t e : TypeId} {n : Nat} {X : Operand} {L H M : Option Operand} (ho : o.op = .slice t X L H M) (hk : (E t).k = .arr n e) (he : (E e).k.isBad = false) {x : Opd} {lo hi mx : Option Opd} (h : oSliceA (E e).size n x lo hi mx call tm σ = .ok v σ')
    (hx : VR ι (ev tm x) (ρ X)) (hl : OO ι tm lo (L.map ρ)) (hh : OO ι tm hi (H.map ρ)) (hm : OO ι tm mx (M.map ρ)) (hmh : hi = none → mx = none) : Upon P (Stl ι w σ σ' v) ((execOp ρ o).run P w) := by
  simp only [execOp, ho]
  have ht := (hE t (by rw [hk]; rfl)).und
  rw [hk] at ht
  obtain ⟨b, f, ex, h3⟩ := onP_ok (v := ev tm x) h
  obtain ⟨l, hh', m, eb, h4⟩ := o3_ok h3
  cases h4
  rw [ex] at hx
  generalize ρ X = x' at hx ⊢
  cases hx with | p hb =>
  rename_i B d X
  obtain ⟨a1, a2, a3, a4, a5⟩ := bnds_ok (P := P) (w := w) (X := 0) eb hl hh hm hmh false
  have hc : (cond (isNone mx) (n + 0) m : Nat) = m := by cases mx with
    | none => exact (a4 rfl).symm
    | some _ => rfl
  rw [hc, Nat.add_zero] at a5
  refine postV rfl (v' := .slice (some (if m = l then ⟨B, d + f, none⟩ else Addr.add ⟨B, d + f, none⟩ (l * (E e).size))) (hh' - l) (m - l)) ?_ ?_
  · simp only [Instr.sliceAt, Sem.run_bind, run_underlying (show P.underlying t = some (.array n e) from ht), Result.andThen_ok, Instr.sureAddr, Sem.run_pure, a5, hE.size w he]
  · refine .sl hb (show m - l = m - l + 0 from rfl) (show hh' - l ≤ m - l by omega) ?_
    by_cases hz : m = l
    · exact .inl (by omega)
    · rw [if_neg hz]; exact .inr (add_opt ..)
end
end Den

namespace Den
open Go

theorem zip_ovr (off : Nat) : ∀ (vs : List Value) (j : Nat) (cs : Array Value), (vs.zipIdx j).foldl (fun cs p => cs.setIfInBounds (off + p.2) p.1) cs = ovr cs (off + j) vs
  | [], _, _ => rfl
  | v :: vs, j, cs => by simp only [List.zipIdx_cons, List.foldl_cons, ovr]; rw [zip_ovr off vs (j + 1)]; rfl
theorem fold_ovr (off : Nat) (v : Array Value) (cs : Array Value) : v.zipIdx.foldl (fun cs (c, j) => cs.setIfInBounds (off + j) c) cs = ovr cs off v.toList := by
  rw [← Array.foldl_toList, Array.toList_zipIdx]
  exact zip_ovr off v.toList 0 cs
theorem CL.ovr {ι : Inj} {cs cs' xs : List V} {Cs : Array Value} {xs' : List Value} {o : Nat} (hc : CL ι cs Cs.toList) (hs : setsAt cs o xs = .ok cs') (hx : CL ι xs xs') : CL ι cs' (Den.ovr Cs o xs').toList := by
  obtain ⟨h1, _, _⟩ := setsAt_ok _ _ _ _ hs
  have hl := hc.length
  have hx' := hx.length
  have hsz : o + xs'.length ≤ Cs.size := by simp at hl; omega
  refine CL.of_get (by rw [setsAt_length hs, hl]; simp [ovr_size]) fun k v hv => ?_
  rw [setsAt_get hs] at hv
  rw [Array.getElem?_toList, ovr_get _ _ _ _ hsz]
  by_cases a : o ≤ k ∧ k < o + xs.length
  · rw [if_pos a] at hv; rw [if_pos (by omega)]; exact hx.get hv
  · rw [if_neg a] at hv; rw [if_neg (by omega)]
    obtain ⟨v', g1, g2⟩ := hc.get hv
    exact ⟨v', by simpa using g1, g2⟩
/-- parts: an operand's value each. -/
inductive PR (ι : Inj) (tm : T V) (place : Nat → Option (Nat × Nat)) : List (Nat × Nat × Opd) → List (Nat × Value) → Prop
  | nil : PR ι tm place [] []
  | cons {off n i : Nat} {x : Opd} {v : Value} {r : List (Nat × Nat × Opd)} {r' : List (Nat × Value)} : place i = some (off, n) → VR ι (ev tm x) v → PR ι tm place r r' → PR ι tm place ((off, n, x) :: r) ((i, v) :: r')
theorem fill_ok {ι : Inj} {tm : T V} {place : Nat → Option (Nat × Nat)} {ps : List (Nat × Nat × Opd)} {ps' : List (Nat × Value)} (h : PR ι tm place ps ps') : ∀ {cs : List V} {Cs : Array Value} {cs' : List V},
    CL ι cs Cs.toList → fillP tm ps cs = .ok cs' → ∃ Cs', Instr.fill place Cs ps' = some Cs' ∧ CL ι cs' Cs'.toList := by
  induction h with
  | nil => intro cs Cs cs' hc e; cases e; exact ⟨Cs, rfl, hc⟩
  | cons hp hv _ ih =>
    rename_i off n i x v r r' _
    intro cs Cs cs' hc e
    change cond (Nat.beq (len (cellsOf (ev tm x))) n) (OL.bnd (setsAt cs off (cellsOf (ev tm x))) OL.no (fillP tm r)) OL.no = _ at e
    obtain ⟨e1, e2⟩ := cond_ok' e
    obtain ⟨ys, e3, e4⟩ := ol_ok' e2
    have hvc := hv.cells
    have hl := hvc.length
    have hn : v.cells.size = n := by
      have := Nat.eq_of_beq_eq_true e1
      rw [len_eq] at this; simp at hl; omega
    obtain ⟨g1, _, _⟩ := setsAt_ok _ _ _ _ e3
    have hcl := hc.length
    obtain ⟨Cs', r1, r2⟩ := ih (hc.ovr e3 hvc) e4
    refine ⟨Cs', ?_, r2⟩
    simp only [Instr.fill, hp]
    have hle : ¬ (off + v.cells.size > Cs.size) := by simp at hcl hl; omega
    simp only [hn, ne_eq, not_true, decide_false, Bool.false_or, decide_eq_true_eq]
    rw [← hn, if_neg hle, fold_ovr]
    exact r1

section
variable {P : Program} {E : Env} (hE : TyOK P E) {CR : CRel} {ι : Inj} {σ σ' : St} {w : World} {v : V} {call : Cl} {tm : T V} {ρ : Operand → Value} {o : Oper} (hR : Rel CR ι σ w)
include hE hR

omit hR in
theorem e_alloc (hn : ι σ.nx = none) {t : TypeId} (ho : o.op = .alloc t) (ht : (E t).k.isBad = false) (h : oAlloc (E t).z call tm σ = .ok v σ') : Upon P (New CR ι w σ σ' v) ((execOp ρ o).run P w) := by
  simp only [execOp, ho]
  unfold oAlloc at h
  rw [St.new_eq] at h
  cases h
  obtain ⟨v', w', h1, h2⟩ := ok_alloc (P := P) hE ht hn
  exact upV h1 h2
omit hE in
omit hR in
theorem e_box (hn : ι σ.nx = none) {t : TypeId} {n : Nat} {X : Operand} (ho : o.op = .box t X) {x : Opd} (h : oBox n x call tm σ = .ok v σ') (hx : VR ι (ev tm x) (ρ X)) : Upon P (New CR ι w σ σ' v) ((execOp ρ o).run P w) := by
  simp only [execOp, ho]
  unfold oBox at h
  rw [St.new_eq] at h
  cases h
  obtain ⟨v', w', h1, h2⟩ := ok_box (P := P) t hn hx
  exact upV h1 h2
omit hR in
theorem e_load (hR : RelO CR ι σ w) {t : TypeId} {X : Operand} (ho : o.op = .load t X) (ht : (E t).k.isBad = false) (hg : (E t).k.agg = false) {x : Opd} (h : oLoad x call tm σ = .ok v σ') (hx : VR ι (ev tm x) (ρ X)) : Upon P (Stl ι w σ σ' v) ((execOp ρ o).run P w) := by
  simp only [execOp, ho]
  obtain ⟨b, f, ex, h3⟩ := onP_ok (v := ev tm x) h
  obtain ⟨cs, n, hc, h4⟩ := St.row_ok h3
  obtain ⟨z, hz, h5⟩ := getAt_ok h4
  obtain ⟨e1, e2⟩ := okv_ok h5
  rw [ex] at hx
  obtain ⟨v', g1, g2⟩ := ok_load (P := P) hE ht hg hR hx hc hz
  exact postV e2.symm g1 (by rw [← e1]; exact g2)
omit hR in
theorem e_loadA (hR : RelO CR ι σ w) {t : TypeId} {X : Operand} (ho : o.op = .load t X) (ht : (E t).k.isBad = false) (hg : (E t).k.agg = true) {x : Opd} (h : oLoadA (E t).size x call tm σ = .ok v σ') (hx : VR ι (ev tm x) (ρ X)) : Upon P (Stl ι w σ σ' v) ((execOp ρ o).run P w) := by
  simp only [execOp, ho]
  obtain ⟨b, f, ex, h3⟩ := onP_ok (v := ev tm x) h
  obtain ⟨cs, n, hc, h4⟩ := St.row_ok h3
  obtain ⟨xs, hz, h5⟩ := ol_ok h4
  cases h5
  rw [ex] at hx
  obtain ⟨v', g1, g2⟩ := ok_loadA (P := P) hE ht hg hR hx hc hz
  exact postV rfl g1 g2
theorem e_store {t : TypeId} {A X : Operand} (ho : o.op = .store t A X) (ht : (E t).k.isBad = false) {a x : Opd} (h : oStore (E t).size a x call tm σ = .ok v σ') (ha : VR ι (ev tm a) (ρ A)) (hx : VR ι (ev tm x) (ρ X)) :
    Upon P (Post CR ι w σ' v) ((execOp ρ o).run P w) := by
  simp only [execOp, ho]
  obtain ⟨b, f, ex, h3⟩ := onP_ok (v := ev tm a) h
  obtain ⟨cs, n, hc, h4⟩ := St.row_ok h3
  obtain ⟨hro, h4⟩ := wr_ok h4
  obtain ⟨hl, h5⟩ := cond_ok h4
  obtain ⟨cs', hs, h6⟩ := ol_ok h5
  cases h6
  rw [ex] at ha
  obtain ⟨w', g1, g2⟩ := ok_store (P := P) hE ht hR ha hc hx (by rw [← len_eq]; exact Nat.eq_of_beq_eq_true hl) hs hro
  exact upU g1 g2
omit hE in
omit hR in
theorem e_mkm (hn : ι σ.nx = none) {t : TypeId} (ho : o.op = .makeMap t none) (h : oMkm call tm σ = .ok v σ') : Upon P (New CR ι w σ σ' v) ((execOp ρ o).run P w) := by
  simp only [execOp, ho]
  unfold oMkm at h
  rw [St.new_eq] at h
  cases h
  refine upV (v' := .map (some w.heap.size)) (w' := Wadd w (.map #[] 0)) ?_ ⟨.map [] 0, .map #[] 0, 0, rfl, rfl, rfl, .map .nil, .m (d := 0) (upd_self ..)⟩
  simp [Instr.makeMap, newObj, Sem.run, Wadd]
omit hR in
theorem prS {ps : List (Nat × Operand)} {qs : List (Nat × Nat × Opd)} {fs : List (Nat × TypeId)} (h : cParts E fs ps = some qs) (hx : ∀ X x, X ∈ ps.map (·.2) → cOpd X = some x → VR ι (ev tm x) (ρ X)) :
    PR ι tm (fun i => (fs[i]?).map fun x => (x.1, (E x.2).size)) qs (ps.map fun (i, x) => (i, ρ x)) := by
  induction ps generalizing qs with
  | nil => cases h; exact .nil
  | cons p ps ih =>
    obtain ⟨i, X⟩ := p
    simp only [cParts] at h
    split at h
    · rename_i off t y ys h1 h2 h3
      split at h
      · cases h
      · cases h
        exact .cons (by simp [h1]) (hx X y (by simp) h2) (ih h3 fun Z z hz => hx Z z (by simp only [List.map_cons, List.mem_cons]; exact .inr hz))
    · cases h
omit hE hR in
theorem prA {ps : List (Nat × Operand)} {qs : List (Nat × Nat × Opd)} {esz : Nat} (h : cPartsA esz ps = some qs) (hx : ∀ X x, X ∈ ps.map (·.2) → cOpd X = some x → VR ι (ev tm x) (ρ X)) :
    PR ι tm (fun i => some (i * esz, esz)) qs (ps.map fun (i, x) => (i, ρ x)) := by
  induction ps generalizing qs with
  | nil => cases h; exact .nil
  | cons p ps ih =>
    obtain ⟨i, X⟩ := p
    simp only [cPartsA] at h
    split at h
    · rename_i y ys h2 h3
      cases h
      exact .cons rfl (hx X y (by simp) h2) (ih h3 fun Z z hz => hx Z z (by simp only [List.map_cons, List.mem_cons]; exact .inr hz))
    · cases h
omit hR in
theorem run_places (fs : List Field) (hb : ∀ f ∈ fs, (E f.type).k.isBad = false) : (fs.mapM (m := Sem) fun f => do pure (f.offset, ← Go.sizeOf f.type)).run P w = .ok (fs.map fun f => (f.offset, (E f.type).size)) w := by
  induction fs with
  | nil => simp
  | cons f fs ih =>
    have hi := ih fun g hg => hb g (by simp [hg])
    simp only [List.mapM_cons, Sem.run_bind, hE.size w (hb f (by simp)), Result.andThen_ok, Sem.run_pure]
    rw [hi]; rfl
omit hR in
theorem e_buildS {t : TypeId} {ps : Array (Nat × Operand)} (ho : o.op = .build t ps) {fs : List (Nat × TypeId)} (hk : (E t).k = .strct fs) (hb : fs.all (fun x => !(E x.2).k.isBad) = true) {qs : List (Nat × Nat × Opd)} (hq : cParts E fs ps.toList = some qs)
    (h : oBuild (E t).z qs call tm σ = .ok v σ') (hx : ∀ X x, X ∈ ps.toList.map (·.2) → cOpd X = some x → VR ι (ev tm x) (ρ X)) : Upon P (Stl ι w σ σ' v) ((execOp ρ o).run P w) := by
  simp only [execOp, ho]
  have ht : (E t).k.isBad = false := by rw [hk]; rfl
  have hu := (hE t ht).und
  rw [hk] at hu
  obtain ⟨f, f1, f2⟩ := hu
  obtain ⟨cs, e1, e2⟩ := ol_ok h
  cases e2
  obtain ⟨z, z1, z2, _⟩ := hE.zero w ht
  obtain ⟨Cs, c1, c2⟩ := fill_ok (prS hE hq hx) (z2 ι) e1
  refine postV rfl (v' := .agg Cs) ?_ (.ag c2.vl)
  have hp : (f.mapM (m := Sem) fun f => do pure (f.offset, ← Go.sizeOf f.type)).run P w = .ok (f.map fun f => (f.offset, (E f.type).size)) w := by
    rw [Array.mapM_eq_mapM_toList]
    have := run_places (w := w) hE f.toList (fun g hg => by
      rw [List.all_eq_true] at hb
      have := hb (g.offset, g.type) (by rw [← f2]; exact List.mem_map.2 ⟨g, hg, rfl⟩)
      simpa using this)
    simp only [Sem.run_map, this, Result.andThen_ok]
    congr 1
    apply Array.toList_inj.1; simp
  have hpl : (fun i : Nat => (fs[i]?).map fun (x : Nat × TypeId) => (x.1, (E x.2).size)) = fun i : Nat => (f.map fun (f : Field) => (f.offset, (E f.type).size))[i]? := by
    funext i
    rw [← f2]; simp [Function.comp_def]
  rw [hpl] at c1
  simp only [Instr.build, Sem.run_bind, z1, Result.andThen_ok, run_underlying f1, hp]
  have : (ps.map fun (i, x) => (i, ρ x)).toList = ps.toList.map fun (i, x) => (i, ρ x) := by simp
  rw [this, c1]
  simp
end
end Den

namespace Den
open Go

theorem rep_len (z : List V) : ∀ n, (rep z n).length = n * z.length
  | 0 => by simp; rfl
  | n + 1 => by show (lappend z (rep z n)).length = _; rw [lappend_eq]; simp [rep_len z n, Nat.succ_mul]; omega
theorem rep_get (z : List V) : ∀ n k, k < n * z.length → (rep z n)[k]? = z[k % z.length]?
  | 0, k, h => by simp at h
  | n + 1, k, h => by
    show (lappend z (rep z n))[k]? = _
    rw [lappend_eq]
    by_cases a : k < z.length
    · rw [List.getElem?_append_left a, Nat.mod_eq_of_lt a]
    · rw [List.getElem?_append_right (by omega), rep_get z n (k - z.length) (by rw [Nat.succ_mul] at h; omega)]
      congr 1
      rw [← Nat.mod_eq_sub_mod (by omega)]
theorem CL.rep {ι : Inj} {z : List V} {Z : Array Value} (h : CL ι z Z.toList) (n : Nat) : CL ι (Den.rep z n) ((Array.range (n * Z.size)).map fun i => Z[i % Z.size]!).toList := by
  have hl : z.length = Z.size := by simpa using h.length
  refine CL.of_get (by simp [rep_len, hl]) fun k v hv => ?_
  have hk : k < n * z.length := by
    rcases Nat.lt_or_ge k (n * z.length) with x | x
    · exact x
    · rw [List.getElem?_eq_none (by rw [rep_len]; exact x)] at hv; cases hv
  rw [rep_get z n k hk] at hv
  obtain ⟨v', g1, g2⟩ := h.get hv
  refine ⟨v', ?_, g2⟩
  rw [hl] at hk g1
  have hz : k % Z.size < Z.size := Nat.mod_lt _ (by rcases Nat.eq_zero_or_pos Z.size with e | e; (rw [e] at hk; simp at hk); exact e)
  simp only [Array.toList_map, Array.toList_range, List.getElem?_map]
  rw [List.getElem?_range hk]
  simp only [Option.map_some]
  rw [Array.getElem?_toList, Array.getElem?_eq_getElem hz] at g1
  rw [getElem!_pos Z _ hz]; exact g1
theorem run_askRoom {P : Program} {w : World} (n : Nat) : (askRoom n).run P w = .ok () w := by
  unfold askRoom
  split <;> simp [mark, Sem.run]
theorem wrap_small (n : Nat) (h : n < 9223372036854775808) : IntKind.i64.wrap (n : Int) = n := lim_eq .i64 n h

section
variable {P : Program} {E : Env} (hE : TyOK P E) {CR : CRel} {ι : Inj} {σ σ' : St} {w : World} {v : V} {call : Cl} {tm : T V} {ρ : Operand → Value} {o : Oper} (hR : Rel CR ι σ w)
include hE hR

omit hR in
theorem e_buildA {t e : TypeId} {n : Nat} {ps : Array (Nat × Operand)} (ho : o.op = .build t ps) (hk : (E t).k = .arr n e) (hb : (E e).k.isBad = false) {qs : List (Nat × Nat × Opd)} (hq : cPartsA (E e).size ps.toList = some qs)
    (h : oBuild (E t).z qs call tm σ = .ok v σ') (hx : ∀ X x, X ∈ ps.toList.map (·.2) → cOpd X = some x → VR ι (ev tm x) (ρ X)) : Upon P (Stl ι w σ σ' v) ((execOp ρ o).run P w) := by
  simp only [execOp, ho]
  have ht : (E t).k.isBad = false := by rw [hk]; rfl
  have hu := (hE t ht).und
  rw [hk] at hu
  obtain ⟨cs, e1, e2⟩ := ol_ok h
  cases e2
  obtain ⟨z, z1, z2, _⟩ := hE.zero w ht
  obtain ⟨Cs, c1, c2⟩ := fill_ok (prA hq hx) (z2 ι) e1
  refine postV rfl (v' := .agg Cs) ?_ (.ag c2.vl)
  simp only [Instr.build, Sem.run_bind, z1, Result.andThen_ok, run_underlying (show P.underlying t = some (.array n e) from hu), hE.size w hb]
  have : (ps.map fun (i, x) => (i, ρ x)).toList = ps.toList.map fun (i, x) => (i, ρ x) := by simp
  rw [this, c1]
  simp
omit hR in
theorem e_buildSl (hn : ι σ.nx = none) {t e : TypeId} {n : Nat} {ps : Array (Nat × Operand)} (ho : o.op = .buildSlice t n ps) (hk : (E t).k = .slice e) (hb : (E e).k.isBad = false) (hm : n * (E e).size ≤ 16777216) {qs : List (Nat × Nat × Opd)}
    (hq : cPartsA (E e).size ps.toList = some qs) (h : oBuildS (E e).size (E e).z n qs call tm σ = .ok v σ') (hx : ∀ X x, X ∈ ps.toList.map (·.2) → cOpd X = some x → VR ι (ev tm x) (ρ X)) : Upon P (New CR ι w σ σ' v) ((execOp ρ o).run P w) := by
  simp only [execOp, ho]
  have ht : (E t).k.isBad = false := by rw [hk]; rfl
  have hu := (hE t ht).und
  rw [hk] at hu
  obtain ⟨cs, e1, e2⟩ := ol_ok h
  rw [St.new_eq] at e2
  cases e2
  obtain ⟨z, z1, z2, z3⟩ := hE.zero w hb
  have hzl : z.cells.size = (E e).size := by have := (z2 ι).length; simp at this; omega
  have hr := (z2 ι).rep n
  rw [hzl] at hr
  obtain ⟨Cs, c1, c2⟩ := fill_ok (prA hq hx) hr e1
  have r1 := OR.row (CR := CR) (w := w) hn c2 (arr := Cs) (fun k v hv => by simpa using hv) (X := 0) (t := 0) (by simp) (fun _ => rfl) e
  refine upV (v' := .slice (some ⟨w.heap.size, 0, none⟩) n n) (w' := Wadd w (.cells Cs e)) ?_ ⟨_, _, 0, rfl, rfl, rfl, r1, .sl (d := 0) (upd_self ..) rfl (Nat.le_refl _) (.inr rfl)⟩
  have hnot : ¬ (n * (E e).size > 2 ^ 24) := by omega
  have hps : (ps.map fun (i, x) => (i, ρ x)).toList = ps.toList.map fun (i, x) => (i, ρ x) := by simp
  simp only [Instr.buildSlice, Sem.run_bind, run_underlying (show P.underlying t = some (.slice e) from hu), Result.andThen_ok, hE.size w hb, if_neg hnot]
  by_cases hz : n * (E e).size = 0
  · rw [if_pos hz]
    rw [hz] at c1
    simp only [Sem.run_bind, Sem.run_pure, Result.andThen_ok, hz]
    rw [hps]
    have : ((Array.range 0).map fun x => (#[] : Array Value)[x % (#[] : Array Value).size]!) = (Array.range 0).map fun i => z.cells[i % (E e).size]! := by simp
    rw [this, c1]
    simp [run_newRow]
  · rw [if_neg hz]
    simp only [Sem.run_bind, Sem.run_pure, Result.andThen_ok, z1]
    rw [hps, hzl, c1]
    simp [run_newRow]
omit hR in
theorem e_mks (hn : ι σ.nx = none) {t e : TypeId} {L C : Operand} (ho : o.op = .makeSlice t L C) (hk : (E t).k = .slice e) (hb : (E e).k.isBad = false) {l c : Opd} (h : oMks (E e).bytes (E e).z l c call tm σ = .ok v σ') (hl : VR ι (ev tm l) (ρ L)) (hc : VR ι (ev tm c) (ρ C)) :
    Upon P (New CR ι w σ σ' v) ((execOp ρ o).run P w) := by
  simp only [execOp, ho]
  have ht : (E t).k.isBad = false := by rw [hk]; rfl
  have hu := (hE t ht).und
  rw [hk] at hu
  obtain ⟨q1, n, el, h1⟩ := onN_ok (v := ev tm l) h
  obtain ⟨q2, m, ec, h2⟩ := onN_ok (v := ev tm c) h1
  obtain ⟨h3, h4⟩ := cond_ok h2
  simp only [Bool.and_eq_true, Nat.ble_eq, Nat.mul_eq] at h3
  obtain ⟨b1, b2, b3⟩ := h3
  rw [St.new_eq] at h4
  cases h4
  rw [natOf hl el, natOf hc ec]
  obtain ⟨z, z1, z2, z3⟩ := hE.zero w hb
  obtain ⟨inf, i1, i2, i3⟩ := hE.tinfo w hb
  have hzl : z.cells.size = (E e).size := by have := (z2 ι).length; simp at this; omega
  have hr := (z2 ι).rep m
  rw [hzl] at hr
  have r1 := OR.row (CR := CR) (w := w) hn hr (arr := (Array.range (m * (E e).size)).map fun i => z.cells[i % (E e).size]!) (fun k v hv => by rw [Array.getElem?_toList] at hv; exact hv) (X := 0) (t := 0) (by simp) (fun _ => rfl) e
  refine upV (v' := .slice (some ⟨w.heap.size, 0, none⟩) n m) (w' := Wadd w (.cells ((Array.range (m * (E e).size)).map fun i => z.cells[i % (E e).size]!) e)) ?_ ⟨_, _, 0, rfl, rfl, rfl, r1, .sl (d := 0) (upd_self ..) rfl b1 (.inr rfl)⟩
  have w1 : IntKind.i64.wrap (n : Int) = n := wrap_small n (by omega)
  have w2 : IntKind.i64.wrap (m : Int) = m := wrap_small m (by omega)
  have c1 : ¬ ((m : Int) < 0) := by omega
  have c2 : ¬ ((n : Int) < 0) := by omega
  have c3 : ¬ ((m : Int) < (n : Int)) := by omega
  have c4 : ¬ (281474976710656 < ((E e).bytes : Int) * (m : Int)) := by rw [← Int.natCast_mul]; omega
  have c5 : ¬ (m < n) := by omega
  simp only [Instr.makeSlice, Sem.run_bind, run_underlying (show P.underlying t = some (.slice e) from hu), Result.andThen_ok, asInt, asIntOf, Sem.run_pure, i1, i2, w1, w2]
  by_cases hz : m * (E e).size = 0
  · simp [c1, c2, c3, c4, hE.size w hb, hz, run_newRow, run_askRoom]
    have h0 : Array.range 0 = #[] := by simp [Array.range]
    rw [h0]; simp
  · simp [c1, c2, c3, c4, c5, hE.size w hb, run_askRoom, hz, z1, run_newRow, hzl]
end
end Den

namespace Den
open Go

section
variable {P : Program} {E : Env} (hE : TyOK P E) {CR : CRel} {ι : Inj} {σ σ' : St} {w : World} {v : V} {call : Cl} {tm : T V} {ρ : Operand → Value} {o : Oper} (hR : Rel CR ι σ w)

theorem run_builtin {b : Builtin} {c : Go.Call} (hc : c.callee = .builtin b) (ho : o.op = .call c) : (execOp ρ o).run P w = (Go.builtin b c.argTypes o.type (c.args.map fun | .const _ => true | _ => false) (c.args.map ρ)).run P w := by
  simp only [execOp, ho, resolve, hc, Sem.run_bind, Sem.run_pure, Result.andThen_ok, invoke]
  rfl
theorem args1_ok {l : V} {k : V → R} {s : St} (h : args1 l k = .ok v s) {l' : List Value} (hl : VL ι l l') : ∃ x x' r, l' = x' :: r ∧ VR ι x x' ∧ k x = .ok v s := by
  cases hl with
  | nl => cases h
  | co a b => exact ⟨_, _, _, rfl, a, h⟩
theorem args2_ok {l : V} {k : V → V → R} {s : St} (h : args2 l k = .ok v s) {l' : List Value} (hl : VL ι l l') : ∃ x x' y y' r, l' = x' :: y' :: r ∧ VR ι x x' ∧ VR ι y y' ∧ k x y = .ok v s := by
  cases hl with
  | nl => cases h
  | co a b =>
    cases b with
    | nl => cases h
    | co a' b' => exact ⟨_, _, _, _, _, rfl, a, a', h⟩
theorem arr_get {A : Array Value} {l : List Value} (h : A.toList = l) (i : Nat) : A[i]? = l[i]? := by rw [← h]; simp

include hE hR
omit hR in
theorem e_s2a {t e : TypeId} {n : Nat} {X : Operand} (ho : o.op = .sliceToArrayPointer t X) (hk : (E t).k = .arr n e) {x : Opd} (h : oS2a n x call tm σ = .ok v σ') (hx : VR ι (ev tm x) (ρ X)) (hn : 0 < n) : Upon P (Stl ι w σ σ' v) ((execOp ρ o).run P w) := by
  simp only [execOp, ho]
  have hu := (hE t (by rw [hk]; rfl)).und
  rw [hk] at hu
  rcases onSl_ok (v := ev tm x) h with ⟨_, h4⟩ | ⟨b, f, l, c, opn, ex, h4⟩
  · cases h4
  · obtain ⟨hl, h5⟩ := cond_ok h4
    cases h5
    rw [ex] at hx
    generalize ρ X = x' at hx ⊢
    cases hx with | sl hb hc hlc ha =>
    simp only [Nat.ble_eq] at hl
    have ha' := ha.resolve_left (by omega)
    subst ha'
    refine postV rfl ?_ (.p hb)
    have : ¬ l < n := by omega
    simp [Instr.arrayAt, run_underlying (show P.underlying t = some (.array n e) from hu), this]
omit hR in
theorem e_len {t e : TypeId} {c : Go.Call} (hc : c.callee = .builtin .len) (ho : o.op = .call c) (ht : c.argTypes[0]? = some t) (hk : (E t).k = .slice e) {xs : List Opd}
    (h : oBi .len xs call tm σ = .ok v σ') (hx : VL ι (evs tm xs) (c.args.map ρ).toList) : Upon P (Stl ι w σ σ' v) ((execOp ρ o).run P w) := by
  rw [run_builtin hc ho]
  obtain ⟨x, x', r, e1, e2, e3⟩ := args1_ok (show args1 (evs tm xs) _ = _ from h) hx
  have hu := (hE t (by rw [hk]; rfl)).und
  rw [hk] at hu
  have g0 : (c.args.map ρ)[0]? = some x' := by rw [arr_get e1]; rfl
  rcases onSl_ok (v := x) e3 with ⟨ex, e4⟩ | ⟨b, f, n, cc, q, ex, e4⟩
  · obtain ⟨e5, e6⟩ := okv_ok e4
    subst ex; cases e2
    refine postV e6.symm (v' := .int .i64 0) ?_ (by rw [← e5]; exact .i ..)
    simp [Builtin.len_, ht, g0, run_underlying (show P.underlying t = some (.slice e) from hu), goInt]
  · obtain ⟨e5, e6⟩ := okv_ok e4
    subst ex; cases e2
    refine postV e6.symm (v' := .int .i64 n) ?_ (by rw [← e5]; exact .i ..)
    simp [Builtin.len_, ht, g0, run_underlying (show P.underlying t = some (.slice e) from hu), goInt]
omit hR in
theorem e_cap (hR : RelO CR ι σ w) {t e : TypeId} {c : Go.Call} (hc : c.callee = .builtin .cap) (ho : o.op = .call c) (ht : c.argTypes[0]? = some t) (hk : (E t).k = .slice e) {xs : List Opd}
    (h : oBi .cap xs call tm σ = .ok v σ') (hx : VL ι (evs tm xs) (c.args.map ρ).toList) : Upon P (Stl ι w σ σ' v) ((execOp ρ o).run P w) := by
  rw [run_builtin hc ho]
  obtain ⟨x, x', r, e1, e2, e3⟩ := args1_ok (show args1 (evs tm xs) _ = _ from h) hx
  have hu := (hE t (by rw [hk]; rfl)).und
  rw [hk] at hu
  have g0 : (c.args.map ρ)[0]? = some x' := by rw [arr_get e1]; rfl
  rcases onSl_ok (v := x) e3 with ⟨ex, e4⟩ | ⟨b, f, n, cc, q, ex, e4⟩
  · obtain ⟨e5, e6⟩ := okv_ok e4
    subst ex; cases e2
    refine postV e6.symm (v' := .int .i64 0) ?_ (by rw [← e5]; exact .i ..)
    simp [Builtin.cap_, ht, g0, run_underlying (show P.underlying t = some (.slice e) from hu), goInt]
  · obtain ⟨cs, n', hcs, e5⟩ := St.row_ok e4
    obtain ⟨hq, e6⟩ := cond_no e5
    obtain ⟨e7, e8⟩ := okv_ok e6
    subst ex
    cases e2 with | sl hb hcap hlen ha =>
    rename_i B d X a c'
    obtain ⟨Cs, ee, fz, _, _, h0, _⟩ := hR.row hb hcs
    have hX : cond q X 0 = 0 := by
      cases q with
      | false => rfl
      | true =>
        have : n' = 0 := by
          simp only [Bool.true_and] at hq
          rcases Nat.eq_zero_or_pos n' with z | z
          · exact z
          · have : Nat.blt 0 n' = true := by simpa [Nat.blt_eq] using z
            rw [this] at hq; cases hq
        exact h0 this
    rw [hX] at hcap
    refine postV e8.symm (v' := .int .i64 cc) ?_ (by rw [← e7]; exact .i ..)
    simp [Builtin.cap_, ht, g0, run_underlying (show P.underlying t = some (.slice e) from hu), goInt, hcap]
omit hE hR in
theorem RelO.mapObj (hR : RelO CR ι σ w) {r : Pos} {es : List (V × V × Nat)} {n : Nat} (hm : σ.at r = .map es n) {B d X : Nat} (hr : ι r = some (B, d, X)) : ∃ Em, w.heap[B]? = some (.map Em n) ∧ ER ι es Em.toList := by
  obtain ⟨O, h1, h2⟩ := hR r B d X hr (by rw [hm]; rfl)
  rw [hm] at h2
  cases h2 with | map h => exact ⟨_, h1, h⟩
omit hE hR in
theorem onMap_ok {ob : Obj} {k : List (V × V × Nat) → Nat → R} {s : St} (h : ob.onMap .no k = .ok v s) : ∃ es n, ob = .map es n ∧ k es n = .ok v s := by
  cases ob <;> first | exact ⟨_, _, rfl, h⟩ | cases h
omit hE hR in
theorem onIter_ok {ob : Obj} {k : Option Pos → Nat → List Nat → Nat → R} {s : St} (h : ob.onIter .no k = .ok v s) : ∃ m a l n, ob = .iter m a l n ∧ k m a l n = .ok v s := by
  cases ob <;> first | exact ⟨_, _, _, _, rfl, h⟩ | cases h
omit hE hR in
theorem ER.length {es : List (V × V × Nat)} {l : List MapEntry} (h : ER ι es l) : es.length = l.length := by
  induction h with
  | nil => rfl
  | cons _ _ _ _ ih => simp [ih]
omit hR in
theorem e_lenM (hR : RelO CR ι σ w) {t a e : TypeId} {c : Go.Call} (hc : c.callee = .builtin .len) (ho : o.op = .call c) (ht : c.argTypes[0]? = some t) (hk : (E t).k = .map a e) {xs : List Opd}
    (h : oBi .lenM xs call tm σ = .ok v σ') (hx : VL ι (evs tm xs) (c.args.map ρ).toList) : Upon P (Stl ι w σ σ' v) ((execOp ρ o).run P w) := by
  rw [run_builtin hc ho]
  obtain ⟨x, x', r, e1, e2, e3⟩ := args1_ok (show args1 (evs tm xs) _ = _ from h) hx
  have hu := (hE t (by rw [hk]; rfl)).und
  rw [hk] at hu
  have g0 : (c.args.map ρ)[0]? = some x' := by rw [arr_get e1]; rfl
  rcases onM_ok (v := x) e3 with ⟨ex, e4⟩ | ⟨b, ex, e4⟩
  · obtain ⟨e5, e6⟩ := okv_ok e4
    subst ex; cases e2
    refine postV e6.symm (v' := .int .i64 0) ?_ (by rw [← e5]; exact .i ..)
    simp [Builtin.len_, ht, g0, run_underlying (show P.underlying t = some (.map a e) from hu), goInt]
  · obtain ⟨es, n, hm, e5⟩ := onMap_ok e4
    obtain ⟨e6, e7⟩ := okv_ok e5
    subst ex
    cases e2 with | m hb =>
    obtain ⟨Em, m1, m2⟩ := RelO.mapObj hR hm hb
    have hl := m2.length
    simp only [Array.length_toList] at hl
    refine postV e7.symm (v' := .int .i64 es.length) ?_ (by rw [← e6, len_eq]; exact .i ..)
    simp [Builtin.len_, ht, g0, run_underlying (show P.underlying t = some (.map a e) from hu), goInt, getObj, Sem.run, m1, hl]
theorem e_clearMap {t a e : TypeId} {c : Go.Call} (hc : c.callee = .builtin .clear) (ho : o.op = .call c) (ht : c.argTypes[0]? = some t) (hk : (E t).k = .map a e) {xs : List Opd}
    (h : oBi .clearMap xs call tm σ = .ok v σ') (hx : VL ι (evs tm xs) (c.args.map ρ).toList) : Upon P (Post CR ι w σ' v) ((execOp ρ o).run P w) := by
  rw [run_builtin hc ho]
  obtain ⟨x, x', r, e1, e2, e3⟩ := args1_ok (show args1 (evs tm xs) _ = _ from h) hx
  have hu := (hE t (by rw [hk]; rfl)).und
  rw [hk] at hu
  have g0 : (c.args.map ρ)[0]? = some x' := by rw [arr_get e1]; rfl
  rcases onM_ok (v := x) e3 with ⟨ex, e4⟩ | ⟨b, ex, e4⟩
  · cases e4
  · obtain ⟨es, n, hm, e5⟩ := onMap_ok e4
    cases e5
    subst ex
    cases e2 with | m hb =>
    obtain ⟨Em, m1, m2⟩ := RelO.mapObj hR.toO hm hb
    obtain ⟨r1, r2⟩ := hR.put hb (by rw [hm]; rfl) (fun cs e => by rw [hm] at e; cases e) (ob := .map [] n) (O := .map #[] n) (.map .nil)
    refine upV (v' := undef) (w' := Wput w _ (.map #[] n)) ?_ ⟨_, r2, r1, .un _⟩
    simp [Builtin.clear_, ht, g0, run_underlying (show P.underlying t = some (.map a e) from hu), getObj, setObj, Sem.run, m1, Wput, undef]
end
end Den

namespace Den
open Go

section
variable {P : Program} {E : Env} (hE : TyOK P E) {CR : CRel} {ι : Inj} {σ σ' : St} {w : World} {v : V} {call : Cl} {tm : T V} {ρ : Operand → Value} {o : Oper} (hR : Rel CR ι σ w)

theorem nmin_eq (a b : Nat) : nmin a b = min a b := by
  unfold nmin
  cases h : Nat.ble a b with
  | true => simp only [Nat.ble_eq] at h; rw [cond_true, Nat.min_eq_left h]
  | false =>
    have : ¬ a ≤ b := by intro x; rw [← Nat.ble_eq] at x; rw [h] at x; cases x
    rw [cond_false, Nat.min_eq_right (by omega)]

include hR in
/-- the first elements of a slice, as the model reads them. -/
theorem run_first {b : Pos} {f n c : Nat} {q : Bool} {x' : Value} (hx : VR ι (.sl b f n c q) x') {cs : List V} {t : Nat} (hc : σ.at b = .cells cs t) {m esz : Nat} (hm : m ≤ n) {xs : List V} (hs : sub cs f (m * esz) = .ok xs) :
    ∃ xs' : List Value, CL ι xs xs' ∧ ∀ w' : World, w'.heap = w.heap → (Builtin.firstCells esz m x').run P w' = .ok xs'.toArray w' := by
  cases hx with
  | sl hb hcap hlen ha =>
    by_cases h0 : m = 0
    · subst h0
      obtain ⟨e1, e2⟩ := sub_ok hs
      have : xs = [] := by apply List.eq_nil_of_length_eq_zero; rw [e2]; simp
      subst this
      exact ⟨[], .nil, fun w' _ => by simp [Builtin.firstCells, loadCells, loadCellsFrom]⟩
    · have ha' := ha.resolve_left (by omega)
      subst ha'
      obtain ⟨xs', g1, g2⟩ := hR.cells (P := P) hb hc hs
      exact ⟨xs', g1, fun w' hw => by simp [Builtin.firstCells, g2 w' hw]⟩

include hE hR
theorem e_copy {t e : TypeId} {c : Go.Call} (hc : c.callee = .builtin .copy) (ho : o.op = .call c) (ht : c.argTypes[0]? = some t) (hk : (E t).k = .slice e) (he : (E e).k.isBad = false) {xs : List Opd}
    (h : oBi (.copy (E e).size) xs call tm σ = .ok v σ') (hx : VL ι (evs tm xs) (c.args.map ρ).toList) : Upon P (Post CR ι w σ' v) ((execOp ρ o).run P w) := by
  rw [run_builtin hc ho]
  obtain ⟨d, d', s, s', r, e1, hd, hs, e3⟩ := args2_ok (show args2 (evs tm xs) _ = _ from h) hx
  have hu := (hE t (by rw [hk]; rfl)).und
  rw [hk] at hu
  have g0 : (c.args.map ρ)[0]? = some d' := by rw [arr_get e1]; rfl
  have g1 : (c.args.map ρ)[1]? = some s' := by rw [arr_get e1]; rfl
  have hu' : P.underlying t = some (.slice e) := hu
  rcases onSl_ok (v := d) e3 with ⟨ex, e4⟩ | ⟨db, df, dn, dc, dq, ex, e4⟩
  · subst ex; cases hd
    have key : ∃ n b cc, s' = .slice b n cc ∧ σ' = σ ∧ v = nat64 0 := by
      rcases onSl_ok (v := s) e4 with ⟨ey, e5⟩ | ⟨sb, sf, sn, sc, sq, ey, e5⟩
      · obtain ⟨e6, e7⟩ := okv_ok e5
        subst ey; cases hs; exact ⟨_, _, _, rfl, e7.symm, e6.symm⟩
      · obtain ⟨e6, e7⟩ := okv_ok e5
        subst ey; cases hs; exact ⟨_, _, _, rfl, e7.symm, e6.symm⟩
    obtain ⟨n, b, cc, k1, k2, k3⟩ := key
    refine upS (CR := CR) (hR := hR) <| postV k2 (v' := .int .i64 0) ?_ (by rw [k3]; exact .i ..)
    have hmin : Nat.min n 0 = 0 := Nat.min_zero n
    subst k1
    cases b <;> simp [Builtin.copy_, ht, g0, g1, run_underlying hu', Builtin.lenOf, hE.size w he, hmin, Builtin.firstCells, loadCells, loadCellsFrom, goInt]
  · subst ex
    rcases onSl_ok (v := s) e4 with ⟨ey, e5⟩ | ⟨sb, sf, sn, sc, sq, ey, e5⟩
    · obtain ⟨e6, e7⟩ := okv_ok e5
      subst ey; cases hs; cases hd
      refine upS (CR := CR) (hR := hR) <| postV e7.symm (v' := .int .i64 0) ?_ (by rw [← e6]; exact .i ..)
      have hmin : Nat.min 0 dn = 0 := Nat.zero_min dn
      simp [Builtin.copy_, ht, g0, g1, run_underlying hu', Builtin.lenOf, hE.size w he, hmin, Builtin.firstCells, goInt, storeCells]
    · subst ey
      obtain ⟨scs, st, hsc, e6⟩ := St.row_ok e5
      obtain ⟨ys, hy, e7⟩ := ol_ok e6
      obtain ⟨dcs, dt, hdc, e8⟩ := St.row_ok e7
      obtain ⟨hro, e8⟩ := wr_ok e8
      obtain ⟨cs', hcs, e9⟩ := ol_ok e8
      cases e9
      rw [nmin_eq] at hy
      obtain ⟨ys', y1, y2'⟩ := run_first (P := P) hR hs hsc (m := min sn dn) (esz := (E e).size) (Nat.min_le_left ..) hy
      have y2 := y2' w rfl
      have hlen : (Builtin.lenOf s').run P w = .ok sn w := by cases hs; simp [Builtin.lenOf]
      cases hd with | sl hdb hdcap hdlen hda =>
      rename_i B d X a cc
      by_cases h0 : min sn dn = 0
      · -- nothing is copied
        have hys : ys' = [] := by
          obtain ⟨_, l1⟩ := sub_ok hy
          rw [h0] at l1
          have := y1.length
          apply List.eq_nil_of_length_eq_zero; simp at l1; rw [← this, l1]; rfl
        subst hys
        have hyz : ys = [] := by cases y1; rfl
        subst hyz
        have hput : σ.put db (.cells cs' dt) = σ.put db (.cells cs' dt) := rfl
        obtain ⟨w', q1, q2, q3⟩ := hR.store (P := P) hdb hdc hcs hro CL.nil
        simp only [storeCells, Sem.run_pure] at q1
        cases q1
        refine upV (v' := .int .i64 (min sn dn : Nat)) (w' := w) ?_ ⟨_, q3, q2, by rw [nmin_eq]; exact .i ..⟩
        simp [Builtin.copy_, ht, g0, g1, run_underlying hu', hlen, hE.size w he, y2, goInt, storeCells, show Nat.min sn dn = min sn dn from rfl]
      · have ha' := hda.resolve_left (by omega)
        subst ha'
        obtain ⟨w', q1, q2, q3⟩ := hR.store (P := P) hdb hdc hcs hro y1
        refine upV (v' := .int .i64 (min sn dn : Nat)) (w' := w') ?_ ⟨_, q3, q2, by rw [nmin_eq]; exact .i ..⟩
        simp [Builtin.copy_, ht, g0, g1, run_underlying hu', hlen, hE.size w he, y2, goInt, q1, show Nat.min sn dn = min sn dn from rfl]
theorem e_clearSl {t e : TypeId} {c : Go.Call} (hc : c.callee = .builtin .clear) (ho : o.op = .call c) (ht : c.argTypes[0]? = some t) (hk : (E t).k = .slice e) (he : (E e).k.isBad = false) {xs : List Opd}
    (h : oBi (.clearSl (E e).z) xs call tm σ = .ok v σ') (hx : VL ι (evs tm xs) (c.args.map ρ).toList) : Upon P (Post CR ι w σ' v) ((execOp ρ o).run P w) := by
  rw [run_builtin hc ho]
  obtain ⟨x, x', r, e1, e2, e3⟩ := args1_ok (show args1 (evs tm xs) _ = _ from h) hx
  have hu := (hE t (by rw [hk]; rfl)).und
  rw [hk] at hu
  have hu' : P.underlying t = some (.slice e) := hu
  have g0 : (c.args.map ρ)[0]? = some x' := by rw [arr_get e1]; rfl
  rcases onSl_ok (v := x) e3 with ⟨ex, e4⟩ | ⟨b, f, n, cc, q, ex, e4⟩
  · obtain ⟨e5, e6⟩ := okv_ok e4
    subst ex; cases e2
    refine upS (CR := CR) (hR := hR) <| postV e6.symm (v' := undef) ?_ (by rw [← e5]; exact .un _)
    simp [Builtin.clear_, ht, g0, run_underlying hu', undef]
  · obtain ⟨cs, t', hcs, e5⟩ := St.row_ok e4
    obtain ⟨hro, e5⟩ := wr_ok e5
    obtain ⟨cs', hs, e6⟩ := ol_ok e5
    cases e6
    subst ex
    cases e2 with | sl hb hcap hlen ha =>
    rename_i B d X a ca
    obtain ⟨z, z1, z2, _⟩ := hE.zero w he
    by_cases h0 : n = 0
    · subst h0
      obtain ⟨w', q1, q2, q3⟩ := hR.store (P := P) hb hcs hs hro (xs' := []) .nil
      simp only [storeCells, Sem.run_pure] at q1
      cases q1
      refine upV (v' := undef) (w' := w) ?_ ⟨_, q3, q2, .un _⟩
      simp [Builtin.clear_, ht, g0, run_underlying hu', undef]
    · have ha' := ha.resolve_left (by omega)
      subst ha'
      obtain ⟨w', q1, q2, q3⟩ := hR.store (P := P) hb hcs hs hro ((z2 ι).rep n)
      refine upV (v' := undef) (w' := w') ?_ ⟨_, q3, q2, .un _⟩
      have hz : (Builtin.zeroCells z.cells n).toList = ((Array.range (n * z.cells.size)).map fun i => z.cells[i % z.cells.size]!).toList := rfl
      obtain ⟨m, rfl⟩ : ∃ m, n = m + 1 := ⟨n - 1, by omega⟩
      simp only [Builtin.clear_, ht, g0, Sem.run_bind, run_underlying hu', Result.andThen_ok, z1, hz, q1, Sem.run_pure, undef]
end
end Den

namespace Den
open Go

theorem growBy_le (n : Nat) : ∀ r c, c ≤ n → Builtin.growBy n r c ≤ 2 * n + 1000
  | 0, c, h => by simp [Builtin.growBy]; omega
  | r + 1, c, h => by
    simp only [Builtin.growBy]
    split
    · omega
    · by_cases g : c + (c + 768) / 4 ≤ n
      · exact growBy_le n r _ g
      · -- beyond: the next round ends
        cases r with
        | zero => simp only [Builtin.growBy]; omega
        | succ r => simp only [Builtin.growBy]; rw [if_pos (by omega)]; omega
theorem next_le {n old : Nat} (h : old < n) : Builtin.nextslicecap n old ≤ 2 * n + 1000 := by
  unfold Builtin.nextslicecap
  split
  · omega
  · split
    · omega
    · exact growBy_le n 4 old (by omega)

section
variable {P : Program} {E : Env} (hE : TyOK P E) {CR : CRel} {ι : Inj} {σ σ' : St} {w : World} {v : V} {call : Cl} {tm : T V} {ρ : Operand → Value} {o : Oper} (hR : Rel CR ι σ w)

/-- the appended cells, as the model has them. -/
def appended (size n : Nat) (zeros : Bool) (z : Value) (x : Value) : Sem (Array Value) :=
  if !zeros then Builtin.firstCells size n x else if n * size = 0 then pure #[] else pure (Builtin.zeroCells z.cells n)

include hE in
theorem run_append_fit {at_ : Array TypeId} {ty t e u : TypeId} {args : Array Value} (h0 : at_[0]? = some t) (h1 : at_[1]? = some u) (hu : P.underlying t = some (.slice e)) (he : (E e).k.isBad = false)
    {base : Option Addr} {sLen sCap n : Nat} {x' : Value} (g0 : args[0]? = some (.slice base sLen sCap)) (g1 : args[1]? = some x') {zm : Bool}
    (hz : (zm = false ∧ (∃ f, P.underlying u = some (.slice f)) ∧ (Builtin.lenOf x').run P w = .ok n w) ∨ (zm = true ∧ P.underlying u = some (.int .i64) ∧ (∃ q, x' = .int q n) ∧ n ≤ 1099511627776 ∧ n * (E e).bytes ≤ 281474976710656))
    {news : List Value} (hn : (zm = false ∧ (Builtin.firstCells (E e).size n x').run P w = .ok news.toArray w) ∨ (zm = true ∧ ∃ z, (zeroValue e).run P w = .ok z w ∧ news = (Builtin.zeroCells z.cells n).toList ∧ (n * (E e).size = 0 → news = [])))
    (hfit : sLen + n ≤ sCap) {w' : World} (hst : match base with | some a => (storeCells (a.add (sLen * (E e).size)) news).run P w = .ok () w' | none => w' = w) :
    (Builtin.append_ at_ ty args).run P w = .ok (.slice base (sLen + n) sCap) w' := by
  obtain ⟨inf, i1, i2, i3⟩ := hE.tinfo w he
  rcases hz with ⟨z1, ⟨f, z2⟩, z3⟩ | ⟨z1, z2, ⟨q, z3⟩, z4, z5⟩
  · subst z1
    rcases hn with ⟨_, hn⟩ | ⟨hn, _⟩
    · cases base with
      | none => rw [hst]; simp [Builtin.append_, h0, h1, g0, g1, run_underlying hu, run_underlying z2, hE.size w he, z3, hfit, hn]
      | some a => simp [Builtin.append_, h0, h1, g0, g1, run_underlying hu, run_underlying z2, hE.size w he, z3, hfit, hn, hst]
    · cases hn
  · subst z1 z3
    rcases hn with ⟨hn, _⟩ | ⟨_, z, hz1, hz2, hz3⟩
    · cases hn
    · have w1 : IntKind.i64.wrap (n : Int) = n := wrap_small n (by omega)
      have c1 : ¬ ((n : Int) < 0) := by omega
      have c2 : ¬ (281474976710656 < (n : Int) * ((E e).bytes : Int)) := by rw [← Int.natCast_mul]; omega
      by_cases hs : n * (E e).size = 0
      · have := hz3 hs
        subst this
        cases base with
        | none => rw [hst]; simp [Builtin.append_, h0, h1, g0, g1, run_underlying hu, run_underlying z2, hE.size w he, asInt, asIntOf, w1, c1, i1, i2, c2, hfit, hs]
        | some a =>
          simp only [storeCells, Sem.run_pure] at hst
          cases hst
          simp [Builtin.append_, h0, h1, g0, g1, run_underlying hu, run_underlying z2, hE.size w he, asInt, asIntOf, w1, c1, i1, i2, c2, hfit, hs, storeCells]
      · cases base with
        | none => rw [hst]; simp [Builtin.append_, h0, h1, g0, g1, run_underlying hu, run_underlying z2, hE.size w he, asInt, asIntOf, w1, c1, i1, i2, c2, hfit, hs, hz1]
        | some a =>
          rw [hz2] at hst
          simp [Builtin.append_, h0, h1, g0, g1, run_underlying hu, run_underlying z2, hE.size w he, asInt, asIntOf, w1, c1, i1, i2, c2, hfit, hs, hz1, hst]
include hE in
theorem run_append_grow {at_ : Array TypeId} {ty t e u : TypeId} {args : Array Value} (h0 : at_[0]? = some t) (h1 : at_[1]? = some u) (hu : P.underlying t = some (.slice e)) (he : (E e).k.isBad = false)
    {base : Option Addr} {sLen sCap n : Nat} {x' : Value} (g0 : args[0]? = some (.slice base sLen sCap)) (g1 : args[1]? = some x') {zm : Bool}
    (hz : (zm = false ∧ (∃ f, P.underlying u = some (.slice f)) ∧ (Builtin.lenOf x').run P w = .ok n w) ∨ (zm = true ∧ P.underlying u = some (.int .i64) ∧ (∃ q, x' = .int q n) ∧ n ≤ 1099511627776 ∧ n * (E e).bytes ≤ 281474976710656))
    {news : List Value}
    (hfc : ∀ w' : World, w'.heap = w.heap → (zm = false ∧ (Builtin.firstCells (E e).size n x').run P w' = .ok news.toArray w') ∨ (zm = true ∧ ∃ z, (zeroValue e).run P w' = .ok z w' ∧ news = (Builtin.zeroCells z.cells n).toList ∧ (n * (E e).size = 0 → news = [])))
    {olds : List Value} (hold : ∀ w' : World, w'.heap = w.heap → (Builtin.firstCells (E e).size sLen (.slice base sLen sCap)).run P w' = .ok olds.toArray w')
    (hfit : sCap < sLen + n) (hb1 : sLen + n ≤ 1099511627776) (hb2 : (2 * (sLen + n) + 1000) * (E e).bytes ≤ 281474976710656) :
    ∃ cap z w', sLen + n ≤ cap ∧ (∀ w : World, (zeroValue e).run P w = .ok z w) ∧ z.cells.size = (E e).size ∧ w'.heap = w.heap ∧ w'.os = w.os ∧ w'.output = w.output ∧
      (Builtin.append_ at_ ty args).run P w = .ok (.slice (some ⟨w.heap.size, 0, none⟩) (sLen + n) cap) (Wadd w' (.cells (olds.toArray ++ news.toArray ++ Builtin.zeroCells z.cells (cap - (sLen + n))) e)) := by
  obtain ⟨inf, i1, i2, i3⟩ := hE.tinfo w he
  have i1' : ∀ w : World, (typeInfo e).run P w = .ok inf w := by
    obtain ⟨f, z, k1, _⟩ := (hE e he).info
    have := run_tinfo k1 w
    rw [i1] at this; cases this
    exact fun w => run_tinfo k1 w
  obtain ⟨f, z, k1, k2, k3, k4, k5, k6, _⟩ := (hE e he).info
  have hzv : ∀ w : World, (zeroValue e).run P w = .ok z w := fun w => by simp [zeroValue, run_tinfo k1, k4]
  have hzs : z.cells.size = (E e).size := by have := (k5 (fun _ => none)).length; simp at this; omega
  have hnot : ¬ (sLen + n ≤ sCap) := by omega
  have c3 : ¬ (IntKind.i64.max < ((sLen + n : Nat) : Int)) := by simp [IntKind.max, IntKind.signed, IntKind.bits]; omega
  have c4 : ¬ (281474976710656 < Builtin.nextslicecap (sLen + n) sCap * (E e).bytes) := by
    have h1 := Nat.mul_le_mul_right (E e).bytes (next_le hfit)
    omega
  obtain ⟨cap, hcd⟩ : ∃ cap, (Question.appendCap (sLen + n) sCap e).cut (w.tape w.drawn (Question.appendCap (sLen + n) sCap e)) = cap := ⟨_, rfl⟩
  have hcap : sLen + n ≤ cap := by rw [← hcd]; simp only [Question.cut]; omega
  have hfo : (Question.appendCap (sLen + n) sCap e).forced = false := rfl
  have c5 : ¬ (9223372036854775807 < (sLen : Int) + (n : Int)) := by omega
  refine ⟨cap, z, w.drew, hcap, hzv, hzs, rfl, rfl, rfl, ?_⟩
  have ho := hold w.drew rfl
  have hap : olds.toArray ++ (news.toArray ++ Builtin.zeroCells z.cells (cap - (sLen + n))) = (olds ++ news).toArray ++ Builtin.zeroCells z.cells (cap - (sLen + n)) := by
    apply Array.toList_inj.1; simp
  have hnr : ∀ arr, (newRow e arr).run P w.drew = .ok ⟨w.heap.size, 0, none⟩ (Wadd w.drew (.cells arr e)) := fun arr => run_newRow e arr
  rcases hz with ⟨z1, ⟨f, z2⟩, z3⟩ | ⟨z1, z2, ⟨q, z3⟩, z4, z5⟩
  · subst z1
    rcases hfc w.drew rfl with ⟨_, hn⟩ | ⟨hn, _⟩
    · simp only [Builtin.append_, h0, h1, g0, g1, Sem.run_bind, run_underlying hu, run_underlying z2, hE.size w he, Result.andThen_ok, Sem.run_pure]
      simp [z3, hnot, i1', i2, c5, c4, hcd, hfo, run_askRoom, ho, hn, hzv, hnr]
      rw [hap]
    · cases hn
  · subst z1 z3
    rcases hfc w.drew rfl with ⟨hn, _⟩ | ⟨_, z', hz1, hz2, hz3⟩
    · cases hn
    · rw [hzv w.drew] at hz1
      cases hz1
      have w1' : IntKind.i64.wrap (n : Int) = n := wrap_small n (by omega)
      have c1 : ¬ ((n : Int) < 0) := by omega
      have c2 : ¬ (281474976710656 < (n : Int) * ((E e).bytes : Int)) := by rw [← Int.natCast_mul]; omega
      simp only [Builtin.append_, h0, h1, g0, g1, Sem.run_bind, run_underlying hu, run_underlying z2, hE.size w he, Result.andThen_ok, Sem.run_pure]
      by_cases hs : n * (E e).size = 0
      · have := hz3 hs
        subst this
        simp [asInt, asIntOf, w1', c1, hnot, i1', i2, c2, c5, c4, hcd, hfo, run_askRoom, ho, hzv, hnr, hs]
      · have hz2' : Builtin.zeroCells z.cells n = news.toArray := by rw [hz2]
        simp [asInt, asIntOf, w1', c1, hnot, i1', i2, c2, c5, c4, hcd, hfo, run_askRoom, ho, hzv, hnr, hs, hz2']
        rw [hap]
end
end Den

namespace Den
open Go

section
variable {P : Program} {E : Env} (hE : TyOK P E) {CR : CRel} {ι : Inj} {σ σ' : St} {w : World} {v : V} {call : Cl} {tm : T V} {ρ : Operand → Value} {o : Oper} (hR : Rel CR ι σ w)

theorem source_ok {esz bytes : Nat} {z : List V} {zm : Bool} {x : V} {k : List V → Nat → R} {s : St} (h : source esz bytes z zm x σ k = .ok v s) :
    ∃ xs n, k xs n = .ok v s ∧ ((zm = true ∧ (∃ q, x = .i q (Int.ofNat n)) ∧ n ≤ 1099511627776 ∧ n * bytes ≤ 281474976710656 ∧ xs = rep z n) ∨
      (zm = false ∧ ((x = .s0 ∧ xs = [] ∧ n = 0) ∨ ∃ b o c q cs t, x = .sl b o n c q ∧ σ.at b = .cells cs t ∧ sub cs o (n * esz) = .ok xs))) := by
  unfold source at h
  cases zm with
  | true =>
    obtain ⟨q, n, ex, h1⟩ := onN_ok (v := x) h
    obtain ⟨h2, h3⟩ := cond_ok h1
    simp only [Bool.and_eq_true, Nat.ble_eq] at h2
    exact ⟨_, _, h3, .inl ⟨rfl, ⟨q, ex⟩, h2.1, h2.2, rfl⟩⟩
  | false =>
    rcases onSl_ok (v := x) h with ⟨ex, h1⟩ | ⟨b, f, n, c, q, ex, h1⟩
    · exact ⟨_, _, h1, .inr ⟨rfl, .inl ⟨ex, rfl, rfl⟩⟩⟩
    · obtain ⟨cs, t, hc, h2⟩ := St.row_ok h1
      obtain ⟨xs, hs, h3⟩ := ol_ok h2
      exact ⟨_, _, h3, .inr ⟨rfl, .inr ⟨b, f, c, q, cs, t, ex, hc, hs⟩⟩⟩
theorem fresh_ok {esz bytes n : Nat} {cs : List V} {s : St} (h : fresh esz bytes σ cs n = .ok v s) : n ≤ 1099511627776 ∧ (2 * n + 1000) * bytes ≤ 281474976710656 ∧ v = .sl σ.nx 0 n n true ∧ s = σ.add (.cells cs esz) := by
  unfold fresh at h
  obtain ⟨h1, h2⟩ := cond_ok h
  simp only [Bool.and_eq_true, Nat.ble_eq] at h1
  rw [St.new_eq] at h2
  cases h2
  exact ⟨h1.1, h1.2, rfl, rfl⟩
theorem ones_all {l : List V} (h : ones l = true) : ∀ x ∈ l, x.one = true := by
  induction l with
  | nil => simp
  | cons y l ih =>
    change and y.one (ones l) = true at h
    simp only [Bool.and_eq_true] at h
    intro x hx
    rcases List.mem_cons.1 hx with e | e
    · subst e; exact h.1
    · exact ih h.2 x e
include hE in
/-- a grown slice. -/
theorem post_grown {esz : Nat} (hz : esz ≠ 0) {cs : List V} {cells : List Value} (hR : Rel CR ι σ w) (hc : CL ι cs cells) {n cap : Nat} (hn : cells.length = n * esz) (hcap : n ≤ cap) {Z : Array Value} (hZ : Z.size = (cap - n) * esz) {w' : World} (hw : w'.heap = w.heap) (ho : w'.os = w.os) (hu : w'.output = w.output) {arr : Array Value} (harr : arr = cells.toArray ++ Z) (e : TypeId) :
    Post CR ι w (σ.add (.cells cs esz)) (.sl σ.nx 0 n n true) (.slice (some ⟨w.heap.size, 0, none⟩) n cap) (Wadd w' (.cells arr e)) := by
  have hR' := hR.world hw
  have hsz : w'.heap.size = w.heap.size := by rw [hw]
  obtain ⟨r1, r2⟩ := hR'.row_new hc (arr := arr) (fun k v hv => by
    subst harr
    have hlt : k < cells.length := by
      rcases Nat.lt_or_ge k cells.length with x | x
      · exact x
      · rw [List.getElem?_eq_none x] at hv; cases hv
    rw [Array.getElem?_append_left (by simpa using hlt)]; simpa using hv) (X := cap - n) (t := esz) (by subst harr; simp [hZ]) (fun h => absurd h hz) e
  rw [hsz] at r1 r2
  refine ⟨_, (Step.world hw ho hu).trans r2, r1, .sl (d := 0) (upd_self ..) (by simp; omega) (Nat.le_refl _) (.inr rfl)⟩

include hE hR
theorem e_append {t e u : TypeId} {c : Go.Call} (hc : c.callee = .builtin .append) (ho : o.op = .call c) (ht : c.argTypes[0]? = some t) (hk : (E t).k = .slice e) (he : (E e).k.isBad = false) (h1 : c.argTypes[1]? = some u) {z : List V} {zm : Bool}
    (hu : (zm = true ∧ (E u).k = .int .i64 ∧ z = (E e).z) ∨ (zm = false ∧ ∃ f, (E u).k = .slice f)) {xs : List Opd}
    (h : oBi (.append (E e).size (E e).bytes z zm) xs call tm σ = .ok v σ') (hx : VL ι (evs tm xs) (c.args.map ρ).toList) : Upon P (Post CR ι w σ' v) ((execOp ρ o).run P w) := by
  rw [run_builtin hc ho]
  change cond (Nat.beq (E e).size 0) R.no (args2 (evs tm xs) _) = _ at h
  obtain ⟨hz0, hA⟩ := cond_no h
  have hesz : (E e).size ≠ 0 := by intro x; rw [x] at hz0; cases hz0
  obtain ⟨s, s', x, x', r, e1, hs, hx', e3⟩ := args2_ok hA hx
  have hut := (hE t (by rw [hk]; rfl)).und
  rw [hk] at hut
  have hut' : P.underlying t = some (.slice e) := hut
  have g0 : (c.args.map ρ)[0]? = some s' := by rw [arr_get e1]; rfl
  have g1 : (c.args.map ρ)[1]? = some x' := by rw [arr_get e1]; rfl
  obtain ⟨ys, n, e4, hsrc⟩ := source_ok e3
  obtain ⟨zv, zz1, zz2, _⟩ := hE.zero w he
  -- the source
  have hsrc' : ∃ news : List Value, CL ι ys news ∧ news.length = n * (E e).size ∧
      ((zm = false ∧ (∃ f, P.underlying u = some (.slice f)) ∧ (Builtin.lenOf x').run P w = .ok n w) ∨ (zm = true ∧ P.underlying u = some (.int .i64) ∧ (∃ q, x' = .int q n) ∧ n ≤ 1099511627776 ∧ n * (E e).bytes ≤ 281474976710656)) ∧
      (∀ w' : World, w'.heap = w.heap → (zm = false ∧ (Builtin.firstCells (E e).size n x').run P w' = .ok news.toArray w') ∨ (zm = true ∧ ∃ z, (zeroValue e).run P w' = .ok z w' ∧ news = (Builtin.zeroCells z.cells n).toList ∧ (n * (E e).size = 0 → news = []))) := by
    rcases hsrc with ⟨m1, ⟨q, m2⟩, m3, m4, m5⟩ | ⟨m1, m2⟩
    · rcases hu with ⟨u1, u2, u3⟩ | ⟨u1, _⟩
      · have huu := (hE u (by rw [u2]; rfl)).und
        rw [u2] at huu
        obtain ⟨f, z', k1, k2, k3, k4, k5, k6, _⟩ := (hE e he).info
        have hzs : z'.cells.size = (E e).size := by have := (k5 ι).length; simp at this; omega
        subst m5 u3
        refine ⟨(Builtin.zeroCells z'.cells n).toList, (k5 ι).rep n, by simp [Builtin.zeroCells, hzs], .inr ⟨m1, huu, ⟨q, natOf hx' m2⟩, m3, m4⟩, fun w' _ => .inr ⟨m1, z', by simp [zeroValue, run_tinfo k1, k4], rfl, fun h0 => by rw [← hzs] at h0; simp [Builtin.zeroCells, h0]⟩⟩
      · rw [m1] at u1; cases u1
    · rcases hu with ⟨u1, _⟩ | ⟨u1, f, u2⟩
      · rw [m1] at u1; cases u1
      · have huu := (hE u (by rw [u2]; rfl)).und
        rw [u2] at huu
        rcases m2 with ⟨a1, a2, a3⟩ | ⟨b, ff, cc, q, cs, tt, a1, a2, a3⟩
        · subst a1 a2 a3
          cases hx'
          exact ⟨[], .nil, by simp, .inl ⟨m1, ⟨f, huu⟩, by simp [Builtin.lenOf]⟩, fun w' _ => .inl ⟨m1, by simp [Builtin.firstCells]⟩⟩
        · subst a1
          obtain ⟨news, q1, q2⟩ := run_first (P := P) hR hx' a2 (Nat.le_refl n) a3
          have hl : news.length = n * (E e).size := by rw [← q1.length]; exact (sub_ok a3).2
          exact ⟨news, q1, hl, .inl ⟨m1, ⟨f, huu⟩, by cases hx'; simp [Builtin.lenOf]⟩, fun w' hw => .inl ⟨m1, q2 w' hw⟩⟩
  obtain ⟨news, n1, n2, n3, n4⟩ := hsrc'
  have hbu : ∀ (args : Array Value) (cc : Array Bool), (Go.builtin .append c.argTypes o.type cc args).run P w = (do Pure.pure (Next.value (← Builtin.append_ c.argTypes o.type args)) : Sem Next).run P w := fun _ _ => rfl
  rw [hbu]
  rcases onSl_ok (v := s) e4 with ⟨ex, e5⟩ | ⟨b, f, len, cap, opn, ex, e5⟩
  · -- onto nil
    subst ex
    cases hs
    cases hn : Nat.beq n 0 with
    | true =>
      rw [hn] at e5
      obtain ⟨e6, e7⟩ := okv_ok (show okv σ .s0 = _ from e5)
      have hn0 : n = 0 := Nat.eq_of_beq_eq_true hn
      subst hn0
      refine upV (v' := .slice none 0 0) (w' := w) (run_append_fit (P := P) hE ht h1 hut' he g0 g1 n3 (n4 w rfl) (Nat.le_refl _) rfl) ?_
      rw [← e6, ← e7]; exact Post.pure hR .s0
    | false =>
      rw [hn] at e5
      obtain ⟨f1, f2, f3, f4⟩ := fresh_ok (show fresh (E e).size (E e).bytes σ ys n = _ from e5)
      have hn0 : 0 < n := by rcases Nat.eq_zero_or_pos n with x | x; (subst x; cases hn); exact x
      obtain ⟨k, zz, w', q1, q2, q3, q4, q5, q6, q7⟩ := run_append_grow (P := P) hE ht h1 hut' he g0 g1 n3 n4 (olds := []) (fun w' _ => by simp [Builtin.firstCells]) (by omega) (by omega) (by simpa using f2)
      simp only [Nat.zero_add] at q1 q7
      rw [f3, f4]
      exact upV q7 (post_grown hE hesz hR n1 n2 q1 (Z := Builtin.zeroCells zz.cells (k - n)) (by simp [Builtin.zeroCells, q3]) q4 q5 q6 (by simp) e)
  · obtain ⟨cs, tt, hcs, e6⟩ := St.row_ok e5
    subst ex
    unfold appOn at e6
    cases hs with | sl hb hcap hlen ha =>
    rename_i B d X a ca
    cases hfit : Nat.ble (Nat.add len n) cap with
    | true =>
      rw [hfit] at e6
      obtain ⟨hro, e6⟩ := wr_ok (show wr tt ((setsAt cs (Nat.add f (Nat.mul len (E e).size)) ys).bnd R.no (fun cs => R.ok (.sl b f (Nat.add len n) cap opn) (σ.put b (.cells cs tt)))) = _ from e6)
      obtain ⟨cs', hs', e7⟩ := ol_ok e6
      cases e7
      have hfit' : len + n ≤ cap := by simpa using hfit
      obtain ⟨w', q1, q2, q3⟩ := hR.store (P := P) hb hcs hs' hro n1
      have hst : (storeCells (a.add (len * (E e).size)) news).run P w = .ok () w' := by
        rcases ha with ha | ha
        · have hn0 : n = 0 := by omega
          have : news = [] := by apply List.eq_nil_of_length_eq_zero; rw [n2, hn0]; simp
          subst this
          simp only [storeCells, Sem.run_pure] at q1 ⊢
          exact q1
        · subst ha
          rw [add_opt]; exact q1
      exact upV (run_append_fit (P := P) hE ht h1 hut' he g0 g1 n3 (n4 w rfl) (by omega) hst) ⟨_, q3, q2, .sl hb hcap hfit' (by rcases ha with ha | ha; exact .inl ha; exact .inr ha)⟩
    | false =>
      rw [hfit] at e6
      have hfit' : ¬ (len + n ≤ cap) := by intro x; rw [← Nat.ble_eq] at x; rw [show Nat.ble (len + n) cap = Nat.ble (Nat.add len n) cap from rfl, hfit] at x; cases x
      obtain ⟨old, ho', e7⟩ := ol_ok (show (sub cs f (Nat.mul len (E e).size)).bnd R.no _ = _ from e6)
      obtain ⟨olds, o1, o2⟩ := run_first (P := P) hR (VR.sl hb hcap hlen ha) hcs (Nat.le_refl len) ho'
      have hol : olds.length = len * (E e).size := by rw [← o1.length]; exact (sub_ok ho').2
      rw [lappend_eq] at e7
      have hall : CL ι (old ++ ys) (olds ++ news) := o1.append n1
      have hlen2 : (olds ++ news).length = (len + n) * (E e).size := by rw [List.length_append, hol, n2, Nat.add_mul]
      obtain ⟨Cs, ee, fz, r1, r2, r3, r4, r5⟩ := hR.row hb hcs
      -- a new row, made by the model
      have grow : ∀ {σ₁ : St}, Rel CR ι σ₁ w → ca < len + n → len + n ≤ 1099511627776 → (2 * (len + n) + 1000) * (E e).bytes ≤ 281474976710656 →
          Upon P (Post CR ι w (σ₁.add (.cells (old ++ ys) (E e).size)) (.sl σ₁.nx 0 (len + n) (len + n) true)) ((do Pure.pure (Next.value (← Builtin.append_ c.argTypes o.type (c.args.map ρ))) : Sem Next).run P w) := by
        intro σ₁ hR₁ hlt hb1 hb2
        obtain ⟨k, zz, w', q1, q2, q3, q4, q5, q6, q7⟩ := run_append_grow (P := P) hE ht h1 hut' he g0 g1 n3 n4 (olds := olds) o2 hlt hb1 hb2
        exact upV q7 (post_grown hE hesz hR₁ hall hlen2 q1 (Z := Builtin.zeroCells zz.cells (k - (len + n))) (by simp [Builtin.zeroCells, q3]) q4 q5 q6 (by simp) e)
      cases htl : and opn (Nat.blt 0 tt) with
      | false =>
        rw [htl] at e7
        obtain ⟨f1, f2, f3, f4⟩ := fresh_ok (show fresh (E e).size (E e).bytes σ (old ++ ys) (Nat.add len n) = _ from e7)
        have hX : cond opn X 0 = 0 := by
          cases opn with
          | false => rfl
          | true =>
            have : tt = 0 := by
              rcases Nat.eq_zero_or_pos tt with z | z
              · exact z
              · have : Nat.blt 0 tt = true := by simpa [Nat.blt_eq] using z
                rw [this] at htl; cases htl
            exact r3 this
        rw [f3, f4]
        exact grow hR (by omega) f1 f2
      | true =>
        rw [htl] at e7
        obtain ⟨hro, e7⟩ := wr_ok (show wr tt _ = _ from e7)
        obtain ⟨hcc, e8⟩ := cond_ok (show cond (and (ones ys) (and (Nat.beq tt (E e).size) (and (Nat.beq cap len) (Nat.beq (Nat.add f (Nat.mul len (E e).size)) (Den.len cs))))) (fresh (E e).size (E e).bytes (σ.put b .dead) (old ++ ys) (Nat.add len n)) R.no = _ from e7)
        simp only [Bool.and_eq_true, Nat.beq_eq, len_eq] at hcc htl
        obtain ⟨hone', c1, c2, c3⟩ := hcc
        have hone := ones_all hone'
        obtain ⟨f1, f2, f3, f4⟩ := fresh_ok e8
        rw [St.nx_put] at f3
        have hop : opn = true := htl.1
        subst hop c1 c2
        simp only [cond_true] at hcap
        have hkill := hR.kill b (hR.dom _ _ hb)
        by_cases hroom : cap + n ≤ ca
        · -- in place, beyond what was known
          have ha' := ha.resolve_left (by omega)
          subst ha'
          have hn : n ≤ X := by omega
          have c3' : f + cap * (E e).size = cs.length := c3
          have hXn : X * (E e).size = n * (E e).size + (X - n) * (E e).size := by rw [← Nat.add_mul]; congr 1; omega
          have hbound : d + (f + cap * (E e).size) + news.length ≤ Cs.size := by rw [n2, c3']; omega
          let Cs' := ovr Cs (d + (f + cap * (E e).size)) news
          have hrun : (storeCells ((⟨B, d + f, none⟩ : Addr).add (cap * (E e).size)) news).run P w = .ok () (Wput w B (.cells Cs' ee fz)) := by
            rw [add_opt]
            simpa using run_storeCells (P := P) (s := d + (f + cap * (E e).size)) news 0 w Cs r1 (by omega) (r5 hro) (n1.ones hone)
          have hfitrun := run_append_fit (P := P) (ty := o.type) hE ht h1 hut' he g0 g1 n3 (n4 w rfl) hroom (w' := Wput w B (.cells Cs' ee fz)) hrun
          refine upV hfitrun ?_
          have hBl := hR.lt _ _ _ _ hb
          have hws : (Wput w B (.cells Cs' ee fz)).heap.size = w.heap.size := by simp [Wput]
          have hz : CR.snap B = none := Classical.byContradiction fun x => by
            obtain ⟨cs', hcs'⟩ := hR.ro b B d X hb x (by rw [hcs]; rfl)
            rw [hcs] at hcs'
            simp only [Obj.cells.injEq] at hcs'
            rw [hcs'.2] at hro; exact absurd hro (Nat.lt_irrefl _)
          have hnew := hkill.addAt (B := B) (d := d + f) (X := X - n) (ob := .cells (old ++ ys) (E e).size) (O := .cells Cs' ee fz) (w' := Wput w B (.cells Cs' ee fz)) (by rw [Wput_get, if_pos ⟨rfl, hBl⟩]) (by omega)
            (fun q B' d' X' hq hd => by
              have hne : B' ≠ B := by
                rintro rfl
                rw [St.at_put] at hd
                by_cases hqb : q = b
                · rw [if_pos hqb] at hd; cases hd
                · rw [if_neg hqb] at hd
                  exact hqb (hR.inj q b _ _ _ _ _ hq hb hd (by rw [hcs]; rfl) hz)
              exact ⟨hne, by rw [Wput_get, if_neg (fun x => hne x.1)]⟩)
            hz (fun B0 h0 => by rw [Wput_get, if_neg (fun x => by obtain ⟨rfl, _⟩ := x; exact h0 hz)])
            (by
              refine .cells (fun k v hv => ?_) (fun x => absurd x hesz) ?_ (by rw [ovr_size]; exact r5)
              · rw [ovr_get _ _ _ _ hbound]
                have hlo : old.length = cap * (E e).size := (sub_ok ho').2
                by_cases hk' : k < old.length
                · rw [List.getElem?_append_left hk', sub_get ho' k (show k < cap * (E e).size by rw [← hlo]; exact hk')] at hv
                  obtain ⟨v', v1, v2⟩ := r2 (f + k) v hv
                  exact ⟨v', by rw [if_neg (by omega), show d + f + k = d + (f + k) from by omega]; exact v1, v2.mono (Inj.upd_le hkill.fresh)⟩
                · rw [List.getElem?_append_right (by omega)] at hv
                  obtain ⟨v', v1, v2⟩ := n1.get hv
                  have hkl : k - old.length < news.length := by
                    rcases Nat.lt_or_ge (k - old.length) news.length with x | x
                    · exact x
                    · rw [List.getElem?_eq_none x] at v1; cases v1
                  exact ⟨v', by rw [if_pos (by omega), show d + f + k - (d + (f + cap * (E e).size)) = k - old.length from by omega]; exact v1, v2.mono (Inj.upd_le hkill.fresh)⟩
              · rw [ovr_size, hall.length, hlen2, Nat.add_mul]; omega)
          rw [St.nx_put] at hnew
          refine ⟨_, ⟨Inj.upd_le (by have := hkill.fresh; rw [St.nx_put] at this; exact this), fun q B' d' X' hq => ?_, by omega, fun B' hB' hn' => ?_, rfl, rfl⟩, by rw [f4]; exact hnew, ?_⟩
          · simp only [Inj.upd] at hq
            by_cases hqn : q = σ.nx
            · rw [if_pos hqn] at hq; cases hq; exact .inl ⟨b, d, X, hb⟩
            · rw [if_neg hqn] at hq; exact .inl ⟨q, d', X', hq⟩
          · rw [Wput_get, if_neg (fun x => by obtain ⟨rfl, _⟩ := x; exact hn' b d X hb)]
          · rw [f3]
            exact .sl (upd_self ..) (by simp; omega) (Nat.le_refl _) (.inr rfl)
        · rw [f3, f4]
          have := grow hkill (by omega) f1 f2
          rw [St.nx_put] at this
          exact this
end
end Den

namespace Den
open Go

/-- what the atomic adding does. -/
def XOK (P : Program) (f : FuncId) : Prop := ∀ (a : Addr) (m n : Int) (w : World), w.cell? a = some (.int .i64 m) → w.frozen? a = false →
  (callFunc f #[.pointer (some a), .int .i64 n]).run P w = .ok (.value (.int .i64 (IntKind.i64.wrap (m + n)))) (w.setCell a (.int .i64 (IntKind.i64.wrap (m + n))))

section
variable {P : Program} {E : Env} (hE : TyOK P E) {CR : CRel} {ι : Inj} {σ σ' : St} {w : World} {v : V} {call : Cl} {tm : T V} {ρ : Operand → Value} {o : Oper} (hR : Rel CR ι σ w)

theorem resolve_value {c : Go.Call} {f : Operand} (hc : c.callee = .value f) (t : TypeId) {fn : Fn} {first cap : Array Value} (hf : ρ f = .func fn first cap) :
    (resolve ρ c t).run P w = .ok { target := .fn fn cap, args := first ++ c.args.map ρ } w := by
  simp [resolve, hc, Deferred.ofValue, hf]

include hR in
theorem e_xadd {f : FuncId} (hX : XOK P f) {c : Go.Call} (hc : c.callee = .value (.func f)) (ho : o.op = .call c) (hf : VR ι (.f (pos f) .nl .nl) (ρ (.func f))) {A B : Operand} (ha : c.args.toList = [A, B]) {a b : Opd}
    (h : oXadd a b call tm σ = .ok v σ') (hva : VR ι (ev tm a) (ρ A)) (hvb : VR ι (ev tm b) (ρ B)) : Upon P (Post CR ι w σ' v) ((execOp ρ o).run P w) := by
  have hfv : ρ (.func f) = .func (.func f) #[] #[] := by
    generalize ρ (.func f) = y at hf
    cases hf with | f e1 e2 e3 =>
    rename_i F Fs Cs
    cases hFs : Fs.toList with
    | cons _ _ => rw [hFs] at e2; cases e2
    | nil => cases hCs : Cs.toList with
      | cons _ _ => rw [hCs] at e3; cases e3
      | nil =>
        rw [num_pos] at e1
        rw [← e1, Array.toList_eq_nil_iff.1 hFs, Array.toList_eq_nil_iff.1 hCs]
  have hargs : c.args.map ρ = #[ρ A, ρ B] := by
    apply Array.toList_inj.1; simp [ha]
  have hexec : (execOp ρ o).run P w = (callFunc f #[ρ A, ρ B]).run P w := by
    simp only [execOp, ho, Sem.run_bind, resolve_value (P := P) (w := w) hc o.type hfv, Result.andThen_ok, invoke, hargs]
    simp
  rw [hexec]
  obtain ⟨bb, oo, ea, h1⟩ := onP_ok (v := ev tm a) h
  obtain ⟨cs, t, hcs, h2⟩ := St.row_ok h1
  obtain ⟨hro, h2⟩ := wr_ok h2
  obtain ⟨z, hz, h3⟩ := getAt_ok h2
  obtain ⟨k, m, ez, h4⟩ := onI_ok (v := z) h3
  obtain ⟨k', n, eb, h5⟩ := onI_ok (v := ev tm b) h4
  obtain ⟨h6, h7⟩ := cond_ok h5
  obtain ⟨cs', hs, h8⟩ := ol_ok h7
  cases h8
  simp only [Bool.and_eq_true] at h6
  have hk : k = .i64 := kb_eq (k' := .i64) h6.1
  have hk' : k' = .i64 := kb_eq (k' := .i64) h6.2
  subst hk hk' ez
  rw [ea] at hva
  rw [eb] at hvb
  generalize ρ A = A' at hva ⊢
  generalize ρ B = B' at hvb ⊢
  cases hvb
  cases hva with | p hb =>
  rename_i Bk d X
  obtain ⟨z', c1, c2⟩ := hR.cell hb hcs hz
  cases c2
  obtain ⟨Cs, ee, fz, q1, q2, q3, q4, q5⟩ := hR.row hb hcs
  have hlt : d + oo < Cs.size := by
    rw [cell_of q1] at c1
    rcases Nat.lt_or_ge (d + oo) Cs.size with x | x
    · exact x
    · rw [Array.getElem?_eq_none x] at c1; cases c1
  have hfr : w.frozen? ⟨Bk, d + oo, none⟩ = false := by
    simp only [World.frozen?, q1]
    have := q5 hro (d + oo) hlt
    simp only [Bool.and_eq_false_iff, decide_eq_false_iff_not]
    by_cases x : fz.1 ≤ d + oo
    · exact .inr (fun y => this ⟨x, y⟩)
    · exact .inl x
  rw [hX _ m n w c1 hfr]
  obtain ⟨w', s1, s2, s3⟩ := hR.store (P := P) hb hcs hs hro (xs' := [.int .i64 (IntKind.i64.wrap (m + n))]) (by rw [wrapF_eq]; exact .cons (.i ..) .nil)
  have hw : w' = w.setCell ⟨Bk, d + oo, none⟩ (.int .i64 (IntKind.i64.wrap (m + n))) := by
    have : (storeCells ⟨Bk, d + oo, none⟩ [.int .i64 (IntKind.i64.wrap (m + n))]).run P w = .ok () (w.setCell ⟨Bk, d + oo, none⟩ (.int .i64 (IntKind.i64.wrap (m + n)))) := by
      simp [storeCells, addr_add, Go.store, Sem.run, c1, hfr]
    rw [this] at s1
    cases s1; rfl
  subst hw
  exact ⟨_, s3, s2, by rw [wrapF_eq]; exact .i ..⟩

/-! maps -/
theorem find_ok {k : V} {k' : Value} {es : List (V × V × Nat)} {l : List MapEntry} (hk : VR ι k k') (h : ER ι es l) {kd : IntKind} : ∀ i, findE k es ≠ .no →
    (findE k es = .nf ∧ Instr.findNow (.int kd) k' l i = some none) ∨ ∃ v v' j, findE k es = .ok v ∧ VR ι v v' ∧ Instr.findNow (.int kd) k' l i = some (some (j, v')) := by
  induction h with
  | nil => intro i _; exact .inl ⟨rfl, rfl⟩
  | cons a b c _ ih =>
    rename_i k1 v1 n1 e r es' _
    intro i hne
    change B3.rec (motive := fun _ => OE) .no (.ok v1) (findE k r) (eqV k k1) ≠ .no at hne
    cases he : eqV k k1 with
    | no => rw [he] at hne; exact absurd rfl hne
    | t =>
      obtain ⟨q, x, y, g1, g2, g3⟩ := eqV_ok hk a (r := true) he
      refine .inr ⟨v1, e.val, i, ?_, b, ?_⟩
      · show B3.rec (motive := fun _ => OE) .no (.ok v1) (findE k r) (eqV k k1) = _; rw [he]
      · have : x = y := by simpa using g3.symm
        simp [Instr.findNow, g1, g2, Instr.sameNow, this]
    | f =>
      rw [he] at hne
      obtain ⟨q, x, y, g1, g2, g3⟩ := eqV_ok hk a (r := false) he
      have hxy : (x == y) = false := g3.symm
      have hh : findE k ((k1, v1, n1) :: r) = findE k r := by
        show B3.rec (motive := fun _ => OE) .no (.ok v1) (findE k r) (eqV k k1) = _; rw [he]
      have hn : Instr.findNow (.int kd) k' (e :: es') i = Instr.findNow (.int kd) k' es' (i + 1) := by
        simp [Instr.findNow, g1, g2, Instr.sameNow, hxy]
      rw [hh, hn]
      exact ih (i + 1) hne
theorem checkKey_int {t : TypeId} {kd : IntKind} (hu : P.underlying t = some (.int kd)) (b : Bool) (n : Nat) (k : Value) (w : World) : (Instr.checkKey b (n + 1) t k).run P w = .ok () w := by
  simp only [Instr.checkKey, Sem.run_bind, run_underlying hu, Result.andThen_ok]
  cases k <;> simp
include hE hR in
theorem e_lookup (hR : RelO CR ι σ w) {t key e : TypeId} {X K : Operand} {okf : Bool} (ho : o.op = .lookup t X K okf) (hk : (E t).k = .map key e) (hki : (E key).k.isInt = true) (he : (E e).k.isBad = false) {z : V} (hz : ∀ ι, ∃ z', (zeroValue e).run P w = .ok z' w ∧ VR ι z z')
    {x k : Opd} (h : oLookup z okf x k call tm σ = .ok v σ') (hx : VR ι (ev tm x) (ρ X)) (hkv : VR ι (ev tm k) (ρ K)) : Upon P (Stl ι w σ σ' v) ((execOp ρ o).run P w) := by
  simp only [execOp, ho]
  have hu := (hE t (by rw [hk]; rfl)).und
  rw [hk] at hu
  have hu' : P.underlying t = some (.map key e) := hu
  obtain ⟨kd, hkd⟩ : ∃ q, (E key).k = .int q := by cases hkk : (E key).k <;> rw [hkk] at hki <;> first | (cases hki; done) | exact ⟨_, rfl⟩
  have huk := (hE key (by rw [hkd]; rfl)).und
  rw [hkd] at huk
  have huk' : P.underlying key = some (.int kd) := huk
  obtain ⟨z', z1, z2⟩ := hz ι
  have hmain : ∃ (es : List (V × V × Nat)) (Em : Array MapEntry), ER ι es Em.toList ∧ findE (ev tm k) es ≠ .no ∧ OE.rec (motive := fun _ => R) .no (okv σ (cond okf (.tu (.co z (.co (.b false) .nl))) z)) (fun v => okv σ (cond okf (.tu (.co v (.co (.b true) .nl))) v)) (findE (ev tm k) es) = .ok v σ' ∧
      ((ρ X = .map none ∧ Em = #[]) ∨ ∃ B c, ρ X = .map (some B) ∧ w.heap[B]? = some (.map Em c)) := by
    unfold oLookup at h
    generalize hxx : ev tm x = y at h hx
    cases y with
    | m0 =>
      generalize ρ X = x' at hx ⊢
      cases hx
      exact ⟨[], #[], .nil, (by intro hh; cases hh), h, .inl ⟨rfl, rfl⟩⟩
    | m r =>
      change OE.rec (motive := fun _ => R) _ _ _ ((σ.at r).onMap .no (fun es _ => findE (ev tm k) es)) = _ at h
      cases hm : σ.at r with
      | map es n =>
        rw [hm] at h
        change OE.rec (motive := fun _ => R) _ _ _ (findE (ev tm k) es) = _ at h
        generalize ρ X = x' at hx ⊢
        cases hx with | m hb =>
        obtain ⟨Em, m1, m2⟩ := RelO.mapObj hR hm hb
        exact ⟨es, Em, m2, (by intro hh; rw [hh] at h; cases h), h, .inr ⟨_, _, rfl, m1⟩⟩
      | _ => rw [hm] at h; cases h
    | _ => cases h
  obtain ⟨es, Em, hER, hne, hres, hX⟩ := hmain
  have hfk : ∀ r, Instr.findNow (.int kd) (ρ K) Em.toList 0 = some r → (Instr.findKey key (ρ K) Em.toList).run P w = .ok r w := by
    intro r hr
    simp [Instr.findKey, run_underlying huk', hr]
  have hck : ∀ b, (Instr.checkKey b 10000 key (ρ K)).run P w = .ok () w := fun b => checkKey_int huk' b 9999 _ w
  have hend : ∀ (r : Option (Nat × Value)) (v' : Value) , (Instr.findKey key (ρ K) Em.toList).run P w = .ok r w →
      v' = (match r with | some (_, u) => (if okf then .tuple #[u, .bool true] else u) | none => (if okf then .tuple #[z', .bool false] else z')) →
      (Instr.lookup t (ρ X) (ρ K) okf).run P w = .ok v' w := by
    intro r v' hr hv'
    rcases hX with ⟨x1, x2⟩ | ⟨B, c, x1, x2⟩
    · subst x2
      simp only [Instr.lookup, Sem.run_bind, run_underlying hu', Result.andThen_ok, x1, Sem.run_pure, hck, hr]
      cases r with
      | none => simp [z1, hv']
      | some p => simp [hv']
    · simp only [Instr.lookup, Sem.run_bind, run_underlying hu', Result.andThen_ok, x1, getObj, Sem.run, x2, Sem.run_pure, hck, hr]
      cases r with
      | none => simp [z1, hv']
      | some p => simp [hv']
  rcases find_ok hkv hER (kd := kd) 0 hne with ⟨f1, f2⟩ | ⟨u, u', j, f1, f2, f3⟩
  · rw [f1] at hres
    obtain ⟨e1, e2⟩ := okv_ok (show okv σ _ = _ from hres)
    refine postV e2.symm (hend none _ (hfk _ f2) rfl) ?_
    rw [← e1]
    cases okf
    · exact z2
    · exact .tu (.co z2 (.co (.b _) .nl))
  · rw [f1] at hres
    obtain ⟨e1, e2⟩ := okv_ok (show okv σ _ = _ from hres)
    refine postV e2.symm (hend (some (j, u')) _ (hfk _ f3) rfl) ?_
    rw [← e1]
    cases okf
    · exact f2
    · exact .tu (.co f2 (.co (.b _) .nl))
end
end Den

namespace Den
open Go

section
variable {P : Program} {E : Env} (hE : TyOK P E) {CR : CRel} {ι : Inj} {σ σ' : St} {w : World} {v : V} {call : Cl} {tm : T V} {ρ : Operand → Value} {o : Oper} (hR : Rel CR ι σ w)

theorem upd_ok {k x : V} {k' x' : Value} {c : Nat} {es : List (V × V × Nat)} {l : List MapEntry} (hk : VR ι k k') (hx : VR ι x x') (h : ER ι es l) {kd : IntKind} : ∀ i {es' : List (V × V × Nat)} {nw : Bool}, updE k x c es = .ok es' nw →
    (nw = true ∧ Instr.findNow (.int kd) k' l i = some none ∧ ER ι es' (l ++ [{ key := k', val := x', born := c }])) ∨
    (nw = false ∧ ∃ j u e, Instr.findNow (.int kd) k' l i = some (some (i + j, u)) ∧ l[j]? = some e ∧ Instr.sameBits 10000 e.key k' = true ∧ ER ι es' (l.modify j fun e => { e with key := k', val := x' })) := by
  induction h with
  | nil =>
    intro i es' nw e
    cases e
    exact .inl ⟨rfl, rfl, .cons hk hx rfl .nil⟩
  | cons a b cc hr ih =>
    rename_i k1 v1 n1 e r es1
    intro i es' nw he
    change B3.rec (motive := fun _ => OU) .no (.ok ((k, x, n1) :: r) false) (OU.rec (motive := fun _ => OU) .no (fun es nw => .ok ((k1, v1, n1) :: es) nw) (updE k x c r)) (eqV k k1) = _ at he
    cases hq : eqV k k1 with
    | no => rw [hq] at he; cases he
    | t =>
      rw [hq] at he
      cases he
      obtain ⟨q, p1, p2, g1, g2, g3⟩ := eqV_ok hk a (r := true) hq
      have hp : p1 = p2 := by simpa using g3.symm
      refine .inr ⟨rfl, 0, e.val, e, ?_, rfl, ?_, ?_⟩
      · simp [Instr.findNow, g1, g2, Instr.sameNow, hp]
      · rw [g1, g2, hp]; show ((q == q) && (p2 == p2)) = true; simp
      · exact .cons hk hx cc hr
    | f =>
      rw [hq] at he
      obtain ⟨q, p1, p2, g1, g2, g3⟩ := eqV_ok hk a (r := false) hq
      have hxy : (p1 == p2) = false := g3.symm
      have hn : ∀ i, Instr.findNow (.int kd) k' (e :: es1) i = Instr.findNow (.int kd) k' es1 (i + 1) := by
        intro i; simp [Instr.findNow, g1, g2, Instr.sameNow, hxy]
      cases hu : updE k x c r with
      | no => rw [hu] at he; cases he
      | ok es2 nw2 =>
        rw [hu] at he
        cases he
        rcases ih (i + 1) hu with ⟨m1, m2, m3⟩ | ⟨m1, j, u, e2, m2, m3, m4, m5⟩
        · exact .inl ⟨m1, by rw [hn]; exact m2, .cons a b cc m3⟩
        · refine .inr ⟨m1, j + 1, u, e2, ?_, m3, m4, .cons a b cc m5⟩
          rw [hn, m2]; congr 3; omega
include hE hR in
theorem e_mapUp {t key e : TypeId} {M K X : Operand} (ho : o.op = .mapUpdate t M K X) (hk : (E t).k = .map key e) (hki : (E key).k.isInt = true) {m k x : Opd} (h : oMapUp m k x call tm σ = .ok v σ') (hm : VR ι (ev tm m) (ρ M)) (hkv : VR ι (ev tm k) (ρ K)) (hxv : VR ι (ev tm x) (ρ X)) :
    Upon P (Post CR ι w σ' v) ((execOp ρ o).run P w) := by
  simp only [execOp, ho]
  have hu := (hE t (by rw [hk]; rfl)).und
  rw [hk] at hu
  have hu' : P.underlying t = some (.map key e) := hu
  obtain ⟨kd, hkd⟩ : ∃ q, (E key).k = .int q := by cases hkk : (E key).k <;> rw [hkk] at hki <;> first | (cases hki; done) | exact ⟨_, rfl⟩
  have huk := (hE key (by rw [hkd]; rfl)).und
  rw [hkd] at huk
  have huk' : P.underlying key = some (.int kd) := huk
  rcases onM_ok (v := ev tm m) h with ⟨_, e4⟩ | ⟨r, em, e4⟩
  · cases e4
  · obtain ⟨es, n, hmo, e5⟩ := onMap_ok e4
    rw [em] at hm
    generalize ρ M = M' at hm ⊢
    cases hm with | m hb =>
    rename_i B d X0
    obtain ⟨Em, m1, m2⟩ := RelO.mapObj hR.toO hmo hb
    have hck : (Instr.checkKey false 10000 key (ρ K)).run P w = .ok () w := checkKey_int huk' false 9999 _ w
    cases hup : updE (ev tm k) (ev tm x) n es with
    | no => rw [hup] at e5; cases e5
    | ok es' nw =>
      rw [hup] at e5
      cases e5
      rcases upd_ok hkv hxv m2 (kd := kd) 0 hup with ⟨q1, q2, q3⟩ | ⟨q1, j, u, e', q2, q3, q4, q5⟩
      · subst q1
        obtain ⟨r1, r2⟩ := hR.put hb (by rw [hmo]; rfl) (fun cs e => by rw [hmo] at e; cases e) (ob := .map es' (n + 1)) (O := .map (Em.push { key := ρ K, val := ρ X, born := n }) (n + 1)) (.map (by simpa using q3))
        refine upU (w' := Wput w B (.map (Em.push { key := ρ K, val := ρ X, born := n }) (n + 1))) ?_ ⟨_, r2, r1, .un _⟩
        have hfk : (Instr.findKey key (ρ K) Em.toList).run P w = .ok none w := by simp [Instr.findKey, run_underlying huk', q2]
        simp only [Instr.mapUpdate, Sem.run_bind, run_underlying hu', Result.andThen_ok, getObj, Sem.run, m1, Sem.run_pure, hck, hfk]
        simp [setObj, Sem.run, m1, Wput]
      · subst q1
        simp only [Nat.zero_add] at q2
        obtain ⟨r1, r2⟩ := hR.put hb (by rw [hmo]; rfl) (fun cs e => by rw [hmo] at e; cases e) (ob := .map es' n) (O := .map (Em.modify j fun e => { e with key := ρ K, val := ρ X }) n) (.map (by simpa using q5))
        refine upU (w' := Wput w B (.map (Em.modify j fun e => { e with key := ρ K, val := ρ X }) n)) ?_ ⟨_, r2, r1, .un _⟩
        have hfk : (Instr.findKey key (ρ K) Em.toList).run P w = .ok (some (j, u)) w := by simp [Instr.findKey, run_underlying huk', q2]
        have hej : Em[j]? = some e' := by simpa using q3
        have hst : (Instr.keyThatStays e'.key (ρ K)).run P w = .ok (ρ K) w := by simp [Instr.keyThatStays, q4]
        simp only [Instr.mapUpdate, Sem.run_bind, run_underlying hu', Result.andThen_ok, getObj, Sem.run, m1, Sem.run_pure, hck, hfk]
        simp [hej, hst, setObj, Sem.run, m1, Wput]
include hE hR in
theorem e_range {t key e : TypeId} {X : Operand} (ho : o.op = .range t X) (hk : (E t).k = .map key e) {x : Opd} (h : oRange x call tm σ = .ok v σ') (hx : VR ι (ev tm x) (ρ X)) : Upon P (Post CR ι w σ' v) ((execOp ρ o).run P w) := by
  simp only [execOp, ho]
  have hu := (hE t (by rw [hk]; rfl)).und
  rw [hk] at hu
  have hu' : P.underlying t = some (.map key e) := hu
  rcases onM_ok (v := ev tm x) h with ⟨em, e4⟩ | ⟨r, em, e4⟩
  · rw [em] at hx
    generalize ρ X = M' at hx ⊢
    cases hx
    rw [St.new_eq] at e4
    cases e4
    obtain ⟨r1, r2⟩ := hR.add (X := 0) (ob := .iter none 0 [] 0) (O := .mapIter none 0 #[] 0) (.iter0 rfl rfl)
    refine upV (v' := .pointer (some ⟨w.heap.size, 0, none⟩)) (w' := Wadd w (.mapIter none 0 #[] 0)) ?_ ⟨_, r2, r1, .p (d := 0) (upd_self ..)⟩
    simp [Instr.range, run_underlying hu', newObj, Sem.run, Wadd]
  · obtain ⟨es, n, hmo, e5⟩ := onMap_ok e4
    rw [em] at hx
    generalize ρ X = M' at hx ⊢
    cases hx with | m hb =>
    rename_i B d X0
    obtain ⟨Em, m1, m2⟩ := RelO.mapObj hR.toO hmo hb
    rw [St.new_eq] at e5
    cases e5
    obtain ⟨r1, r2⟩ := hR.add (X := 0) (ob := .iter (some r) n [] n) (O := .mapIter (some B) n #[] n) (.iter rfl rfl (Inj.upd_le hR.fresh _ _ hb))
    refine upV (v' := .pointer (some ⟨w.heap.size, 0, none⟩)) (w' := Wadd w (.mapIter (some B) n #[] n)) ?_ ⟨_, r2, r1, .p (d := 0) (upd_self ..)⟩
    simp [Instr.range, run_underlying hu', newObj, Sem.run, getObj, m1, Wadd]
end
end Den

namespace Den
open Go

/-- what an operation does: 'q' looks at temporaries alone, 'ld' reads, 'al' makes one object, 'ef' the rest. -/
inductive Cls | q | ld | al | ef
  deriving DecidableEq
def AOp.cls : AOp → Cls
  | .mv _ | .pick .. | .build .. | .nilc _ | .bin .. | .eqb .. | .eqs .. | .eqn .. | .eqa .. | .not _ | .neg _ | .com _ | .conv .. | .mkf .. | .sliceS .. | .sliceA .. | .fieldA .. | .field .. | .fieldG ..
  | .idxA .. | .idxS .. | .idxV .. | .idxC .. | .ext .. | .s2a .. | .bi .len _ => .q
  | .load _ | .loadA .. | .lookup .. | .bi .cap _ | .bi .lenM _ => .ld
  | .alloc _ | .box .. | .buildS .. | .mkm | .mks .. => .al
  | _ => .ef

/-- what a call of a function value may be taken for. -/
def CallOK (P : Program) (CR : CRel) (call : Cl) : Prop :=
  ∀ {f args : V} {σ σ' : St} {v : V} {ι : Inj} {w : World} {fv : Value} {as : Array Value}, call f args σ = .ok v σ' → Rel CR ι σ w → VR ι f fv → VL ι args as.toList →
    Upon P (Post CR ι w σ' v) ((do let d ← Deferred.ofValue fv as; invoke d.target d.args : Sem Next).run P w)

section
variable {P : Program} {E : Env} (hE : TyOK P E) {CR : CRel} {ι : Inj} {σ σ' : St} {w : World} {v : V} {call : Cl} {tm : T V} {ρ : Operand → Value} {o : Oper}

theorem omap {α β : Type} {x : Option α} {f : α → β} {y : β} (h : x.map f = some y) : ∃ a, x = some a ∧ f a = y := by
  cases x with
  | none => cases h
  | some a => exact ⟨a, rfl, by simpa using h⟩
theorem oo_of {X : Option Operand} {x : Option Opd} (h : cOpdO X = some x) (hx : ∀ Y y, X = some Y → cOpd Y = some y → VR ι (ev tm y) (ρ Y)) : OO ι tm x (X.map ρ) := by
  cases X with
  | none => cases h; trivial
  | some Y =>
    simp only [cOpdO] at h
    cases hy : cOpd Y with
    | none => rw [hy] at h; cases h
    | some y => rw [hy] at h; cases h; exact hx Y y rfl hy
theorem oo_hm {H M : Option Operand} {h m : Option Opd} (hh : cOpdO H = some h) (hm : cOpdO M = some m) (hx : (h.isNone && m.isSome) = false) : h = none → m = none := by
  intro e; subst e
  cases m with
  | none => rfl
  | some _ => cases hx

theorem e_callV (hcall : CallOK P CR call) (hR : Rel CR ι σ w) {c : Go.Call} {F : Operand} (hc : c.callee = .value F) (ho : o.op = .call c) {f : V} (hf : VR ι f (ρ F)) {xs : List Opd} (h : call f (evs tm xs) σ = .ok v σ') (hx : VL ι (evs tm xs) (c.args.map ρ).toList) :
    Upon P (Post CR ι w σ' v) ((execOp ρ o).run P w) := by
  have : execOp ρ o = (do let d ← Deferred.ofValue (ρ F) (c.args.map ρ); invoke d.target d.args : Sem Next) := by
    simp only [execOp, ho, resolve, hc]
  rw [this]
  exact hcall h hR hf hx

abbrev Ev (ι : Inj) (tm : T V) (ρ : Operand → Value) (o : Op) : Prop := ∀ X x, X ∈ o.operands.toList → cOpd X = some x → VR ι (ev tm x) (ρ X)
theorem Ev.args {c : Go.Call} (hev : Ev ι tm ρ (.call c)) {xs : List Opd} (h : cOpds c.args.toList = some xs) : VL ι (evs tm xs) (c.args.map ρ).toList := by
  rw [Array.toList_map]
  refine vls h fun X x hX hx => hev X x ?_ hx
  simp only [Op.operands, Call.operands, Array.toList_append, List.mem_append]
  exact .inr hX

include hE in
theorem op_call (hcall : CallOK P CR call) {xa : FuncId} (hX : XOK P xa) (hR : Rel CR ι σ w) {c : Go.Call} (ho : o.op = .call c) {ao : AOp} (hc : cOp E xa (.call c) = some ao) (hev : Ev ι tm ρ (.call c)) (h : op ao call tm σ = .ok v σ') :
    Upon P (Post CR ι w σ' v) ((execOp ρ o).run P w) := by
  have hca : ∀ X, X ∈ c.args.toList → X ∈ (Op.call c).operands.toList := by
    intro X hX
    simp only [Op.operands, Call.operands, Array.toList_append, List.mem_append]; exact .inr hX
  have hcf : ∀ F, c.callee = .value F → F ∈ (Op.call c).operands.toList := by
    intro F hF
    simp only [Op.operands, Call.operands, Array.toList_append, List.mem_append, hF]; exact .inl (by simp)
  unfold cOp at hc
  simp only at hc
  split at hc
  · -- a function by its name
    rename_i f hcal
    split at hc
    · rename_i hfx
      split at hc
      · rename_i a x hargs
        cases hc
        cases hl : c.args.toList with
        | nil => rw [hl] at hargs; cases hargs
        | cons A r =>
          rw [hl] at hargs
          simp only [cOpds] at hargs
          split at hargs
          · rename_i y ys hy hys
            cases hargs
            cases r with
            | nil => cases hys
            | cons B r' =>
              simp only [cOpds] at hys
              split at hys
              · rename_i y2 ys2 hy2 hys2
                cases hys
                cases r' with
                | cons _ _ => simp only [cOpds] at hys2; split at hys2 <;> cases hys2
                | nil =>
                  subst hfx
                  exact e_xadd (call := call) hR hX hcal ho (hev (.func f) _ (hcf _ hcal) rfl) hl h (hev A a (hca A (by rw [hl]; simp)) hy) (hev B x (hca B (by rw [hl]; simp)) hy2)
              · cases hys
          · cases hargs
      · cases hc
    · obtain ⟨xs, hxs, he⟩ := omap hc
      subst he
      exact e_callV hcall hR hcal ho (hev (.func f) _ (hcf _ hcal) rfl) h (hev.args hxs)
  · rename_i F hne hcal
    split at hc
    · rename_i f xs hF hxs
      cases hc
      exact e_callV hcall hR hcal ho (hev F f (hcf _ hcal) hF) h (hev.args hxs)
    · cases hc
  · rename_i b hcal
    split at hc
    · -- len
      rename_i t ht
      split at hc
      · rename_i n e hk
        split at hc
        · cases hc
        rename_i hsz
        cases hc
        cases h
        rw [run_builtin hcal ho]
        have hu := (hE t (by rw [hk]; rfl)).und
        rw [hk] at hu
        refine upS (postV rfl (v' := .int .i64 n) ?_ (.i ..)) hR
        cases hl : (c.args.map ρ)[0]? with
        | none => rw [Array.getElem?_eq_none_iff] at hl; simp at hl; exact absurd (by rw [hl]; rfl) hsz
        | some x' => simp [Builtin.len_, ht, hl, run_underlying (show P.underlying t = some (.array n e) from hu), goInt]
      · rename_i e hk
        obtain ⟨xs, hxs, he⟩ := omap hc
        subst he
        exact upS (e_len (call := call) hE hcal ho ht hk h (hev.args hxs)) hR
      · rename_i a e hk
        obtain ⟨xs, hxs, he⟩ := omap hc
        subst he
        exact upS (e_lenM (call := call) hE hR.toO hcal ho ht hk h (hev.args hxs)) hR
      · cases hc
    · rename_i t ht
      split at hc
      · rename_i e hk
        obtain ⟨xs, hxs, he⟩ := omap hc
        subst he
        exact upS (e_cap (call := call) hE hR.toO hcal ho ht hk h (hev.args hxs)) hR
      · cases hc
    · rename_i t ht
      split at hc
      · rename_i e u hk hu
        split at hc
        · cases hc
        · rename_i hb
          have hb' : (E e).k.isBad = false := by simpa using hb
          split at hc
          · rename_i hku
            obtain ⟨xs, hxs, he⟩ := omap hc
            subst he
            exact e_append (call := call) hE hR hcal ho ht hk hb' hu (.inl ⟨rfl, hku, rfl⟩) h (hev.args hxs)
          · rename_i f hku
            obtain ⟨xs, hxs, he⟩ := omap hc
            subst he
            exact e_append (call := call) hE hR hcal ho ht hk hb' hu (.inr ⟨rfl, f, hku⟩) h (hev.args hxs)
          · cases hc
      · cases hc
    · rename_i t ht
      split at hc
      · rename_i e hk
        split at hc
        · cases hc
        · rename_i hb
          obtain ⟨xs, hxs, he⟩ := omap hc
          subst he
          exact e_copy (call := call) hE hR hcal ho ht hk (by simpa using hb) h (hev.args hxs)
      · cases hc
    · rename_i t ht
      split at hc
      · rename_i a e hk
        obtain ⟨xs, hxs, he⟩ := omap hc
        subst he
        exact e_clearMap (call := call) hE hR hcal ho ht hk h (hev.args hxs)
      · rename_i e hk
        split at hc
        · cases hc
        · rename_i hb
          obtain ⟨xs, hxs, he⟩ := omap hc
          subst he
          exact e_clearSl (call := call) hE hR hcal ho ht hk (by simpa using hb) h (hev.args hxs)
      · cases hc
    · cases hc
  · cases hc
include hE in
theorem op_call_still {xa : FuncId} {c : Go.Call} (ho : o.op = .call c) {ao : AOp} (hO : ao.cls = .q ∨ (ao.cls = .ld ∧ RelO CR ι σ w)) (hc : cOp E xa (.call c) = some ao) (hev : Ev ι tm ρ (.call c)) (h : op ao call tm σ = .ok v σ') :
    Upon P (Stl ι w σ σ' v) ((execOp ρ o).run P w) := by
  have hca : ∀ X, X ∈ c.args.toList → X ∈ (Op.call c).operands.toList := by
    intro X hX
    simp only [Op.operands, Call.operands, Array.toList_append, List.mem_append]; exact .inr hX
  have hcf : ∀ F, c.callee = .value F → F ∈ (Op.call c).operands.toList := by
    intro F hF
    simp only [Op.operands, Call.operands, Array.toList_append, List.mem_append, hF]; exact .inl (by simp)
  unfold cOp at hc
  simp only at hc
  split at hc
  · -- a function by its name
    rename_i f hcal
    split at hc
    · rename_i hfx
      split at hc
      · rename_i a x hargs
        cases hc
        cases hl : c.args.toList with
        | nil => rw [hl] at hargs; cases hargs
        | cons A r =>
          rw [hl] at hargs
          simp only [cOpds] at hargs
          split at hargs
          · rename_i y ys hy hys
            cases hargs
            cases r with
            | nil => cases hys
            | cons B r' =>
              simp only [cOpds] at hys
              split at hys
              · rename_i y2 ys2 hy2 hys2
                cases hys
                cases r' with
                | cons _ _ => simp only [cOpds] at hys2; split at hys2 <;> cases hys2
                | nil =>
                  exact absurd hO (by rintro (e | ⟨e, _⟩) <;> cases e)
              · cases hys
          · cases hargs
      · cases hc
    · obtain ⟨xs, hxs, he⟩ := omap hc
      subst he
      exact absurd hO (by rintro (e | ⟨e, _⟩) <;> cases e)
  · rename_i F hne hcal
    split at hc
    · rename_i f xs hF hxs
      cases hc
      exact absurd hO (by rintro (e | ⟨e, _⟩) <;> cases e)
    · cases hc
  · rename_i b hcal
    split at hc
    · -- len
      rename_i t ht
      split at hc
      · rename_i n e hk
        split at hc
        · cases hc
        rename_i hsz
        cases hc
        cases h
        rw [run_builtin hcal ho]
        have hu := (hE t (by rw [hk]; rfl)).und
        rw [hk] at hu
        refine postV rfl (v' := .int .i64 n) ?_ (.i ..)
        cases hl : (c.args.map ρ)[0]? with
        | none => rw [Array.getElem?_eq_none_iff] at hl; simp at hl; exact absurd (by rw [hl]; rfl) hsz
        | some x' => simp [Builtin.len_, ht, hl, run_underlying (show P.underlying t = some (.array n e) from hu), goInt]
      · rename_i e hk
        obtain ⟨xs, hxs, he⟩ := omap hc
        subst he
        exact e_len (call := call) hE hcal ho ht hk h (hev.args hxs)
      · rename_i a e hk
        obtain ⟨xs, hxs, he⟩ := omap hc
        subst he
        exact e_lenM (call := call) hE (hO.resolve_left (by intro e; cases e)).2 hcal ho ht hk h (hev.args hxs)
      · cases hc
    · rename_i t ht
      split at hc
      · rename_i e hk
        obtain ⟨xs, hxs, he⟩ := omap hc
        subst he
        exact e_cap (call := call) hE (hO.resolve_left (by intro e; cases e)).2 hcal ho ht hk h (hev.args hxs)
      · cases hc
    · rename_i t ht
      split at hc
      · rename_i e u hk hu
        split at hc
        · cases hc
        · rename_i hb
          have hb' : (E e).k.isBad = false := by simpa using hb
          split at hc
          · rename_i hku
            obtain ⟨xs, hxs, he⟩ := omap hc
            subst he
            exact absurd hO (by rintro (e | ⟨e, _⟩) <;> cases e)
          · rename_i f hku
            obtain ⟨xs, hxs, he⟩ := omap hc
            subst he
            exact absurd hO (by rintro (e | ⟨e, _⟩) <;> cases e)
          · cases hc
      · cases hc
    · rename_i t ht
      split at hc
      · rename_i e hk
        split at hc
        · cases hc
        · rename_i hb
          obtain ⟨xs, hxs, he⟩ := omap hc
          subst he
          exact absurd hO (by rintro (e | ⟨e, _⟩) <;> cases e)
      · cases hc
    · rename_i t ht
      split at hc
      · rename_i a e hk
        obtain ⟨xs, hxs, he⟩ := omap hc
        subst he
        exact absurd hO (by rintro (e | ⟨e, _⟩) <;> cases e)
      · rename_i e hk
        split at hc
        · cases hc
        · rename_i hb
          obtain ⟨xs, hxs, he⟩ := omap hc
          subst he
          exact absurd hO (by rintro (e | ⟨e, _⟩) <;> cases e)
      · cases hc
    · cases hc
  · cases hc
end
end Den

namespace Den
open Go

section
variable {P : Program} {E : Env} (hE : TyOK P E) {CR : CRel} {ι : Inj} {σ σ' : St} {w : World} {v : V} {call : Cl} {tm : T V} {ρ : Operand → Value} {o : Oper}

theorem iff0 {α : Type} {b : Bool} {x : Option α} {y : α} (h : (if b = true then none else x) = some y) : b = false ∧ x = some y := by
  cases b
  · exact ⟨rfl, h⟩
  · cases h
theorem ift {α : Type} {b : Bool} {x : Option α} {y : α} (h : (if b = true then x else none) = some y) : b = true ∧ x = some y := by
  cases b
  · cases h
  · exact ⟨rfl, h⟩

theorem call_cls {xa : FuncId} {c : Go.Call} {ao : AOp} (hc : cOp E xa (.call c) = some ao) : ao.cls ≠ .al := by
  unfold cOp at hc
  simp only at hc
  repeat' split at hc
  all_goals first | (cases hc; done) | (cases hc; intro e; cases e; done) | (obtain ⟨a, _, he⟩ := omap hc; subst he; intro e; cases e)
theorem oth_cls {xa : FuncId} {p : Op} {ao : AOp} (hc : cOp E xa p = some ao) (h1 : ∀ t, p ≠ .alloc t) (h2 : ∀ t x, p ≠ .box t x) (h3 : ∀ t n ps, p ≠ .buildSlice t n ps) (h4 : ∀ t r, p ≠ .makeMap t r) (h5 : ∀ t l c, p ≠ .makeSlice t l c) : ao.cls ≠ .al := by
  cases p with
  | alloc t => exact absurd rfl (h1 t)
  | box t x => exact absurd rfl (h2 t x)
  | buildSlice t n ps => exact absurd rfl (h3 t n ps)
  | makeMap t r => exact absurd rfl (h4 t r)
  | makeSlice t l c => exact absurd rfl (h5 t l c)
  | call c => exact call_cls hc
  | unOp u t x => cases u <;> simp only [cOp] at hc <;> first | (cases hc; done) | (obtain ⟨a, _, he⟩ := omap hc; subst he; intro e; cases e)
  | makeFunc fn a b => cases fn <;> simp only [cOp] at hc <;> (repeat' split at hc) <;> first | (cases hc; done) | (cases hc; intro e; cases e; done)
  | load t a =>
    simp only [cOp] at hc
    obtain ⟨_, h⟩ := iff0 hc
    obtain ⟨x, _, he⟩ := omap h
    subst he
    split <;> (intro e; cases e)
  | field t x f =>
    simp only [cOp] at hc
    repeat' split at hc
    all_goals first | (cases hc; done) | (cases hc; (try split); all_goals (intro e; cases e; done))
  | _ =>
    simp only [cOp] at hc
    repeat' split at hc
    all_goals first | (cases hc; done) | (cases hc; intro e; cases e; done) | (obtain ⟨a, _, he⟩ := omap hc; subst he; intro e; cases e)
theorem ef_cls {xa : FuncId} {p : Op} {ao : AOp} (hc : cOp E xa p = some ao) (h1 : ∀ c, p ≠ .call c) (h2 : ∀ t a x, p ≠ .store t a x) (h3 : ∀ t m k x, p ≠ .mapUpdate t m k x) (h4 : ∀ t x, p ≠ .range t x) : ao.cls ≠ .ef := by
  cases p with
  | call c => exact absurd rfl (h1 c)
  | store t a x => exact absurd rfl (h2 t a x)
  | mapUpdate t m k x => exact absurd rfl (h3 t m k x)
  | range t x => exact absurd rfl (h4 t x)
  | makeMap t r => cases r <;> simp only [cOp] at hc <;> cases hc; intro e; cases e
  | unOp u t x => cases u <;> simp only [cOp] at hc <;> first | (cases hc; done) | (obtain ⟨a, _, he⟩ := omap hc; subst he; intro e; cases e)
  | makeFunc fn a b => cases fn <;> simp only [cOp] at hc <;> (repeat' split at hc) <;> first | (cases hc; done) | (cases hc; intro e; cases e; done)
  | load t a =>
    simp only [cOp] at hc
    obtain ⟨_, h⟩ := iff0 hc
    obtain ⟨x, _, he⟩ := omap h
    subst he
    split <;> (intro e; cases e)
  | field t x f =>
    simp only [cOp] at hc
    repeat' split at hc
    all_goals first | (cases hc; done) | (cases hc; (try split); all_goals (intro e; cases e; done))
  | _ =>
    simp only [cOp] at hc
    repeat' split at hc
    all_goals first | (cases hc; done) | (cases hc; intro e; cases e; done) | (obtain ⟨a, _, he⟩ := omap hc; subst he; intro e; cases e)
include hE in
theorem op_still {xa : FuncId} {ao : AOp} (hO : ao.cls = .q ∨ (ao.cls = .ld ∧ RelO CR ι σ w)) (hc : cOp E xa o.op = some ao) (hev : Ev ι tm ρ o.op) (h : op ao call tm σ = .ok v σ') :
    Upon P (Stl ι w σ σ' v) ((execOp ρ o).run P w) := by
  cases ho : o.op with
  | call c => rw [ho] at hc hev; exact op_call_still hE ho hO hc hev h
  | move x =>
    rw [ho] at hc hev
    obtain ⟨a, ha, he⟩ := omap (show (cOpd x).map AOp.mv = some ao from hc)
    subst he
    exact e_mv (call := call) (.inl ho) h (hev x a (by simp [Op.operands]) ha)
  | assign x =>
    rw [ho] at hc hev
    obtain ⟨a, ha, he⟩ := omap (show (cOpd x).map AOp.mv = some ao from hc)
    subst he
    exact e_mv (call := call) (.inr ho) h (hev x a (by simp [Op.operands]) ha)
  | pick c a b =>
    rw [ho] at hc hev
    simp only [cOp] at hc
    split at hc
    · rename_i p q r h1 h2 h3
      cases hc
      exact e_pick (call := call) ho h (hev c p (by simp [Op.operands]) h1) (hev a q (by simp [Op.operands]) h2) (hev b r (by simp [Op.operands]) h3)
    · cases hc
  | alloc t =>
    rw [ho] at hc
    obtain ⟨hb, h1⟩ := iff0 (show (if (E t).k.isBad = true then none else some (AOp.alloc (E t).z)) = some ao from hc)
    cases h1
    exact absurd hO (by rintro (e | ⟨e, _⟩) <;> cases e)
  | box t x =>
    rw [ho] at hc hev
    obtain ⟨hb, h1⟩ := iff0 (show (if (E t).k.isBad = true then none else (cOpd x).map (.box (E t).size)) = some ao from hc)
    obtain ⟨a, ha, he⟩ := omap h1
    subst he
    exact absurd hO (by rintro (e | ⟨e, _⟩) <;> cases e)
  | build t ps =>
    rw [ho] at hc hev
    have hps : ∀ X x, X ∈ ps.toList.map (·.2) → cOpd X = some x → VR ι (ev tm x) (ρ X) := fun X x hX hx => hev X x (by simpa [Op.operands] using hX) hx
    simp only [cOp] at hc
    split at hc
    · rename_i fs hk
      obtain ⟨hb, h1⟩ := ift hc
      obtain ⟨qs, hq, he⟩ := omap h1
      subst he
      exact e_buildS (call := call) hE ho hk hb hq h hps
    · rename_i n e hk
      obtain ⟨hb, h1⟩ := iff0 hc
      obtain ⟨qs, hq, he⟩ := omap h1
      subst he
      exact e_buildA (call := call) hE ho hk hb hq h hps
    · cases hc
  | buildSlice t n ps =>
    rw [ho] at hc hev
    have hps : ∀ X x, X ∈ ps.toList.map (·.2) → cOpd X = some x → VR ι (ev tm x) (ρ X) := fun X x hX hx => hev X x (by simpa [Op.operands] using hX) hx
    simp only [cOp] at hc
    split at hc
    · rename_i e hk
      obtain ⟨hb, h1⟩ := iff0 hc
      obtain ⟨qs, hq, he⟩ := omap h1
      subst he
      simp only [Bool.or_eq_false_iff, decide_eq_false_iff_not] at hb
      exact absurd hO (by rintro (e | ⟨e, _⟩) <;> cases e)
    · cases hc
  | load t a =>
    rw [ho] at hc hev
    simp only [cOp] at hc
    obtain ⟨hb, h1⟩ := iff0 hc
    obtain ⟨x, hx, he⟩ := omap h1
    cases hg : (E t).k.agg with
    | true =>
      rw [hg] at he; simp at he; subst he
      exact e_loadA (call := call) hE (hO.resolve_left (by intro e; cases e)).2 ho hb hg h (hev a x (by simp [Op.operands]) hx)
    | false =>
      rw [hg] at he; simp at he; subst he
      exact e_load (call := call) hE (hO.resolve_left (by intro e; cases e)).2 ho hb hg h (hev a x (by simp [Op.operands]) hx)
  | store t a x =>
    rw [ho] at hc hev
    simp only [cOp] at hc
    obtain ⟨hb, h1⟩ := iff0 hc
    split at h1
    · rename_i p q g1 g2
      cases h1
      exact absurd hO (by rintro (e | ⟨e, _⟩) <;> cases e)
    · cases h1
  | nilCheck x =>
    rw [ho] at hc hev
    obtain ⟨a, ha, he⟩ := omap (show (cOpd x).map AOp.nilc = some ao from hc)
    subst he
    exact e_nilc (call := call) ho h (hev x a (by simp [Op.operands]) ha)
  | binOp bop t x y u =>
    rw [ho] at hc hev
    simp only [cOp] at hc
    split at hc
    · rename_i a b ha hb
      have hA := hev x a (by simp [Op.operands]) ha
      have hB := hev y b (by simp [Op.operands]) hb
      have hint : ∀ {ao}, (if (E t).k.isInt = true then some (AOp.bin bop a b) else none) = some ao → op ao call tm σ = .ok v σ' → Upon P (Stl ι w σ σ' v) ((execOp ρ o).run P w) := by
        intro ao hi h
        obtain ⟨_, h1⟩ := ift hi
        cases h1
        exact e_bin (call := call) ho h hA hB
      split at hc
      · rename_i fs hk
        obtain ⟨h1, h2⟩ := ift hc
        cases h2
        simp only [Bool.and_eq_true] at h1
        exact e_eqa (call := call) (neg := false) hE ho h hA hB h1.1 (.inl ⟨fs, hk, h1.2, rfl⟩)
      · rename_i fs hk
        obtain ⟨h1, h2⟩ := ift hc
        cases h2
        simp only [Bool.and_eq_true] at h1
        exact e_eqa (call := call) (neg := true) hE ho h hA hB h1.1 (.inl ⟨fs, hk, h1.2, rfl⟩)
      · rename_i n e hk
        obtain ⟨h1, h2⟩ := ift hc
        cases h2
        simp only [Bool.and_eq_true, beq_iff_eq] at h1
        exact e_eqa (call := call) (neg := false) hE ho h hA hB h1.1.1 (.inr ⟨e, hk, h1.1.2, h1.2⟩)
      · rename_i n e hk
        obtain ⟨h1, h2⟩ := ift hc
        cases h2
        simp only [Bool.and_eq_true, beq_iff_eq] at h1
        exact e_eqa (call := call) (neg := true) hE ho h hA hB h1.1.1 (.inr ⟨e, hk, h1.1.2, h1.2⟩)
      · rename_i hk
        cases hc
        have hu := (hE t (by rw [hk]; rfl)).und
        rw [hk] at hu
        exact e_eqb (call := call) (neg := false) ho h hA hB hu
      · rename_i hk
        cases hc
        have hu := (hE t (by rw [hk]; rfl)).und
        rw [hk] at hu
        exact e_eqb (call := call) (neg := true) ho h hA hB hu
      · by_cases hn : (E t).k.nilable = true
        · rw [if_pos hn] at hc
          obtain ⟨h1, h2⟩ := ift hc
          cases h2
          have hb : (E t).k.isBad = false := by cases hkk : (E t).k <;> rw [hkk] at hn <;> first | rfl | cases hn
          exact e_eqn (call := call) (neg := false) ho h hA hB (hE t hb).und hn
        · rw [if_neg hn] at hc
          exact hint hc h
      · by_cases hn : (E t).k.nilable = true
        · rw [if_pos hn] at hc
          obtain ⟨h1, h2⟩ := ift hc
          cases h2
          have hb : (E t).k.isBad = false := by cases hkk : (E t).k <;> rw [hkk] at hn <;> first | rfl | cases hn
          exact e_eqn (call := call) (neg := true) ho h hA hB (hE t hb).und hn
        · rw [if_neg hn] at hc
          exact hint hc h
      · exact hint hc h
    · cases hc
  | unOp uop t x =>
    rw [ho] at hc hev
    cases uop <;> simp only [cOp] at hc <;> first | (cases hc; done) | skip
    all_goals
      obtain ⟨a, ha, he⟩ := omap hc
      subst he
      have hA := hev x a (by simp [Op.operands]) ha
      first | exact e_neg (call := call) ho h hA | exact e_not (call := call) ho h hA | exact e_com (call := call) ho h hA
  | convert s d x =>
    rw [ho] at hc hev
    simp only [cOp] at hc
    split at hc
    · rename_i k k' hs hd
      obtain ⟨a, ha, he⟩ := omap hc
      subst he
      exact e_conv (call := call) hE ho h (hev x a (by simp [Op.operands]) ha) hs hd
    · cases hc
  | sliceToArrayPointer t x =>
    rw [ho] at hc hev
    simp only [cOp] at hc
    split at hc
    · rename_i n e hk
      by_cases h0 : n = 0
      · rw [if_pos h0] at hc; cases hc
      · rw [if_neg h0] at hc
        obtain ⟨a, ha, he⟩ := omap hc
        subst he
        exact e_s2a (call := call) hE ho hk h (hev x a (by simp [Op.operands]) ha) (by omega)
    · cases hc
  | makeFunc fn a b =>
    rw [ho] at hc hev
    cases fn <;> simp only [cOp] at hc <;> first | (cases hc; done) | skip
    split at hc
    · rename_i p q g1 g2
      cases hc
      refine e_mkf (call := call) ho h (vls g1 fun X x hX hx => hev X x ?_ hx) (vls g2 fun X x hX hx => hev X x ?_ hx)
      · simp only [Op.operands, Array.toList_append, List.mem_append]; exact .inl hX
      · simp only [Op.operands, Array.toList_append, List.mem_append]; exact .inr hX
    · cases hc
  | makeMap t r =>
    rw [ho] at hc
    cases r with
    | some _ => simp only [cOp] at hc; cases hc
    | none =>
      simp only [cOp] at hc
      cases hc
      exact absurd hO (by rintro (e | ⟨e, _⟩) <;> cases e)
  | makeSlice t l c =>
    rw [ho] at hc hev
    simp only [cOp] at hc
    split at hc
    · rename_i e hk
      obtain ⟨hb, h1⟩ := iff0 hc
      split at h1
      · rename_i p q g1 g2
        cases h1
        exact absurd hO (by rintro (e | ⟨e, _⟩) <;> cases e)
      · cases h1
    · cases hc
  | slice t x l hh m =>
    rw [ho] at hc hev
    have hxm : x ∈ (Op.slice t x l hh m).operands.toList := by simp [Op.operands]
    have hl' : ∀ Y y, l = some Y → cOpd Y = some y → VR ι (ev tm y) (ρ Y) := fun Y y e hy => hev Y y (by subst e; simp [Op.operands]) hy
    have hh' : ∀ Y y, hh = some Y → cOpd Y = some y → VR ι (ev tm y) (ρ Y) := fun Y y e hy => hev Y y (by subst e; simp [Op.operands]) hy
    have hm' : ∀ Y y, m = some Y → cOpd Y = some y → VR ι (ev tm y) (ρ Y) := fun Y y e hy => hev Y y (by subst e; simp [Op.operands]) hy
    simp only [cOp] at hc
    split at hc
    · rename_i n e x' l' h' m' hk g1 g2 g3 g4
      obtain ⟨hb, h1⟩ := iff0 hc
      cases h1
      simp only [Bool.or_eq_false_iff] at hb
      exact e_sliceA (call := call) hE ho hk hb.1 h (hev x x' hxm g1) (oo_of g2 hl') (oo_of g3 hh') (oo_of g4 hm') (oo_hm g3 g4 hb.2)
    · rename_i e x' l' h' m' hk g1 g2 g3 g4
      obtain ⟨hb, h1⟩ := iff0 hc
      cases h1
      simp only [Bool.or_eq_false_iff] at hb
      exact e_sliceS (call := call) hE ho hk hb.1 h (hev x x' hxm g1) (oo_of g2 hl') (oo_of g3 hh') (oo_of g4 hm') (oo_hm g3 g4 hb.2)
    · cases hc
  | fieldAddr t x f =>
    rw [ho] at hc hev
    simp only [cOp] at hc
    split at hc
    · rename_i fs x' hk g1
      split at hc
      · rename_i off u hf
        obtain ⟨hb, h1⟩ := iff0 hc
        cases h1
        simp only [Bool.or_eq_false_iff, beq_eq_false_iff_ne] at hb
        exact e_fieldA (call := call) hE ho hk hf hb.1 hb.2 h (hev x x' (by simp [Op.operands]) g1)
      · cases hc
    · cases hc
  | field t x f =>
    rw [ho] at hc hev
    simp only [cOp] at hc
    split at hc
    · rename_i fs x' hk g1
      split at hc
      · rename_i off u hf
        obtain ⟨hb, h1⟩ := iff0 hc
        cases hg : (E u).k.agg with
        | true =>
          rw [hg] at h1; simp at h1; subst h1
          exact e_fieldG (call := call) hE ho hk hf hb hg h (hev x x' (by simp [Op.operands]) g1)
        | false =>
          rw [hg] at h1; simp at h1; subst h1
          exact e_field (call := call) hE ho hk hf hb hg h (hev x x' (by simp [Op.operands]) g1)
      · cases hc
    · cases hc
  | indexAddr t x i =>
    rw [ho] at hc hev
    simp only [cOp] at hc
    split at hc
    · rename_i n e x' i' hk g1 g2
      obtain ⟨hb, h1⟩ := iff0 hc
      cases h1
      exact e_idxA (call := call) hE ho hk hb h (hev x x' (by simp [Op.operands]) g1) (hev i i' (by simp [Op.operands]) g2)
    · rename_i e x' i' hk g1 g2
      obtain ⟨hb, h1⟩ := iff0 hc
      cases h1
      exact e_idxS (call := call) hE ho hk hb h (hev x x' (by simp [Op.operands]) g1) (hev i i' (by simp [Op.operands]) g2)
    · cases hc
  | index t x i =>
    rw [ho] at hc hev
    simp only [cOp] at hc
    split at hc
    · rename_i n e x' i' hk g1 g2
      obtain ⟨hb, h1⟩ := iff0 hc
      cases h1
      exact e_idxV (call := call) hE ho hk hb h (hev x x' (by simp [Op.operands]) g1) (hev i i' (by simp [Op.operands]) g2)
    · rename_i x' i' hk g1 g2
      cases hc
      exact e_idxC (call := call) hE ho hk h (hev x x' (by simp [Op.operands]) g1) (hev i i' (by simp [Op.operands]) g2)
    · cases hc
  | mapUpdate t m k x =>
    rw [ho] at hc hev
    simp only [cOp] at hc
    split at hc
    · rename_i key e m' k' x' hk g1 g2 g3
      obtain ⟨hb, h1⟩ := ift hc
      cases h1
      exact absurd hO (by rintro (e | ⟨e, _⟩) <;> cases e)
    · cases hc
  | range t x =>
    rw [ho] at hc hev
    simp only [cOp] at hc
    split at hc
    · rename_i key e hk
      obtain ⟨a, ha, he⟩ := omap hc
      subst he
      exact absurd hO (by rintro (e | ⟨e, _⟩) <;> cases e)
    · cases hc
  | extract x i =>
    rw [ho] at hc hev
    simp only [cOp] at hc
    cases hx : cOpd x with
    | none => rw [hx] at hc; cases hc
    | some x' =>
      rw [hx] at hc; cases hc
      exact e_ext (call := call) ho h (hev x x' (by simp [Op.operands]) hx)
  | _ => rw [ho] at hc; simp only [cOp] at hc; cases hc
include hE in
theorem op_new {xa : FuncId} {ao : AOp} (hO : ao.cls = .al) (hn : ι σ.nx = none) (hc : cOp E xa o.op = some ao) (hev : Ev ι tm ρ o.op) (h : op ao call tm σ = .ok v σ') :
    Upon P (New CR ι w σ σ' v) ((execOp ρ o).run P w) := by
  cases ho : o.op with
  | alloc t =>
    rw [ho] at hc
    obtain ⟨hb, h1⟩ := iff0 (show (if (E t).k.isBad = true then none else some (AOp.alloc (E t).z)) = some ao from hc)
    cases h1
    exact e_alloc (call := call) (tm := tm) hE hn ho hb h
  | box t x =>
    rw [ho] at hc hev
    obtain ⟨hb, h1⟩ := iff0 (show (if (E t).k.isBad = true then none else (cOpd x).map (.box (E t).size)) = some ao from hc)
    obtain ⟨a, ha, he⟩ := omap h1
    subst he
    exact e_box (call := call) (n := (E t).size) hn ho h (hev x a (by simp [Op.operands]) ha)
  | buildSlice t n ps =>
    rw [ho] at hc hev
    have hps : ∀ X x, X ∈ ps.toList.map (·.2) → cOpd X = some x → VR ι (ev tm x) (ρ X) := fun X x hX hx => hev X x (by simpa [Op.operands] using hX) hx
    simp only [cOp] at hc
    split at hc
    · rename_i e hk
      obtain ⟨hb, h1⟩ := iff0 hc
      obtain ⟨qs, hq, he⟩ := omap h1
      subst he
      simp only [Bool.or_eq_false_iff, decide_eq_false_iff_not] at hb
      exact e_buildSl (call := call) hE hn ho hk hb.1 (by omega) hq h hps
    · cases hc
  | makeMap t r =>
    rw [ho] at hc
    cases r with
    | some _ => simp only [cOp] at hc; cases hc
    | none =>
      simp only [cOp] at hc
      cases hc
      exact e_mkm (call := call) (tm := tm) hn ho h
  | makeSlice t l c =>
    rw [ho] at hc hev
    simp only [cOp] at hc
    split at hc
    · rename_i e hk
      obtain ⟨hb, h1⟩ := iff0 hc
      split at h1
      · rename_i p q g1 g2
        cases h1
        exact e_mks (call := call) hE hn ho hk hb h (hev l p (by simp [Op.operands]) g1) (hev c q (by simp [Op.operands]) g2)
      · cases h1
    · cases hc
  | call c =>
    rw [ho] at hc
    exact absurd hO (call_cls hc)
  | _ =>
    rw [ho] at hc
    exact absurd hO (oth_cls hc (by intro t e; cases e) (by intro t x e; cases e) (by intro t n ps e; cases e) (by intro t r e; cases e) (by intro t l c e; cases e))
include hE in
theorem op_ok (hcall : CallOK P CR call) {xa : FuncId} (hX : XOK P xa) (hR : Rel CR ι σ w) {ao : AOp} (hc : cOp E xa o.op = some ao) (hev : Ev ι tm ρ o.op) (h : op ao call tm σ = .ok v σ') :
    Upon P (Post CR ι w σ' v) ((execOp ρ o).run P w) := by
  cases hcl : ao.cls with
  | q => exact upS (op_still (CR := CR) hE (.inl hcl) hc hev h) hR
  | ld => exact upS (op_still hE (.inr ⟨hcl, hR.toO⟩) hc hev h) hR
  | al => exact upN (op_new hE hcl hR.fresh hc hev h) hR
  | ef =>
    cases ho : o.op with
    | call c => rw [ho] at hc hev; exact op_call hE hcall hX hR ho hc hev h
    | store t a x =>
      rw [ho] at hc hev
      simp only [cOp] at hc
      obtain ⟨hb, h1⟩ := iff0 hc
      split at h1
      · rename_i p q g1 g2
        cases h1
        exact e_store (call := call) hE hR ho hb h (hev a p (by simp [Op.operands]) g1) (hev x q (by simp [Op.operands]) g2)
      · cases h1
    | mapUpdate t m k x =>
      rw [ho] at hc hev
      simp only [cOp] at hc
      split at hc
      · rename_i key e m' k' x' hk g1 g2 g3
        obtain ⟨hb, h1⟩ := ift hc
        cases h1
        exact e_mapUp (call := call) hE hR ho hk hb h (hev m m' (by simp [Op.operands]) g1) (hev k k' (by simp [Op.operands]) g2) (hev x x' (by simp [Op.operands]) g3)
      · cases hc
    | range t x =>
      rw [ho] at hc hev
      simp only [cOp] at hc
      split at hc
      · rename_i key e hk
        obtain ⟨a, ha, he⟩ := omap hc
        subst he
        exact e_range (call := call) hE hR ho hk h (hev x a (by simp [Op.operands]) ha)
      · cases hc
    | _ => exact absurd hcl (ef_cls (by rw [ho] at hc; exact hc) (by intro c e; cases e) (by intro t a x e; cases e) (by intro t m k x e; cases e) (by intro t x e; cases e))
end
end Den

namespace Den
open Go

def badO : AOper := .mk none (.bad 0)
def cDst (N : Nat) : Option Nat → Option (Option Pos)
  | none => some none
  | some d => if d < N then some (some (pos d)) else none
/-- an operation of a region. hm: the deferred function that does nothing where no panic is. -/
def cOper (E : Env) (xa hm N : Nat) (ops : Array Oper) (o : Oper) : AOper :=
  match o.op with
  | .defer c => match c.callee, o.guard, o.dst with
    | .value F, none, none => if c.args.size = 0 then match cOpd F with | some f => .df (pos hm) f | none => badO else badO
    | _, _, _ => badO
  | _ => match cOp E xa o.op, cDst N o.dst, o.guard with
    | some ao, some d, none => .mk d ao
    | some ao, some d, some (j, t) => match (ops[j]?).bind (·.dst) with | some g => .gd (pos g) t d ao | none => badO
    | _, _, _ => badO

def coll (d : Deferred) : Option Nat := match d.target with | .collected r => some r | _ => none
/-- what a frame has deferred: marks, and what does nothing. -/
structure DR (hm lb : Nat) (ι : Inj) (w : World) (ds : List Deferred) : Prop where
  low : lb ≤ w.heap.size
  each : ∀ d ∈ ds, (∃ r, lb ≤ r ∧ d.target = .collected r ∧ w.heap[r]? = some (.deferred (some [])) ∧ ∀ p e X, ι p ≠ some (r, e, X)) ∨ (∃ cap, d.target = .fn (.func hm) cap)
  nodup : (ds.filterMap coll).Nodup
theorem DR.step {hm lb : Nat} {ι ι' : Inj} {w w' : World} {ds : List Deferred} (h : DR hm lb ι w ds) (s : Step ι w ι' w') : DR hm lb ι' w' ds := by
  refine ⟨Nat.le_trans h.low s.size, fun d hd => ?_, h.nodup⟩
  rcases h.each d hd with ⟨r, h0, h1, h2, h3⟩ | h1
  · have hr : r < w.heap.size := by
      rcases Nat.lt_or_ge r w.heap.size with x | x
      · exact x
      · rw [Array.getElem?_eq_none x] at h2; cases h2
    refine .inl ⟨r, h0, h1, by rw [s.same r hr h3]; exact h2, fun p e X hp => ?_⟩
    rcases s.new p r e X hp with ⟨q, e', X', hq⟩ | hge
    · exact h3 q e' X' hq
    · omega
  · exact .inr h1
structure AR (hm lb : Nat) (ι : Inj) (N : Nat) (tm : T V) (w : World) (a : Act) : Prop where
  tmps : TR ι N tm a.tmps
  defers : DR hm lb ι w a.defers
theorem AR.put {hm lb : Nat} {ι ι' : Inj} {N : Nat} {tm : T V} {w w' : World} {a : Act} (h : AR hm lb ι N tm w a) (s : Step ι w ι' w') {d : Option Nat} {d' : Option Pos} (hd : cDst N d = some d') {v : V} {v' : Value} (hv : VR ι' v v') :
    AR hm lb ι' N (tset tm d' v) w' (a.put d v') := by
  cases d with
  | none => cases hd; exact ⟨h.tmps.mono s.le, h.defers.step s⟩
  | some d =>
    simp only [cDst] at hd
    by_cases hlt : d < N
    · rw [if_pos hlt] at hd; cases hd
      refine ⟨?_, h.defers.step s⟩
      have := (h.tmps.mono s.le).set hv (p := pos d) (by rw [num_pos]; exact hlt)
      rw [num_pos] at this
      exact this
    · rw [if_neg hlt] at hd; cases hd

/-- the fences that are used. -/
def Wd (F : Fence) : Prop := F = Fence.wide ∨ ∃ l, F = Fence.wide.inRound l
theorem Wd.fn {F : Fence} (h : Wd F) (f : FuncId) : F.fn f := by rcases h with rfl | ⟨l, rfl⟩ <;> trivial
theorem Wd.depth {F : Fence} (h : Wd F) : F.depth.isSome = true → 1 ≤ 0 := by rcases h with rfl | ⟨l, rfl⟩ <;> (intro e; cases e)
theorem Wd.calls {F : Fence} (h : Wd F) {P : Program} {f : FuncId} {args : Array Value} {w : World} {R : Ending → World → Prop} (k : CallsIn Fence.wide 0 P f args w R) : CallsIn F 0 P f args w R := by
  rcases h with rfl | ⟨l, rfl⟩
  · exact k
  · exact k
theorem Wd.round {F : Fence} (h : Wd F) {P : Program} {l f : Nat} {tmps : Array Value} {as bo : Code} {w : World} {R : Ending → World → Prop} (k : RoundIn Fence.wide 0 P l f tmps as bo w R) : RoundIn F 0 P l f tmps as bo w R := by
  rcases h with rfl | ⟨l, rfl⟩
  · exact k
  · exact k

section
variable {P : Program} {E : Env} (hE : TyOK P E) {CR : CRel} {call : Cl} (hcall : CallOK P CR call) {xa hm lb N : Nat} (hX : XOK P xa) {F : Fence} (hF : Wd F)

include hF in
theorem uponIn_of {o : Oper} {a : Act} {next : Act → World → Prop} {Q : Exit → Act → World → Prop} {K : Value → World → Prop} {r : Result Next} (h : Upon P K r) (hk : ∀ v w', K v w' → next (a.put o.dst v) w') : o.uponIn F 0 P a next Q r := by
  unfold Upon at h
  split at h
  · exact hk _ _ h
  · exact hk _ _ h
  · refine ⟨hF.depth, hF.calls (h.mono fun e w'' ⟨v, e1, e2⟩ => ?_)⟩
    subst e1; exact hk _ _ e2
  · refine ⟨hF.depth, hF.round (h.mono fun e w'' ⟨v, e1, e2⟩ => ?_)⟩
    subst e1; exact hk _ _ e2
  · exact h.elim
theorem ev_ok {ι : Inj} {tm : T V} {a : Act} (h : TR ι N tm a.tmps) {X : Operand} {x : Opd} (hx : cOpd X = some x) : VR ι (ev tm x) (a.eval X) := by
  cases X with
  | tmp t =>
    cases hx
    have := h.get (pos t)
    rw [num_pos] at this
    exact this
  | const c =>
    simp only [cOpd] at hx
    split at hx
    · rename_i y hy
      cases hx
      show VR ι y c
      unfold cV at hy
      split at hy <;> first | (cases hy; done) | skip
      · cases hy; exact .b _
      · cases hy; exact .i ..
      · cases hy; exact .s _ _ rfl
      · cases hy; exact .p0
      · cases hy; exact .s0
      · cases hy; exact .m0
      · cases hy; exact .f0
      · cases hy; exact .i0
    · cases hx
  | func f =>
    cases hx
    exact .f (num_pos f) .nl .nl
  | global g => cases hx

theorem wanted_ok {ι : Inj} {tm : T V} {tmps : Array Value} (h : TR ι N tm tmps) {ops : Array Oper} {j g : Nat} (hj : (ops[j]?).bind (·.dst) = some g) (t : Bool) :
    ((tg tm (pos g)).onB false (fun x => x == t)) = (yielded ops tmps j == some t) := by
  have hv := h.get (pos g)
  rw [num_pos] at hv
  have hy : yielded ops tmps j = match tmps[g]? with | some (.bool b) => some b | _ => none := by
    unfold yielded
    rw [hj]; rfl
  rw [hy]
  rw [Array.getD_eq_getD_getElem?] at hv
  generalize tg tm (pos g) = x at hv ⊢
  cases hg : tmps[g]? with
  | none =>
    rw [hg] at hv
    cases x <;> first | (cases hv; done) | rfl
  | some u =>
    rw [hg] at hv
    simp only [Option.getD_some] at hv
    cases hv <;> rfl
theorem about_wide (hF : Wd F) (o : Oper) (a : Act) (w : World) : ∀ f, o.about P w a.eval = some f → F.fn f := fun f _ => hF.fn f

include hE hcall hX hF in
theorem ops_ok {ops : Array Oper} {Q : Exit → Act → World → Prop} {tm' : T V} {σ' : St} (hr : F.round = none ∨ ∀ o ∈ ops, ∀ c, o.op ≠ .defer c) : ∀ (l : List Oper) (k : Nat), (∀ j, l[j]? = ops[k + j]?) → ∀ {tm : T V} {σ : St}, Den.ops call (l.map (cOper E xa hm N ops)) tm σ = .ok tm' σ' →
    ∀ {ι : Inj} {w : World} {a : Act}, Rel CR ι σ w → AR hm lb ι N tm w a → (∀ ι' a' w', Step ι w ι' w' → Rel CR ι' σ' w' → AR hm lb ι' N tm' w' a' → Q .normal a' w') → wpOpsIn F 0 P ops Q (List.range' k l.length) a w
  | [], k, _, tm, σ, h, ι, w, a, hR, hA, hQ => by
    cases h
    exact hQ ι a w (.refl _ _) hR hA
  | o :: l, k, hl, tm, σ, h, ι, w, a, hR, hA, hQ => by
    have hok : ops[k]? = some o := by have := hl 0; simpa using this.symm
    have hl' : ∀ j, l[j]? = ops[(k + 1) + j]? := fun j => by have := hl (j + 1); simpa [Nat.add_assoc, Nat.add_comm 1 j] using this
    simp only [List.length_cons, List.range'_succ, wpOpsIn, hok]
    have hev : Ev ι tm a.eval o.op := fun X x _ hx => ev_ok hA.tmps hx
    -- an operation that is done
    have hdo : ∀ {d : Option Pos} {ao : AOp}, cOp E xa o.op = some ao → cDst N o.dst = some d → (∀ c, o.op ≠ .defer c) → doMk call d ao (Den.ops call (l.map (cOper E xa hm N ops))) tm σ = .ok tm' σ' →
        o.wpIn F 0 P a w (wpOpsIn F 0 P ops Q (List.range' (k + 1) l.length)) Q := by
      intro d ao h1 h2 h3 h4
      refine ⟨about_wide hF o a w, ?_⟩
      rw [Oper.semAt_eq _ _ _ h3]
      have key : ∃ v σ₁, op ao call tm σ = .ok v σ₁ ∧ Den.ops call (l.map (cOper E xa hm N ops)) (tset tm d v) σ₁ = .ok tm' σ' := by
        unfold doMk at h4
        cases hop : op ao call tm σ with
        | no => rw [hop] at h4; cases h4
        | ok v σ₁ => rw [hop] at h4; exact ⟨v, σ₁, rfl, h4⟩
      obtain ⟨v, σ₁, k1, k2⟩ := key
      refine uponIn_of hF (op_ok (o := o) hE hcall hX hR h1 hev k1) fun v' w' ⟨ι', s1, s2, s3⟩ => ?_
      exact ops_ok hr l (k + 1) hl' k2 s2 (hA.put s1 h2 s3) fun ι'' a' w'' t1 t2 t3 => hQ ι'' a' w'' (s1.trans t1) t2 t3
    change doOper call (cOper E xa hm N ops o) (Den.ops call (l.map (cOper E xa hm N ops))) tm σ = _ at h
    have hbad : ∀ {K : OpsS}, doOper call badO K tm σ ≠ .ok tm' σ' := by intro K e; cases e
    cases ho : o.op with
    | defer c =>
      simp only [cOper, ho] at h
      split at h
      · rename_i Fo hcal hg hd
        split at h
        · rename_i hsz
          split at h
          · rename_i f hf
            -- what does nothing is deferred
            have key : ∃ fs cs, ev tm f = .f (pos hm) fs cs ∧ Den.ops call (l.map (cOper E xa hm N ops)) tm σ = .ok tm' σ' := by
              change doDf (pos hm) f _ tm σ = _ at h
              unfold doDf at h
              cases hv : ev tm f <;> rw [hv] at h <;> first | (cases h; done) | skip
              rename_i g fs cs
              change cond (Pos.beq g (pos hm)) _ RO.no = _ at h
              cases hb : Pos.beq g (pos hm) with
              | false => rw [hb] at h; cases h
              | true => rw [hb] at h; rw [Pos.beq_eq hb]; exact ⟨fs, cs, rfl, h⟩
            obtain ⟨fs, cs, k1, k2⟩ := key
            have hv := ev_ok hA.tmps hf
            rw [k1] at hv
            have hrn : F.round = none := hr.resolve_right fun x => x o (by rw [← Array.mem_toList_iff]; exact List.mem_of_getElem? (by simpa using hok)) c ho
            have hw : Region.wanted o (yielded ops a.tmps) = true := by simp [Region.wanted, hg]
            rw [if_pos hw]
            refine ⟨about_wide hF o a w, ?_⟩
            have hsem : o.semAt F.round a.eval = execOp a.eval o := by rw [hrn]; rfl
            rw [hsem]
            generalize hfo : a.eval Fo = fv at hv
            cases hv with | f e1 e2 e3 =>
            rename_i G Fs Cs
            have hG : G = hm := by rw [← e1, num_pos]
            have hrun : (execOp a.eval o).run P w = .ok (.defer { target := .fn (.func hm) Cs, args := Fs ++ c.args.map a.eval }) w := by
              simp only [execOp, ho, Sem.run_bind, resolve_value (P := P) (w := w) hcal o.type hfo, Result.andThen_ok, hG]; rfl
            rw [hrun]
            show wpOpsIn F 0 P ops Q (List.range' (k + 1) l.length) _ w
            rw [hd]
            refine ops_ok hr l (k + 1) hl' k2 hR ⟨hA.tmps, ⟨hA.defers.low, fun d hd' => ?_, ?_⟩⟩ hQ
            · rcases List.mem_cons.1 hd' with rfl | hd'
              · exact .inr ⟨_, rfl⟩
              · exact hA.defers.each d hd'
            · exact hA.defers.nodup
          · exact absurd h hbad
        · exact absurd h hbad
      · exact absurd h hbad
    | _ =>
      have hnd : ∀ c, o.op ≠ .defer c := by intro c e; rw [ho] at e; cases e
      simp only [cOper, ho] at h
      rw [← ho] at h
      split at h
      · rename_i ao d h1 h2 h3
        have hw : Region.wanted o (yielded ops a.tmps) = true := by simp [Region.wanted, h3]
        rw [if_pos hw]
        exact hdo h1 h2 hnd h
      · rename_i ao d j t h1 h2 h3
        split at h
        · rename_i g hg
          change cond ((tg tm (pos g)).onB false (fun x => x == t)) (doMk call d ao _ tm σ) (Den.ops call _ (tset tm d un) σ) = _ at h
          rw [wanted_ok hA.tmps hg t] at h
          cases hw : (yielded ops a.tmps j == some t) with
          | true =>
            rw [hw] at h
            have hww : Region.wanted o (yielded ops a.tmps) = true := by simp only [Region.wanted, h3]; exact hw
            rw [if_pos hww]
            exact hdo h1 h2 hnd h
          | false =>
            rw [hw] at h
            have hww : ¬ Region.wanted o (yielded ops a.tmps) = true := by simp only [Region.wanted, h3]; rw [hw]; simp
            rw [if_neg hww]
            refine ⟨about_wide hF o a w, ?_⟩
            exact ops_ok hr l (k + 1) hl' h hR (hA.put (.refl _ _) h2 (.un _)) hQ
        · exact absurd h hbad
      · exact absurd h hbad
end
end Den
