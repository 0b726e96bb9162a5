/- Tables of types; the atomic adding; a deferred function that does nothing. (The same text serves every seat.) -/
import Derived.Test.YtfffnkeogijkkaaGreatDc
import Derived.Laws.Externs
import Derived.RecoverIn
set_option linter.unusedVariables false
set_option linter.unusedSimpArgs false
set_option linter.unusedSectionVars false
set_option linter.constructorNameAsVariable false
namespace Den
open Go

theorem cV_ok {ι : Inj} {c : Value} {y : V} (hy : cV c = some y) : VR ι y c := by
  unfold cV at hy
  split at hy <;> first | (cases hy; done) | skip
  · cases hy; exact .b _
  · cases hy; exact .i ..
  · cases hy; exact .s _ _ rfl
  · cases hy; exact .p0
  · cases hy; exact .s0
  · cases hy; exact .m0
  · cases hy; exact .f0
  · cases hy; exact .i0
def cVs : List Value → Option (List V)
  | [] => some []
  | x :: r => match cV x, cVs r with | some y, some ys => some (y :: ys) | _, _ => none
theorem cVs_ok {ι : Inj} : ∀ {l : List Value} {ys : List V}, cVs l = some ys → CL ι ys l
  | [], ys, h => by cases h; exact .nil
  | x :: r, ys, h => by
    simp only [cVs] at h
    split at h
    · rename_i y ys' h1 h2
      cases h
      exact .cons (cV_ok h1) (cVs_ok h2)
    · cases h
/-- is what the table says of a type so? -/
def kChk (d : Option TypeDesc) : TK → Bool
  | .bad => true
  | .int k => match d with | some (.int k') => decide (k = k') | _ => false
  | .bool => match d with | some .bool => true | _ => false
  | .str => match d with | some .string => true | _ => false
  | .ptr e => match d with | some (.pointer e') => decide (e = e') | _ => false
  | .func => match d with | some (.func _ _ _) => true | _ => false
  | .slice e => match d with | some (.slice e') => decide (e = e') | _ => false
  | .arr n e => match d with | some (.array n' e') => decide (n = n') && decide (e = e') | _ => false
  | .strct fs => match d with | some (.struct f) => decide (f.toList.map (fun x => (x.offset, x.type)) = fs) | _ => false
  | .oth => match d with | some (.struct _) => false | some (.array _ _) => false | some _ => true | none => false
  | .map k e => match d with | some (.map k' e') => decide (k = k') && decide (e = e') | _ => false
theorem kChk_ok {d : Option TypeDesc} {k : TK} (h : kChk d k = true) : KAt d k := by
  cases k <;> simp only [kChk] at h <;> (try split at h) <;> first | (cases h; done) | skip
  all_goals simp only [KAt]
  all_goals first
    | trivial
    | (simp at h; simp [h]; done)
    | exact ⟨_, _, _, rfl⟩
    | (refine ⟨_, rfl, ?_⟩; split <;> first | rfl | simp_all)
    | (exact ⟨_, rfl, by simpa using h⟩)
    | skip
def vEq : V → V → Bool
  | .b x, .b y => x == y
  | .i k n, .i k' n' => decide (k = k') && decide (n = n')
  | .s x, .s y => x == y
  | .p0, .p0 => true
  | .s0, .s0 => true
  | .m0, .m0 => true
  | .f0, .f0 => true
  | .i0, .i0 => true
  | _, _ => false
def listEq : List V → List V → Bool
  | [], [] => true
  | x :: r, y :: s => vEq x y && listEq r s
  | _, _ => false
def tyChk (P : Program) (t : TypeId) (i : TI) : Bool :=
  kChk (P.underlying t) i.k &&
  (match P.info? t with
    | some f => decide (f.size = i.size) && decide (f.bytes = i.bytes) && (match f.zero with
      | some z => (match cVs z.cells.toList with | some ys => listEq ys i.z | none => false) && decide (i.z.length = i.size) && (i.k.agg || (match z with | .agg _ => false | _ => true))
      | none => false)
    | none => false) &&
  (!i.eqok || (!(P.eqGuardType P.depth t) && (match P.underlying t with | some (.struct f) => !(P.stoodInHeld t) && f.toList.all (fun x => x.name != "_") | _ => true)))
theorem vEq_ok {x y : V} (h : vEq x y = true) : x = y := by
  cases x <;> cases y <;> simp only [vEq] at h <;> first | (cases h; done) | rfl | skip
  all_goals simp at h
  · rw [h]
  · rw [h.1, h.2]
  · rw [h]
theorem listEq_ok : ∀ {x y : List V}, listEq x y = true → x = y
  | [], [], _ => rfl
  | [], _ :: _, h => by cases h
  | _ :: _, [], h => by cases h
  | x :: r, y :: s, h => by
    simp only [listEq, Bool.and_eq_true] at h
    rw [vEq_ok h.1, listEq_ok h.2]
theorem tyChk_ok {P : Program} {t : TypeId} {i : TI} (h : tyChk P t i = true) : TyAt P t i := by
  simp only [tyChk, Bool.and_eq_true] at h
  obtain ⟨⟨h1, h2⟩, h3⟩ := h
  refine ⟨kChk_ok h1, ?_, fun he => ?_⟩
  · split at h2
    · rename_i f hf
      simp only [Bool.and_eq_true, decide_eq_true_eq] at h2
      obtain ⟨⟨g1, g2⟩, g3⟩ := h2
      split at g3
      · rename_i z hz
        simp only [Bool.and_eq_true, decide_eq_true_eq] at g3
        obtain ⟨⟨g4, g5⟩, g6⟩ := g3
        split at g4
        · rename_i ys hys
          have := listEq_ok g4
          subst this
          refine ⟨f, z, hf, g1, g2, hz, fun ι => cVs_ok hys, g5, fun ha => ?_⟩
          rw [ha] at g6
          cases z <;> first | exact ⟨_, rfl, rfl⟩ | cases g6
        · cases g4
      · cases g3
    · cases h2
  · rw [he] at h3
    simp only [Bool.not_true, Bool.false_or, Bool.and_eq_true, Bool.not_eq_true'] at h3
    refine ⟨h3.1, fun f hf => ?_⟩
    have h4 := h3.2
    rw [hf] at h4
    simp only [Bool.and_eq_true, Bool.not_eq_true', List.all_eq_true] at h4
    exact ⟨h4.1, fun x hx => by simpa using h4.2 x hx⟩
/-- a table of types. -/
def envOf (l : List TI) : Env := fun t => (l[t]?).getD default
def tysChk (P : Program) : List TI → Nat → Bool
  | [], _ => true
  | i :: l, t => (i.k.isBad || tyChk P t i) && tysChk P l (t + 1)
theorem tysChk_ok {P : Program} : ∀ {l : List TI} {t : Nat}, tysChk P l t = true → ∀ k i, l[k]? = some i → i.k.isBad = false → TyAt P (t + k) i
  | [], _, _, k, i, h, _ => by simp at h
  | j :: l, t, h, k, i, hk, hb => by
    simp only [tysChk, Bool.and_eq_true] at h
    cases k with
    | zero =>
      simp at hk; subst hk
      rw [hb] at h
      exact tyChk_ok (by simpa using h.1)
    | succ k =>
      have := tysChk_ok h.2 k i (by simpa using hk) hb
      rwa [show t + 1 + k = t + (k + 1) by omega] at this
theorem envOf_ok {P : Program} {l : List TI} (h : tysChk P l 0 = true) : TyOK P (envOf l) := by
  intro t ht
  unfold envOf at ht ⊢
  cases hl : l[t]? with
  | none => rw [hl] at ht; cases ht
  | some i =>
    rw [hl] at ht
    have := tysChk_ok h t i hl ht
    rwa [Nat.zero_add] at this

/-! all of a trie -/
inductive AllT {α : Type} (Q : Pos → α → Prop) : (Pos → Pos) → T α → Prop
  | e (f : Pos → Pos) : AllT Q f .e
  | n {f : Pos → Pos} {v : α} {l r : T α} : Q (f .h) v → AllT Q (fun p => f (.o p)) l → AllT Q (fun p => f (.i p)) r → AllT Q f (.n v l r)
theorem AllT.get {α : Type} {Q : Pos → α → Prop} {d : α} (hd : ∀ p, Q p d) {f : Pos → Pos} {t : T α} (h : AllT Q f t) : ∀ p, Q (f p) (T.get d t p) := by
  induction h with
  | e f => exact fun p => hd _
  | n hv _ _ il ir =>
    intro p
    cases p with
    | h => exact hv
    | o p => exact il p
    | i p => exact ir p
theorem fxNo_ok {P : Program} {E : Env} {xa hm : Nat} (p : Pos) : FxOK P E xa hm p (fun _ _ _ => .no) := by
  intro _ _ _ _ _ _ _ _ _ _ _ h; cases h
end Den

namespace Den
open Go
/-- the atomic adding. -/
theorem xok_of {P : Program} {f : FuncId} {fn : Func} (hf : P.funcs[f]? = some fn) (hname : (fn.name == "runtime.NumGoroutine") = false) (hb : fn.body.isNone = true) (hn : Extern.findNext fn = none)
    (he : Extern.find fn = some (Extern.Atomic.update (Op.intArith .add) .i64 true)) : XOK P f := by
  intro a m n w hc hz
  rw [run_callFunc_extern hf hname hb hn he]
  have : Extern.Atomic.update (Op.intArith .add) .i64 true #[.pointer (some a), .int .i64 n] = (do
    let a ← asAddr (.pointer (some a))
    let old ← Extern.Atomic.read (.int .i64) a
    let new ← Op.intArith .add .i64 (← asInt old) (← asInt (.int .i64 n))
    Go.store a new .atomic
    pure (if true then new else old)) := rfl
  rw [this]
  have h1 : (Extern.Atomic.read (.int .i64) a).run P w = .ok (.int .i64 m) w := by
    simp [Extern.Atomic.read, Go.load, Sem.run, hc]
  rw [Sem.run_bind, show (asAddr (.pointer (some a))).run P w = .ok a w from rfl, Result.andThen_ok, Sem.run_bind, h1, Result.andThen_ok]
  simp [asInt, asIntOf, Op.intArith, Go.store, Sem.run, hc, hz]
theorem eval_put {a : Act} {t : Nat} {v : Value} (h : t < a.tmps.size) : (a.put (some t) v).eval (.tmp t) = v := by
  simp [Act.put, Act.eval, Array.getD_eq_getD_getElem?, h]
theorem put_size {a : Act} {t : Option Nat} {v : Value} : (a.put t v).tmps.size = a.tmps.size := by
  cases t <;> simp [Act.put]
/-- the deferred function that does nothing where no panic is. -/
theorem hm_of {P : Program} {hm : Nat} {fn : Func} {o0 o1 o2 o3 : Oper} {X : Code} {i j t4 t1 t5 t6 : Nat} (hf : P.funcs[hm]? = some fn) (hn : (fn.name == "runtime.NumGoroutine") = false)
    (hb : fn.body = some (.seq (.region i #[o0, o1] false) (.seq (.region j #[o2, o3] false) (.cond (.tmp t6) X .skip)))) (hr : fn.results = #[])
    (g0 : o0.guard = none) (g1 : o1.guard = none) (g2 : o2.guard = none) (g3 : o3.guard = none) (d0 : o0.dst = some t4) (d1 : o1.dst = some t1) (d2 : o2.dst = some t5) (d3 : o3.dst = some t6)
    (n4 : t4 < fn.ntmps) (n1 : t1 < fn.ntmps) (n5 : t5 < fn.ntmps) (n6 : t6 < fn.ntmps)
    (e0 : ∀ ρ w, (execOp ρ o0).run P w = .ok .recover w) (e1 : ∀ ρ w, (execOp ρ o1).run P w = .ok (.value (ρ (.tmp t4))) w) (e2 : ∀ ρ w, (execOp ρ o2).run P w = .ok (.value (ρ (.tmp t1))) w)
    (e3 : ∀ ρ w, ρ (.tmp t5) = .nilIface → (∀ v, ρ (.const v) = v) → (execOp ρ o3).run P w = .ok (.value (.bool false)) w) : HmOK P hm := by
  intro cap args w
  refine ⟨args ++ cap, run_callFunc hf (by rw [hb]; rfl) hn, ?_⟩
  refine callsDIn_of_wpSIn (n := 0) (F := Fence.wide) hf hb trivial fun c₀ cs hm => ?_
  have hsz : fn.ntmps ≤ ({ tmps := (args ++ cap) ++ Array.replicate (fn.ntmps - (args ++ cap).size) undef, defers := [] } : Act).tmps.size := by simp; omega
  have hdf : ({ tmps := (args ++ cap) ++ Array.replicate (fn.ntmps - (args ++ cap).size) undef, defers := [] } : Act).defers = [] := rfl
  generalize ({ tmps := (args ++ cap) ++ Array.replicate (fn.ntmps - (args ++ cap).size) undef, defers := [] } : Act) = a at hsz hdf
  have hw : ∀ (o : Oper) x, o.guard = none → Region.wanted o x = true := fun o x h => by simp [Region.wanted, h]
  have hrec : recoverD (c₀ :: cs) = none := by simp [recoverD, hm]
  refine wpSIn_seq (wpSIn_region ?_)
  show wpOpsSIn _ _ _ _ _ [0, 1] _ _ _
  simp only [wpOpsSIn, show (#[o0, o1] : Array Oper)[0]? = some o0 from rfl, show (#[o0, o1] : Array Oper)[1]? = some o1 from rfl, hw o0 _ g0, hw o1 _ g1, if_true, e0, e1, hrec, d0, d1]
  refine ⟨fun _ _ => trivial, fun _ _ => trivial, ?_⟩
  rw [eval_put (by omega)]
  refine wpSIn_seq (wpSIn_region ?_)
  show wpOpsSIn _ _ _ _ _ [0, 1] _ _ _
  have hx3 : ∀ (b : Act), t5 < b.tmps.size → b.eval (.tmp t1) = .nilIface → (execOp (b.put (some t5) .nilIface).eval o3).run P w = .ok (.value (.bool false)) w := fun b hb h => e3 _ _ (eval_put hb) fun _ => rfl
  have ht1 : ((a.put (some t4) .nilIface).put (some t1) .nilIface).eval (.tmp t1) = .nilIface := eval_put (by rw [put_size]; omega)
  have ht5 : t5 < ((a.put (some t4) .nilIface).put (some t1) .nilIface).tmps.size := by rw [put_size, put_size]; omega
  simp only [wpOpsSIn, show (#[o2, o3] : Array Oper)[0]? = some o2 from rfl, show (#[o2, o3] : Array Oper)[1]? = some o3 from rfl, hw o2 _ g2, hw o3 _ g3, if_true, e2, d2, d3, ht1, hx3 _ ht5 ht1]
  refine ⟨fun _ _ => trivial, fun _ _ => trivial, ?_⟩
  refine wpSIn_cond (t := false) (eval_put (by rw [put_size, put_size, put_size]; omega)) ?_
  refine wpSIn_of_wpIn rfl (wpIn_skip ?_)
  refine ⟨?_, .returning, ?_, ?_⟩
  · exact hdf
  · show c₀ :: cs = { c₀ with mode := .returning } :: cs
    rw [← hm]
  · refine ⟨.tuple #[], ?_, ⟨_, rfl⟩, rfl, rfl⟩
    simp [results, hr]
end Den
