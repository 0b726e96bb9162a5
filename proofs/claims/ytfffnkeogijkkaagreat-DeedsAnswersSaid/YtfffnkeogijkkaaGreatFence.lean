/- A fence keeps the lines that were flushed, in whatever order the map is walked. -/
import Derived.Test.YtfffnkeogijkkaaGreatFa
import Derived.Test.YtfffnkeogijkkaaGreatFb
import Derived.Test.YtfffnkeogijkkaaGreatFc
import Derived.Test.YtfffnkeogijkkaaGreatFd
import Derived.Test.YtfffnkeogijkkaaGreatDf
set_option linter.unusedVariables false
set_option linter.unusedSimpArgs false
set_option linter.unusedSectionVars false
namespace Den
open Go Go.Proofs
theorem xOK : XOK Tryz.prog 279 := xok_of Tryz.func279 (by kernel_rfl) (by kernel_rfl) (by kernel_rfl) (by kernel_rfl)
theorem hmOK : HmOK Tryz.prog 43 := hm_of Tryz.func43 (by kernel_rfl) (by rfl) rfl rfl rfl rfl rfl rfl rfl rfl rfl (by decide +kernel) (by decide +kernel) (by decide +kernel) (by decide +kernel)
  (fun _ _ => rfl) (fun _ _ => rfl) (fun _ _ => rfl) (fun ρ w h hc => by simp [execOp, h, hc, eqGuard, binOp, Op.equal]; rw [show Op.maxDepth = 9999 + 1 from rfl, Op.equalIn]; simp)
theorem mixOK : Tryz.prog.follows .mixedOrders = true := by kernel_rfl
end Den

namespace Den
open Go
section keep
variable {FT : Pos → Fx} {K : Nat}
theorem keep_tells (hF : FT f_pmem_Region_keep = enter K a_pmem_Region_keep) {st : St} {rb : Pos} {ro : Nat} {rs : List V} {rt : Nat} {kb : Pos} {ko kn kc : Nat} {kq : Bool} {kcs : List V} {kt a : Nat} {l : List V} {kk : IntKind}
    (h1 : st.at rb = .cells rs rt) (h2 : rs[ro + 1]? = some (.sl kb ko kn kc kq)) (h3 : st.at kb = .cells kcs kt) (h4 : l.length = 8) (h5 : ∀ x ∈ l, x.one = true) (h6 : a + 8 ≤ kn) (h7 : kn ≤ kc) (h8 : ko + a + 8 ≤ kcs.length)
    (n1 : rb.num < st.nx.num) (n2 : kb.num < st.nx.num) (hkt : kt < roT) :
    Tells FT K (.f f_pmem_Region_keep .nl .nl) (.co (.p rb ro) (.co (.i kk (a : Int)) (.co (.ag (mkl l)) .nl))) st fun v st' => v = un ∧ st' = (st.add (.cells l 0)).put kb (.cells (kcs.take (ko + a) ++ (l ++ kcs.drop (ko + a + 8))) kt) := by
  refine tells_in hF ?_
  have e1 : (st.add (.cells l 0)).at rb = .cells rs rt := by rw [at_add_old n1]; exact h1
  have e3 : (st.add (.cells l 0)).at kb = .cells kcs kt := by rw [at_add_old n2]; exact h3
  have ha : a ≤ kn := by omega
  simp [a_pmem_Region_keep, b_pmem_Region_keep, r_pmem_Region_keepR0, r_pmem_Region_keepR1, e1, h2, ha, h7]
  have hm : min 8 (kn - a) = 8 := by omega
  have ht : List.take 8 l = l := List.take_of_length_le (by omega)
  refine bCopy_of (at_add_new _ _) e3 (by rw [hm]; omega) (by rw [hm]; omega) (by rw [hm]; simpa [ht] using h5) hkt ?_
  rw [hm]
  simp [size_eq, ht]
end keep
end Den

namespace Den
open Go Go.Proofs
open Go.ChangeMaps (setBlock)

def opsOf : Code → List (Array Oper)
  | .region _ o _ => [o]
  | .seq a b => opsOf a ++ opsOf b
  | .block _ a => opsOf a
  | .loop a => opsOf a
  | _ => []
noncomputable def fO (k : Nat) : Array Oper := ((opsOf (Tryz.f257.body.getD .skip))[k]?).getD #[]
theorem fbody : Tryz.f257.body = some (.seq (.seq (.region 0 (fO 0) false) (.block 0 (.loop (.seq (.region 1 (fO 1) false) (.seq (.cond (.tmp 9) .skip (.exit 0)) (.block 1 (.seq (.region 2 (fO 2) false) (.region 3 (fO 3) false)))))))) (.region 4 (fO 4) false)) := by kernel_rfl
theorem fd0 : (fO 0).toList.map (cOper DE 279 43 21 (fO 0)) = r_pmem_Region_Fencec1R0 := by kernel_rfl
theorem fd1 : (fO 1).toList.map (cOper DE 279 43 21 (fO 1)) = r_pmem_Region_Fencec1R1 := by kernel_rfl
theorem fd2 : (fO 2).toList.map (cOper DE 279 43 21 (fO 2)) = r_pmem_Region_Fencec1R2 := by kernel_rfl
theorem fd3 : (fO 3).toList.map (cOper DE 279 43 21 (fO 3)) = r_pmem_Region_Fencec1R3 := by kernel_rfl
theorem fd4 : (fO 4).toList.map (cOper DE 279 43 21 (fO 4)) = r_pmem_Region_Fencec1R4 := by kernel_rfl
noncomputable def oN : Oper := ((fO 1)[0]?).getD default
noncomputable def oE : Oper := ((fO 2)[0]?).getD default
theorem hoN : (fO 1)[0]? = some oN := by kernel_rfl
theorem hoE : (fO 2)[0]? = some oE := by kernel_rfl
theorem oN_op : oN.op = .next (.tmp 7) false := by kernel_rfl
theorem oN_dst : oN.dst = some 8 := by kernel_rfl
theorem oN_gd : oN.guard = none := by kernel_rfl
theorem oE_op : oE.op = .entry (.tmp 7) := by kernel_rfl
theorem oE_dst : oE.dst = some 10 := by kernel_rfl
theorem oE_gd : oE.guard = none := by kernel_rfl
theorem fsz0 : (fO 0).size = 5 := by kernel_rfl
theorem fsz1 : (fO 1).size = 2 := by kernel_rfl
theorem fsz2 : (fO 2).size = 6 := by kernel_rfl
theorem fsz3 : (fO 3).size = 4 := by kernel_rfl
theorem fsz4 : (fO 4).size = 5 := by kernel_rfl
end Den

namespace Den
open Go Go.Proofs
open Go.ChangeMaps (setBlock)

/-- a table with 'keep' alone. -/
noncomputable def FTk : Pos → Fx := fun p => if p = f_pmem_Region_keep then enter 1000 a_pmem_Region_keep else fun _ _ _ => .no
theorem FTk_keep : FTk f_pmem_Region_keep = enter 1000 a_pmem_Region_keep := if_pos rfl
theorem FTk_ok : ∀ p, FxOK Tryz.prog DE 279 43 p (FTk p) := by
  intro p
  unfold FTk
  by_cases h : p = f_pmem_Region_keep
  · subst h
    rw [if_pos rfl]
    exact enter_ok tyOK xOK mixOK hmOK 1000 (show Tryz.prog.funcs[258]? = some Tryz.f258 from Tryz.func258) n258 c258
  · rw [if_neg h]; exact fxNo_ok p

theorem ops_wp {FT : Pos → Fx} {K : Nat} (hFT : ∀ p, FxOK Tryz.prog DE 279 43 p (FT p)) {N : Nat} {ops : Array Oper} {Q : Exit → Act → World → Prop} {l : List Oper} {k : Nat} (hl : ∀ j : Nat, l[j]? = ops[k + j]?) {dl : List AOper}
    (hd : l.map (cOper DE 279 43 N ops) = dl) {tm : T V} {σ : St} {Q0 : T V → St → Prop} (hw : wpo FT K dl tm σ Q0) {lb : Nat} {Z : Nat → Option Go.Obj} {ι : Inj} {w : World} {a : Act} (hR : Rel (CRl DE 279 43 Z) ι σ w) (hA : AR 43 lb ι N tm w a)
    (hQ : ∀ tm' σ', Q0 tm' σ' → ∀ ι' a' w', Step ι w ι' w' → Rel (CRl DE 279 43 Z) ι' σ' w' → AR 43 lb ι' N tm' w' a' → Q .normal a' w') : wpOpsIn Fence.wide 0 Tryz.prog ops Q (List.range' k l.length) a w := by
  obtain ⟨tm', σ', q, e⟩ := wpo_ok hw
  obtain ⟨n, e⟩ := e.get
  have ih := callN_ok tyOK xOK mixOK hFT K (Z := Z) n
  rw [← hd] at e
  exact ops_ok (call := callN FT K n) tyOK ih.1 xOK (.inl rfl) (.inl rfl) l k hl e hR hA (hQ tm' σ' q)
theorem reg_wp {FT : Pos → Fx} {K : Nat} (hFT : ∀ p, FxOK Tryz.prog DE 279 43 p (FT p)) {N id : Nat} {ops : Array Oper} {Q : Exit → Act → World → Prop} {dl : List AOper}
    (hd : ops.toList.map (cOper DE 279 43 N ops) = dl) {tm : T V} {σ : St} {Q0 : T V → St → Prop} (hw : wpo FT K dl tm σ Q0) {lb : Nat} {Z : Nat → Option Go.Obj} {ι : Inj} {w : World} {a : Act} (hR : Rel (CRl DE 279 43 Z) ι σ w) (hA : AR 43 lb ι N tm w a)
    (hQ : ∀ tm' σ', Q0 tm' σ' → ∀ ι' a' w', Step ι w ι' w' → Rel (CRl DE 279 43 Z) ι' σ' w' → AR 43 lb ι' N tm' w' a' → Q .normal a' w') : (Code.region id ops false).wpIn Fence.wide 0 Tryz.prog Q a w := by
  refine wpIn_region ?_
  have := ops_wp hFT (Q := Q) (l := ops.toList) (k := 0) (fun j => by simp) hd hw hR hA hQ
  rw [List.range_eq_range']
  simpa using this

theorem inj_of_nodup {α β : Type} {f : α → β} : ∀ {l : List α}, (l.map f).Nodup → ∀ {x y : α}, x ∈ l → y ∈ l → f x = f y → x = y
  | [], _, _, _, h, _, _ => by simp at h
  | z :: l, hn, x, y, hx, hy, e => by
    rw [List.map_cons] at hn
    obtain ⟨n1, n2⟩ := List.nodup_cons.1 hn
    by_cases h1 : x = z
    · by_cases h2 : y = z
      · rw [h1, h2]
      · have hy' : y ∈ l := by simpa [h2] using hy
        exact absurd (List.mem_map.2 ⟨y, hy', by rw [← e, h1]⟩) n1
    · have hx' : x ∈ l := by simpa [h1] using hx
      by_cases h2 : y = z
      · exact absurd (List.mem_map.2 ⟨x, hx', by rw [e, h2]⟩) n1
      · have hy' : y ∈ l := by simpa [h2] using hy
        exact inj_of_nodup n2 hx' hy' e
theorem ER.leftN {ι : Inj} {es : List (V × V × Nat)} {l : List MapEntry} (h : ER ι es l) (seen : List Nat) : (l.filter fun e => !seen.contains e.born).length = leftN es seen := by
  induction h with
  | nil => rfl
  | cons a b c _ ih =>
    unfold Den.leftN at ih ⊢
    simp only [List.filter_cons, c]
    split
    · rw [List.length_cons, List.length_cons, ih]
    · exact ih

noncomputable def fRest : Code := .seq (.cond (.tmp 9) .skip (.exit 0)) (.block 1 (.seq (.region 2 (fO 2) false) (.region 3 (fO 3) false)))
noncomputable def fBody : Code := .seq (.region 1 (fO 1) false) fRest
section loop
variable {Z : Nat → Option Go.Obj} {σ : St} {cb rb kb m : Pos} {co ct ro rt ko kn kc kt clock : Nat} {kq : Bool} {cs rs kcs : List V} {es : List (V × V × Nat)}
structure FI (σ : St) (cb kb m : Pos) (co ko kt clock : Nat) (kcs : List V) (es D : List (V × V × Nat)) (kD : List V) (σc : St) (tm : T V) : Prop where
  old : ∀ p, p.num < σ.nx.num → p ≠ kb → σc.at p = σ.at p
  kept : σc.at kb = .cells kD kt
  it : ∃ last, clock ≤ last ∧ σc.at σ.nx = .iter (some m) clock (D.map fun e => e.2.2) last
  dead : ∀ p, σ.nx.num < p.num → σc.at p = .dead
  nx : σc.nx.num = σ.nx.num + 1 + 2 * D.length
  t0 : tg tm (pos 0) = .p cb co
  t7 : tg tm (pos 7) = .p σ.nx 0
  sub : ∀ e ∈ D, e ∈ es
  char : Char ko kcs (D.map lnOf) kD
  cnt : D.length + leftN es (D.map fun e => e.2.2) = es.length
variable (hcb : σ.at cb = .cells cs ct) (hcs : cs[co]? = some (.p rb ro)) (hrb : σ.at rb = .cells rs rt) (hk : rs[ro + 1]? = some (.sl kb ko kn kc kq)) (hkn : kn ≤ kc) (hm : rs[ro + 2]? = some (.m m)) (hkb : σ.at kb = .cells kcs kt) (hmm : σ.at m = .map es clock)
  (nkr : kb ≠ rb) (nkc : kb ≠ cb) (lo : ∀ e ∈ es, LineOk kn clock e) (nA : (es.map fun e => (lnOf e).1).Nodup) (nB : (es.map fun e => e.2.2).Nodup) (hle : ∀ e ∈ es, ko + (lnOf e).1 + 8 ≤ kcs.length)
  (bcb : cb.num < σ.nx.num) (brb : rb.num < σ.nx.num) (bkb : kb.num < σ.nx.num) (bm : m.num < σ.nx.num) (hkt : kt < roT)
include hcb hcs hrb hk hkn hm hkb hmm nkr nkc lo nA nB hle bcb brb bkb bm hkt

theorem round_ok' {lb : Nat} {ι0 : Inj} {w0 : World} {Q : Exit → Act → World → Prop}
    (hfin : ∀ D kD σc tm ι w a, FI σ cb kb m co ko kt clock kcs es D kD σc tm → leftN es (D.map fun e => e.2.2) = 0 → Rel (CRl DE 279 43 Z) ι σc w → AR 43 lb ι 21 tm w a → Step ι0 w0 ι w → Q .normal a w)
    (n : Nat) (D : List (V × V × Nat)) (kD : List V) (σc : St) (tm : T V) (ι : Inj) (w : World) (a : Act) (hI : FI σ cb kb m co ko kt clock kcs es D kD σc tm) (hR : Rel (CRl DE 279 43 Z) ι σc w) (hA : AR 43 lb ι 21 tm w a) (hS : Step ι0 w0 ι w)
    (ih : ∀ D' kD' σc' tm' ι' w' a', FI σ cb kb m co ko kt clock kcs es D' kD' σc' tm' → leftN es (D'.map fun e => e.2.2) + 1 = leftN es (D.map fun e => e.2.2) → Rel (CRl DE 279 43 Z) ι' σc' w' → AR 43 lb ι' 21 tm' w' a' → Step ι0 w0 ι' w' →
      Code.roundsIn Fence.wide 0 Tryz.prog fBody (Exit.inBlock 0 Q) n a' w') :
    Code.roundsIn Fence.wide 0 Tryz.prog fBody (Exit.inBlock 0 Q) (n + 1) a w := by
  rw [roundsIn_succ]
  have hF : Wd Fence.wide := .inl rfl
  -- what the iterator and the map are
  have v7 := hA.tmps.get (pos 7)
  rw [hI.t7, num_pos] at v7
  obtain ⟨last, hlast, hit⟩ := hI.it
  generalize hv7 : a.tmps.getD 7 undef = x7 at v7
  cases v7 with
  | p hιt =>
  rename_i B d X
  obtain ⟨O, hO, hOR⟩ := hR.obj _ _ _ _ hιt (by rw [hit]; rfl)
  rw [hit] at hOR
  cases hOR with
  | iter hd0 hse hιm =>
  rename_i se BM d' X'
  subst hd0
  have hev7 : a.eval (.tmp 7) = .pointer (some ⟨B, 0 + 0, none⟩) := hv7
  have hmc : σc.at m = .map es clock := by rw [hI.old m bm (fun e => by subst e; rw [hmm] at hkb; cases hkb)]; exact hmm
  obtain ⟨OM, hOM, hORM⟩ := hR.obj _ _ _ _ hιm (by rw [hmc]; rfl)
  rw [hmc] at hORM
  cases hORM with
  | map hER =>
  rename_i E
  have hold : ∀ x ∈ E.toList, x.born < clock := fun x hx => by
    obtain ⟨k, v, b, h1, _, _, h4⟩ := hER.mem hx
    have := (lo _ h1).born
    simp only at this
    omega
  have hsec : ∀ x, se.contains x = (D.map fun e => e.2.2).contains x := fun x => by rw [← hse, ← Array.contains_toList]
  have hlft : (leftOf E se).size = leftN es (D.map fun e => e.2.2) := by
    rw [← hER.leftN, ← Array.length_toList]
    unfold leftOf
    rw [Array.toList_filter]
    congr 2
    funext e; rw [hsec]
  -- the first step
  refine wpIn_seq (wpIn_region ?_)
  rw [fsz1]
  show wpOpsIn _ _ _ _ _ (0 :: List.range' 1 1) a w
  have hw : Region.wanted oN (yielded (fO 1) a.tmps) = true := by simp [Region.wanted, oN_gd]
  simp only [wpOpsIn, hoN]
  rw [if_pos hw]
  have hnd : ∀ c, oN.op ≠ .defer c := fun c e => by rw [oN_op] at e; cases e
  refine ⟨about_wide hF _ _ _, ?_⟩
  rw [Oper.semAt_eq _ _ _ hnd]
  have hex : execOp a.eval oN = (do Pure.pure (Next.value (← Instr.next (a.eval (.tmp 7)) false oN.type)) : Sem Next) := by
    simp only [execOp, oN_op]
  have hl1 : ∀ j : Nat, ((fO 1).toList.drop 1)[j]? = (fO 1)[1 + j]? := fun j => by rw [List.getElem?_drop]; simp
  have hlen1 : ((fO 1).toList.drop 1).length = 1 := by simp [fsz1]
  have hdl1 : ((fO 1).toList.drop 1).map (cOper DE 279 43 21 (fO 1)) = [.mk (some p9) (.ext (.t p8) 0)] := by
    rw [List.map_drop, fd1]; rfl
  rcases run_next_at (P := Tryz.prog) w oN.type B BM clock last se E clock hO hOM hold hlast with ⟨h0, hrun⟩ | ⟨e, he, w1, hw1, hrun⟩
  · -- nothing is left
    refine uponIn_of (K := fun v' w' => v' = .tuple #[.bool false] ∧ w' = w) hF ?_ fun v' w' ⟨e1, e2⟩ => ?_
    · rw [hex, hev7]
      exact upV hrun ⟨rfl, rfl⟩
    · subst e1
      subst w'
      have hA1 : AR 43 lb ι 21 (tset tm (some (pos 8)) (.tu (.co (.b false) .nl))) w (a.put oN.dst (.tuple #[.bool false])) :=
        hA.put (.refl _ _) (d := oN.dst) (by rw [oN_dst]; rfl) (.tu (.co (.b _) .nl))
      have := ops_wp FTk_ok (Q := Exit.then (fun a₁ w₁ => Code.wpIn Fence.wide 0 Tryz.prog fRest (Exit.then (Code.roundsIn Fence.wide 0 Tryz.prog fBody (Exit.inBlock 0 Q) n) (Exit.inBlock 0 Q)) a₁ w₁) (Exit.then (Code.roundsIn Fence.wide 0 Tryz.prog fBody (Exit.inBlock 0 Q) n) (Exit.inBlock 0 Q))) hl1 hdl1 (K := 1000) (Q0 := fun tm' σ' => tm' = tset (tset tm (some (pos 8)) (.tu (.co (.b false) .nl))) (some (pos 9)) (.b false) ∧ σ' = σc) (by simp) hR hA1 fun tm' σ' ⟨e1, e2⟩ ι' a' w' s1 s2 s3 => ?_
      · rw [hlen1] at this; exact this
      · subst e1; subst e2
        refine wpIn_seq (wpIn_cond_false ?_ (wpIn_exit ?_))
        · have := s3.tmps.get (pos 9)
          rw [tg_same, num_pos] at this
          show a'.tmps.getD 9 undef = _
          generalize a'.tmps.getD 9 undef = z at this
          cases this; rfl
        · exact hfin D kD _ _ ι' w' a' ⟨hI.old, hI.kept, hI.it, hI.dead, hI.nx, by simp [hI.t0], by simp [hI.t7], hI.sub, hI.char, hI.cnt⟩ (by rw [← hlft]; exact h0) s2 s3 (hS.trans s1)
  · -- an entry
    have heE : e ∈ E.toList := by
      unfold leftOf at he
      rw [Array.toList_filter] at he
      exact (List.mem_filter.1 he).1
    have hens : e.born ∉ D.map fun e => e.2.2 := by
      unfold leftOf at he
      rw [Array.toList_filter] at he
      have := (List.mem_filter.1 he).2
      rw [hsec] at this
      intro hm
      rw [List.contains_iff_mem.2 hm] at this; cases this
    obtain ⟨k, v, b, hes, hk1, hv1, hb1⟩ := hER.mem heE
    subst hb1
    have hle1 := lo _ hes
    obtain ⟨kk, hkk⟩ := hle1.key
    obtain ⟨L, hL, hL'⟩ := hle1.val
    generalize hal : lnOf (k, v, e.born) = al at *
    obtain ⟨aa, ll⟩ := al
    simp only at hkk hL hL'
    subst hkk; subst hL; subst hL'
    have hw1h : w1.heap = w.heap := by rcases hw1 with rfl | rfl <;> rfl
    have hw1s : Step ι w ι w1 := by
      rcases hw1 with rfl | rfl
      · exact .refl _ _
      · exact .world rfl rfl rfl
    have hR1 : Rel (CRl DE 279 43 Z) ι σc w1 := hR.world hw1h
    obtain ⟨r1, r2⟩ := hR1.put hιt (by rw [hit]; rfl) (fun cs e => by rw [hit] at e; cases e) (ob := .iter (some m) clock ((D.map fun e => e.2.2) ++ [e.born]) clock) (O := .mapIter (some BM) clock (se.push e.born) clock) (.iter rfl (by simp [hse]) hιm)
    refine uponIn_of (K := fun v' w' => v' = .tuple #[.bool true, e.key, e.val] ∧ w' = Wput w1 B (.mapIter (some BM) clock (se.push e.born) clock)) hF ?_ fun v' w' ⟨e1, e2⟩ => ?_
    · rw [hex, hev7]
      exact upV hrun ⟨rfl, rfl⟩
    · subst e1; subst e2
      have hA1 : AR 43 lb ι 21 (tset tm (some (pos 8)) (.tu (.co (.b true) (.co (.i kk (aa : Int)) (.co (.ag L) .nl))))) (Wput w1 B (.mapIter (some BM) clock (se.push e.born) clock)) (a.put oN.dst (.tuple #[.bool true, e.key, e.val])) :=
        hA.put (hw1s.trans r2) (d := oN.dst) (by rw [oN_dst]; rfl) (.tu (.co (.b _) (.co hk1 (.co hv1 .nl))))
      have := ops_wp FTk_ok (Q := Exit.then (fun a₁ w₁ => Code.wpIn Fence.wide 0 Tryz.prog fRest (Exit.then (Code.roundsIn Fence.wide 0 Tryz.prog fBody (Exit.inBlock 0 Q) n) (Exit.inBlock 0 Q)) a₁ w₁) (Exit.then (Code.roundsIn Fence.wide 0 Tryz.prog fBody (Exit.inBlock 0 Q) n) (Exit.inBlock 0 Q))) hl1 hdl1 (K := 1000)
        (Q0 := fun tm' σ' => tm' = tset (tset tm (some (pos 8)) (.tu (.co (.b true) (.co (.i kk (aa : Int)) (.co (.ag L) .nl))))) (some (pos 9)) (.b true) ∧ σ' = σc.put σ.nx (.iter (some m) clock ((D.map fun e => e.2.2) ++ [e.born]) clock)) (by simp) r1 hA1 fun tm' σ' ⟨e1, e2⟩ ι' a' w' s1 s2 s3 => ?_
      · rw [hlen1] at this; exact this
      · subst e1; subst e2
        refine wpIn_seq (wpIn_cond_true ?_ (wpIn_skip ?_))
        · have := s3.tmps.get (pos 9)
          rw [tg_same, num_pos] at this
          show a'.tmps.getD 9 undef = _
          generalize a'.tmps.getD 9 undef = z at this
          cases this; rfl
        · refine wpIn_block (wpIn_seq (wpIn_region ?_))
          rw [fsz2]
          show wpOpsIn _ _ _ _ _ (0 :: List.range' 1 5) a' w'
          have hw2 : Region.wanted oE (yielded (fO 2) a'.tmps) = true := by simp [Region.wanted, oE_gd]
          simp only [wpOpsIn, hoE]
          rw [if_pos hw2]
          have hnd2 : ∀ c, oE.op ≠ .defer c := fun c e => by rw [oE_op] at e; cases e
          refine ⟨about_wide hF _ _ _, ?_⟩
          rw [Oper.semAt_eq _ _ _ hnd2]
          have hex2 : execOp a'.eval oE = (do Pure.pure (Next.value (← Instr.entry (a'.eval (.tmp 7)))) : Sem Next) := by
            simp only [execOp, oE_op]
          -- what the iterator and the map are now
          have hιt' := s1.le _ _ hιt
          have hιm' := s1.le _ _ hιm
          have at1 : (σc.put σ.nx (.iter (some m) clock ((D.map fun e => e.2.2) ++ [e.born]) clock)).at σ.nx = .iter (some m) clock ((D.map fun e => e.2.2) ++ [e.born]) clock := at_put_same _ _ _
          have nmx : m ≠ σ.nx := fun e => by subst e; omega
          have atm : (σc.put σ.nx (.iter (some m) clock ((D.map fun e => e.2.2) ++ [e.born]) clock)).at m = .map es clock := by rw [at_put_other nmx]; exact hmc
          obtain ⟨O2, hO2, hOR2⟩ := s2.obj _ _ _ _ hιt' (by rw [at1]; rfl)
          rw [at1] at hOR2
          obtain ⟨OM2, hOM2, hORM2⟩ := s2.obj _ _ _ _ hιm' (by rw [atm]; rfl)
          rw [atm] at hORM2
          have v7' := s3.tmps.get (pos 7)
          rw [tg_other _ _ _ _ (by decide), tg_other _ _ _ _ (by decide), hI.t7, num_pos] at v7'
          have hev7' : a'.eval (.tmp 7) = .pointer (some ⟨B, 0, none⟩) := by
            show a'.tmps.getD 7 undef = _
            generalize a'.tmps.getD 7 undef = z at v7'
            cases v7' with
            | p hz => rw [hιt'] at hz; cases hz; rfl
          cases hORM2 with
          | map hER2 =>
          rename_i E2
          cases hOR2 with
          | iter hd2 hse2 hιm2 =>
          rename_i se2 BM2 d2 X2
          rw [hιm'] at hιm2
          cases hιm2
          obtain ⟨e2, he2, hb2⟩ := hER2.mem' hes
          simp only at hb2
          have hse2' : se2 = (D.map fun e => e.2.2).toArray.push e2.born := by
            rw [← Array.toList_inj]; simp [hse2, hb2]
          obtain ⟨k2, v2, b2, hes2, hk2, hv2, hb2'⟩ := hER2.mem he2
          have heq : (k2, v2, b2) = (.i kk (aa : Int), .ag L, e.born) := inj_of_nodup nB hes2 hes (by simp only; rw [← hb2', hb2])
          cases heq
          rw [hse2'] at hO2
          have hen := run_entry_at (P := Tryz.prog) w' B BM clock (D.map fun e => e.2.2).toArray E2 clock e2 hO2 hOM2 he2 (by rw [hER2.borns]; exact nB)
          refine uponIn_of (K := fun v' w'' => v' = .tuple #[e2.key, e2.val] ∧ w'' = w') hF ?_ fun v' w'' ⟨f1, f2⟩ => ?_
          · rw [hex2, hev7']
            exact upV hen ⟨rfl, rfl⟩
          subst f1; subst w''
          have hA2 := s3.put (.refl _ _) (d := oE.dst) (by rw [oE_dst]; rfl) (.tu (.co hk2 (.co hv2 .nl)))
          have hl2 : ∀ j : Nat, ((fO 2).toList.drop 1)[j]? = (fO 2)[1 + j]? := fun j => by rw [List.getElem?_drop]; simp
          have hlen2 : ((fO 2).toList.drop 1).length = 5 := by simp [fsz2]
          have hdl2 : ((fO 2).toList.drop 1).map (cOper DE 279 43 21 (fO 2)) = r_pmem_Region_Fencec1R2.drop 1 := by
            rw [List.map_drop, fd2]
          generalize hσ1 : σc.put σ.nx (.iter (some m) clock ((D.map fun e => e.2.2) ++ [e.born]) clock) = σ1 at *
          have hnx1 : σ1.nx = σc.nx := by rw [← hσ1, St.nx_put]
          have hll : L.lst.length = 8 := by have := hle1.len; rw [hal] at this; exact this
          have hlo : ∀ x ∈ L.lst, x.one = true := by have := hle1.one; rw [hal] at this; exact this
          have haa : aa % 8 = 0 := by have := hle1.al; rw [hal] at this; exact this
          have hakn : aa + 8 ≤ kn := by have := hle1.le; rw [hal] at this; exact this
          have hakc : ko + aa + 8 ≤ kcs.length := by have := hle _ hes; rw [hal] at this; exact this
          have w2 : wpo FTk 1000 (r_pmem_Region_Fencec1R2.drop 1) (tset (tset (tset tm (some (pos 8)) (.tu (.co (.b true) (.co (.i kk (aa : Int)) (.co (.ag L) .nl))))) (some (pos 9)) (.b true)) (some (pos 10)) (.tu (.co (.i kk (aa : Int)) (.co (.ag L) .nl)))) σ1
              (fun tm' σ' => tg tm' (pos 0) = .p cb co ∧ tg tm' (pos 7) = .p σ.nx 0 ∧ tg tm' (pos 1) = .i kk (aa : Int) ∧ tg tm' (pos 2) = .p σc.nx 0 ∧ (∀ p, σ'.at p = if p = σc.nx then .cells L.lst 0 else σ1.at p) ∧ σ'.nx = σc.nx.succ) := by
            simp [r_pmem_Region_Fencec1R2, hll, hnx1]
            rw [← hnx1, at_add_new, cellS_of _ _ _ _ _ hlo (by simp) (by simp [hll])]
            simp [hll, hI.t0, hI.t7, hnx1]
            intro p
            rw [St.at_put, St.at_add, hnx1]
            by_cases hp : p = σc.nx
            · rw [if_pos hp, if_pos hp]
            · rw [if_neg hp, if_neg hp, if_neg hp]
          have := ops_wp FTk_ok (Q := Exit.then (fun a₁ w₁ => Code.wpIn Fence.wide 0 Tryz.prog (.region 3 (fO 3) false) (Exit.inBlock 1 (Exit.then (Code.roundsIn Fence.wide 0 Tryz.prog fBody (Exit.inBlock 0 Q) n) (Exit.inBlock 0 Q))) a₁ w₁) (Exit.inBlock 1 (Exit.then (Code.roundsIn Fence.wide 0 Tryz.prog fBody (Exit.inBlock 0 Q) n) (Exit.inBlock 0 Q)))) hl2 hdl2 w2 s2 hA2 fun tm2 σ2 ⟨q0, q7, q1, q2, qat, qnx⟩ ι2 a2 w2' t1 t2 t3 => ?_
          · rw [hlen2] at this; exact this
          -- keep
          have o1 : ∀ p, p.num < σ.nx.num → p ≠ kb → σ2.at p = σ.at p := fun p hp hpk => by
            rw [qat, if_neg (fun e => by subst e; have := hI.nx; omega), ← hσ1, at_put_other (fun e => by subst e; omega)]
            exact hI.old p hp hpk
          have okb : σ2.at kb = .cells kD kt := by
            rw [qat, if_neg (fun e => by subst e; have := hI.nx; omega), ← hσ1, at_put_other (fun e => by subst e; omega)]
            exact hI.kept
          have hn2 : σ2.nx.num = σ.nx.num + 2 + 2 * D.length := by rw [qnx, Pos.num_succ, hI.nx]; omega
          have hkDl := hI.char.len
          have hkeep := keep_tells (K := 1000) FTk_keep (kk := kk) (st := σ2) (a := aa) (l := L.lst) ((o1 rb brb (Ne.symm nkr)).trans hrb) hk okb hll hlo hakn hkn (by omega) (by omega) (by omega) hkt
          have w3 : wpo FTk 1000 r_pmem_Region_Fencec1R3 tm2 σ2 (fun tm' σ' => tg tm' (pos 0) = .p cb co ∧ tg tm' (pos 7) = .p σ.nx 0 ∧ σ' = (σ2.add (.cells L.lst 0)).put kb (.cells (kD.take (ko + aa) ++ (L.lst ++ kD.drop (ko + aa + 8))) kt)) := by
            have e1 : σ2.at cb = .cells cs ct := (o1 cb bcb (Ne.symm nkc)).trans hcb
            simp [r_pmem_Region_Fencec1R3, q0, q1, q2, e1, hcs]
            refine loadAK_of (by rw [qat, if_pos rfl]) (by simp [hll]) ?_
            have ht : List.take 8 L.lst = L.lst := List.take_of_length_le (by omega)
            simp [ht]
            refine hkeep.mono fun v st' ⟨g1, g2⟩ => ?_
            subst g1; subst g2
            simp [q0, q7]
          refine reg_wp FTk_ok fd3 w3 t2 t3 fun tm3 σ3 ⟨z0, z7, zσ⟩ ι3 a3 w3' u1 u2 u3 => ?_
          show Code.roundsIn Fence.wide 0 Tryz.prog fBody (Exit.inBlock 0 Q) n a3 w3'
          -- what nobody needs any more is given up
          have hn3 : σ3.nx.num = σ2.nx.num + 1 := by rw [zσ, St.nx_put, St.nx_add, Pos.num_succ]
          have k1 := u2.kill σc.nx (by have := hI.nx; omega)
          have k2' := k1.kill σ2.nx (by rw [St.nx_put]; omega)
          have hat3 : ∀ p, ((σ3.put σc.nx .dead).put σ2.nx .dead).at p = if p = σ2.nx then .dead else if p = σc.nx then .dead else if p = kb then .cells (putL ko aa L.lst kD) kt else σ1.at p := fun p => by
            rw [St.at_put, St.at_put, zσ, St.at_put, St.at_add, qat]
            by_cases h1 : p = σ2.nx
            · simp [h1]
            · by_cases h2 : p = σc.nx
              · simp [h2]
              · by_cases h3 : p = kb
                · rw [if_neg h1, if_neg h2, if_pos h3, if_neg h1, if_neg h2, if_pos h3]; rfl
                · rw [if_neg h1, if_neg h2, if_neg h3, if_neg h1, if_neg h2, if_neg h1, if_neg h2, if_neg h3]
          have hs1 : ∀ p, σ1.at p = if p = σ.nx then .iter (some m) clock ((D.map fun e => e.2.2) ++ [e.born]) clock else σc.at p := fun p => by rw [← hσ1, St.at_put]
          have hcnx := hI.nx
          refine ih (D ++ [(.i kk (aa : Int), .ag L, e.born)]) (putL ko aa L.lst kD) _ _ ι3 w3' a3 ⟨fun p hp hpk => ?_, ?_, ⟨clock, Nat.le_refl _, ?_⟩, fun p hp => ?_, ?_, z0, z7, fun x hx => ?_, ?_, ?_⟩ ?_ k2' u3 ((((hS.trans (hw1s.trans r2)).trans s1).trans t1).trans u1)
          · rw [hat3, if_neg (fun e => by rw [e] at hp; omega), if_neg (fun e => by rw [e] at hp; omega), if_neg hpk, hs1, if_neg (fun e => by rw [e] at hp; omega)]
            exact hI.old p hp hpk
          · rw [hat3, if_neg (fun e => by rw [e] at bkb; omega), if_neg (fun e => by rw [e] at bkb; omega), if_pos rfl]
          · rw [hat3, if_neg (fun e => by have := congrArg Pos.num e; omega), if_neg (fun e => by have := congrArg Pos.num e; omega), if_neg (fun e => by subst e; omega), hs1, if_pos rfl]
            simp
          · rw [hat3]
            by_cases h1 : p = σ2.nx
            · rw [if_pos h1]
            · rw [if_neg h1]
              by_cases h2 : p = σc.nx
              · rw [if_pos h2]
              · rw [if_neg h2, if_neg (fun e => by subst e; omega), hs1, if_neg (fun e => by subst e; omega)]
                exact hI.dead p hp
          · rw [St.nx_put, St.nx_put, hn3, hn2]; simp; omega
          · rcases List.mem_append.1 hx with hx | hx
            · exact hI.sub x hx
            · have : x = (.i kk (aa : Int), .ag L, e.born) := by simpa using hx
              rw [this]; exact hes
          · have hcc := hI.char.cons (a := aa) (l := L.lst) hll haa hakc fun a' l' hm' => by
              obtain ⟨x, hx, hxe⟩ := List.mem_map.1 hm'
              have hxs := hI.sub x hx
              have := (lo x hxs).al
              rw [hxe] at this
              refine ⟨this, fun e1 => hens ?_⟩
              have hx2 : x = (.i kk (aa : Int), .ag L, e.born) := inj_of_nodup nA hxs hes (by rw [hxe, hal]; exact e1)
              rw [hx2] at hx
              exact List.mem_map.2 ⟨_, hx, rfl⟩
            refine hcc.perm fun x => ?_
            rw [List.map_append, List.map_cons, List.map_nil, hal]
            simp only [List.mem_cons, List.mem_append, List.not_mem_nil, or_false]
            exact ⟨fun h => h.symm, fun h => h.symm⟩
          · have h1 := hI.cnt
            have h2 := leftN_step (seen := D.map fun e => e.2.2) nB ⟨_, hes, rfl⟩ hens
            rw [List.map_append, List.length_append]
            simp only [List.map_cons, List.map_nil, List.length_cons, List.length_nil]
            simp only at h2
            omega
          · rw [List.map_append]
            exact leftN_step nB ⟨_, hes, rfl⟩ hens
theorem loop_all {lb : Nat} {ι0 : Inj} {w0 : World} {Q : Exit → Act → World → Prop}
    (hfin : ∀ D kD σc tm ι w a, FI σ cb kb m co ko kt clock kcs es D kD σc tm → leftN es (D.map fun e => e.2.2) = 0 → Rel (CRl DE 279 43 Z) ι σc w → AR 43 lb ι 21 tm w a → Step ι0 w0 ι w → Q .normal a w) :
    ∀ (r : Nat) (D : List (V × V × Nat)) (kD : List V) (σc : St) (tm : T V) (ι : Inj) (w : World) (a : Act), FI σ cb kb m co ko kt clock kcs es D kD σc tm → leftN es (D.map fun e => e.2.2) = r → Rel (CRl DE 279 43 Z) ι σc w → AR 43 lb ι 21 tm w a → Step ι0 w0 ι w →
    Code.roundsIn Fence.wide 0 Tryz.prog fBody (Exit.inBlock 0 Q) (r + 1) a w := by
  intro r
  induction r with
  | zero =>
    intro D kD σc tm ι w a hI hr hR hA hS
    exact round_ok' hcb hcs hrb hk hkn hm hkb hmm nkr nkc lo nA nB hle bcb brb bkb bm hkt hfin 0 D kD σc tm ι w a hI hR hA hS fun _ _ _ _ _ _ _ _ h => by omega
  | succ r ih =>
    intro D kD σc tm ι w a hI hr hR hA hS
    exact round_ok' hcb hcs hrb hk hkn hm hkb hmm nkr nkc lo nA nB hle bcb brb bkb bm hkt hfin (r + 1) D kD σc tm ι w a hI hR hA hS fun D' kD' σc' tm' ι' w' a' h1 h2 h3 h4 h5 => ih D' kD' σc' tm' ι' w' a' h1 (by omega) h3 h4 h5
end loop
end Den

namespace Den
open Go Go.Proofs
theorem args1_ok' {l : V} {k : V → R} {v : V} {s : St} (h : args1 l k = .ok v s) : ∃ x r, l.lst = x :: r ∧ k x = .ok v s := by
  unfold args1 at h
  cases e : l.lst with
  | nil => rw [e] at h; cases h
  | cons x r => rw [e] at h; exact ⟨x, r, rfl, h⟩
theorem onSl_ok' {x : V} {v : V} {s : St} {k : Pos → Nat → Nat → Nat → Bool → R} (h : x.onSl .no .no k = .ok v s) : ∃ b o n c q, x = .sl b o n c q ∧ k b o n c q = .ok v s := by
  rcases onSl_ok h with ⟨_, h⟩ | h
  · cases h
  · exact h
theorem onM_ok' {x : V} {v : V} {s : St} {k : Pos → R} (h : x.onM .no .no k = .ok v s) : ∃ b, x = .m b ∧ k b = .ok v s := by
  rcases onM_ok h with ⟨_, h⟩ | h
  · cases h
  · exact h

theorem fence_ok : FxOK Tryz.prog DE 279 43 f_pmem_Region_Fencec1 fxFence := by
  intro Z _ _ _ args σ σ' v ι w avs h hR ha
  refine ⟨⟨Tryz.f257, Tryz.func257, by rw [fbody]; rfl, by kernel_rfl⟩, ?_⟩
  obtain ⟨c, r, hargs, h⟩ := args1_ok' h
  obtain ⟨cb, co, rfl, h⟩ := onP_ok h
  obtain ⟨cs, ct, hcb, h⟩ := St.row_ok h
  obtain ⟨rv, hcs, h⟩ := getAt_ok h
  obtain ⟨rb, ro, rfl, h⟩ := onP_ok h
  obtain ⟨rs, rt, hrb, h⟩ := St.row_ok h
  obtain ⟨kv, hk, h⟩ := getAt_ok h
  obtain ⟨mv, hm, h⟩ := getAt_ok h
  obtain ⟨kb, ko, kn, kc, kq, rfl, h⟩ := onSl_ok' h
  obtain ⟨m, rfl, h⟩ := onM_ok' h
  obtain ⟨kcs, kt, hkb, h⟩ := St.row_ok h
  obtain ⟨es, clock, hmm, h⟩ := onMap_ok h
  obtain ⟨hc, h⟩ := cond_ok h
  rw [Bool.and_eq_true, Bool.and_eq_true, Bool.not_eq_true', Bool.not_eq_true'] at hc
  obtain ⟨⟨nkr, nkc⟩, hlo⟩ := hc
  obtain ⟨hkt, h⟩ := wr_ok h
  obtain ⟨kcs', hput, h⟩ := ol_ok h
  cases h
  have nkr' : kb ≠ rb := fun e => by
    subst e
    have : ∀ p : Pos, Pos.beq p p = true := fun p => by induction p with | h => rfl | o p ih => exact ih | i p ih => exact ih
    rw [this] at nkr; cases nkr
  have nkc' : kb ≠ cb := fun e => by
    subst e
    have : ∀ p : Pos, Pos.beq p p = true := fun p => by induction p with | h => rfl | o p ih => exact ih | i p ih => exact ih
    rw [this] at nkc; cases nkc
  obtain ⟨lo, nA, nB, _, _⟩ := linesOk_ok hlo
  obtain ⟨hch, hle⟩ := linesPut_char (ko := ko) (kcs := kcs) (D := []) lo nA (fun _ _ h => by simp at h) (.nil _ _) hput
  rw [List.append_nil] at hch
  -- where things are
  have hA0 : AR 43 w.heap.size ι 21 (args0 args .h .e) w { tmps := avs ++ Array.replicate (Tryz.f257.ntmps - avs.size) undef, defers := [] } :=
    ⟨TR.args ha _, ⟨Nat.le_refl _, by simp, by simp⟩⟩
  have ht0 : tg (args0 args .h .e) (pos 0) = .p cb co := by
    have := args0_get args.lst .h .e (pos 0)
    show tg (List.rec (motive := fun _ => Pos → T V → T V) (fun _ t => t) (fun v _ g n t => g n.succ (T.set un v t n)) args.lst .h .e) (pos 0) = _
    rw [this, hargs, if_pos ⟨by simp [num_pos, Pos.num], by simp [num_pos, Pos.num]⟩]; rfl
  have old : ∀ p, (σ.at p).isDead = false → p.num < σ.nx.num := fun p hp => by
    rcases Nat.lt_or_ge p.num σ.nx.num with x | x
    · exact x
    · rw [hR.out p x] at hp; cases hp
  have bcb := old cb (by rw [hcb]; rfl)
  have brb := old rb (by rw [hrb]; rfl)
  have bkb := old kb (by rw [hkb]; rfl)
  have bm := old m (by rw [hmm]; rfl)
  have hkn : kn ≤ kc := by
    have v0 := hA0.tmps.get (pos 0)
    rw [ht0] at v0
    generalize (avs ++ Array.replicate (Tryz.f257.ntmps - avs.size) undef).getD (pos 0).num undef = z at v0
    cases v0 with
    | p hι =>
    obtain ⟨z1, _, e1⟩ := hR.toO.cell hι hcb hcs
    cases e1 with
    | p hι2 =>
    obtain ⟨z2, _, e2⟩ := hR.toO.cell hι2 hrb hk
    cases e2 with
    | sl _ _ h3 _ => exact h3
  refine callsIn_of_wp_marks Tryz.func257 fbody trivial ?_
  -- ahead of the loop
  have w0 : wpo FTk 1000 r_pmem_Region_Fencec1R0 (args0 args .h .e) σ (fun tm' σ' => FI σ cb kb m co ko kt clock kcs es [] kcs σ' tm') := by
    have hrg : ∀ (tm : T V) (st : St) (S : V → St → Prop) (x : Opd), ev tm x = .m m → st.at m = .map es clock → S (.p st.nx 0) (st.add (.iter (some m) clock [] clock)) → wpA FTk 1000 (.range x) tm st S := by
      intro tm st S x h1 h2 h3
      show (V.onM (ev tm x) R.no (St.new (β := R) st (.iter none 0 [] 0) (fun b st => .ok (.p b 0) st)) (fun r => Obj.onMap (st.at r) R.no (fun _ c => St.new (β := R) st (.iter (some r) c [] c) (fun b st => .ok (.p b 0) st)))).bnd False S
      rw [h1]
      show (Obj.onMap (st.at m) R.no (fun _ c => St.new (β := R) st (.iter (some m) c [] c) (fun b st => .ok (.p b 0) st))).bnd False S
      rw [h2]
      show (St.new (β := R) st (.iter (some m) clock [] clock) (fun b st => .ok (.p b 0) st)).bnd False S
      rw [St.new_eq]; exact h3
    simp [r_pmem_Region_Fencec1R0, ht0, hcb, hcs, hrb, hm]
    refine hrg _ _ _ _ (by simp) hmm ?_
    simp
    refine ⟨fun p hp _ => at_add_old hp, by rw [at_add_old bkb]; exact hkb, ⟨clock, Nat.le_refl _, at_add_new _ _⟩, fun p hp => ?_, by simp, by simp [ht0], by simp, by simp, .nil _ _, by simp [leftN]⟩
    rw [St.at_add, if_neg (fun e => by subst e; omega)]
    exact hR.out p (by omega)
  refine wpIn_seq (wpIn_seq (reg_wp FTk_ok fd0 w0 hR hA0 fun tm1 σ1 hI1 ι1 a1 w1 s1 s2 s3 => ?_))
  show (Code.block 0 (.loop fBody)).wpIn Fence.wide 0 Tryz.prog _ a1 w1
  refine wpIn_block (wpIn_loop_rounds (leftN es [] + 1) ?_)
  refine loop_all hcb hcs hrb hk hkn hm hkb hmm nkr' nkc' lo nA nB hle bcb brb bkb bm hkt (lb := w.heap.size) (ι0 := ι) (w0 := w) ?_ _ _ _ _ _ _ _ _ hI1 rfl s2 s3 s1
  -- behind it
  intro D kD σc tm ι2 w2 a2 hI hl0 r2 r3 hS
  have hmem : ∀ e ∈ es, e ∈ D := by
    intro e he
    have hno : e.2.2 ∈ D.map fun e => e.2.2 := by
      have h0 : es.filter (fun e => !(D.map fun e => e.2.2).contains e.2.2) = [] := List.eq_nil_of_length_eq_zero hl0
      have := List.filter_eq_nil_iff.1 h0 e he
      simpa using this
    obtain ⟨x, hx, hxe⟩ := List.mem_map.1 hno
    have := inj_of_nodup nB (hI.sub x hx) he hxe
    rw [← this]; exact hx
  have hkD : kD = kcs' := hI.char.uniq hch fun x => by
    simp only [List.mem_map]
    exact ⟨fun ⟨e, he, hx⟩ => ⟨e, hI.sub e he, hx⟩, fun ⟨e, he, hx⟩ => ⟨e, hmem e he, hx⟩⟩
  subst hkD
  have o1 : ∀ p, p.num < σ.nx.num → p ≠ kb → σc.at p = σ.at p := hI.old
  have nmk : m ≠ kb := fun e => by subst e; rw [hmm] at hkb; cases hkb
  have hcm : σc.at m = .map es clock := (o1 m bm nmk).trans hmm
  have w4 : wpo FTk 1000 r_pmem_Region_Fencec1R4 tm σc (fun _ σ' => σ' = σc.put m (.map [] clock)) := by
    have hcl : ∀ (tm : T V) (st : St) (S : V → St → Prop) (x : Opd), ev tm x = .m m → st.at m = .map es clock → S un (st.put m (.map [] clock)) → wpA FTk 1000 (.bi .clearMap [x]) tm st S := by
      intro tm st S x h1 h2 h3
      show (args1 (evs tm [x]) (fun x => x.onM .no .no (fun r => (st.at r).onMap .no (fun _ c => .ok un (st.put r (.map [] c)))))).bnd False S
      show ((ev tm x).onM R.no .no (fun r => (st.at r).onMap .no (fun _ c => .ok un (st.put r (.map [] c))))).bnd False S
      rw [h1]
      show ((st.at m).onMap R.no (fun _ c => .ok un (st.put m (.map [] c)))).bnd False S
      rw [h2]; exact h3
    have e1 : σc.at cb = .cells cs ct := (o1 cb bcb (Ne.symm nkc')).trans hcb
    have e2 : σc.at rb = .cells rs rt := (o1 rb brb (Ne.symm nkr')).trans hrb
    simp [r_pmem_Region_Fencec1R4, hI.t0, e1, hcs, e2, hm]
    refine hcl _ _ _ _ (by simp) hcm ?_
    simp
  refine reg_wp FTk_ok fd4 w4 r2 r3 fun tm4 σ4 q4 ι4 a4 w4' t1 t2 t3 => ?_
  refine leaves_ok (σ := σ4) hmOK hR.snapLt a4.defers t3.defers (hS.trans t1) t2 fun w5 u1 u2 => ?_
  refine ⟨.tuple #[], ?_, _, rfl, ι4, u1, ?_, .un _⟩
  · have hrs : Tryz.f257.results = #[] := by kernel_rfl
    simp [results, hrs]
  · -- the same store
    have hlen : D.length ≤ es.length := by have := hI.cnt; omega
    have k1 := u2.kill σ.nx (by rw [q4, St.nx_put, hI.nx]; omega)
    refine k1.congr (fun p => ?_) ?_
    · rw [St.at_adv, St.at_put, St.at_put, St.at_put, q4, St.at_put]
      by_cases h1 : p = σ.nx
      · subst h1
        rw [if_pos rfl, if_neg (fun e => by rw [← e] at bm; omega), if_neg (fun e => by rw [← e] at bkb; omega)]
        exact hR.out _ (Nat.le_refl _)
      · rw [if_neg h1]
        by_cases h2 : p = m
        · rw [if_pos h2, if_pos h2]
        · rw [if_neg h2, if_neg h2]
          by_cases h3 : p = kb
          · rw [if_pos h3, h3, hI.kept]
          · rw [if_neg h3]
            rcases Nat.lt_or_ge p.num σ.nx.num with x | x
            · exact (o1 p x h3).symm
            · rw [hR.out p x, hI.dead p (by
                have : p.num ≠ σ.nx.num := fun e => h1 (Pos.num_inj e)
                omega)]
    · rw [St.nx_put, q4, St.nx_put, hI.nx, St.nx_adv, St.nx_put, St.nx_put, len_eq]
      show _ ≤ σ.nx.num + (1 + 2 * es.length)
      omega
end Den
