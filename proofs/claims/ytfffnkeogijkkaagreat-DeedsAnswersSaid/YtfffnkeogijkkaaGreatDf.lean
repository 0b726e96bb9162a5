/- Lines that are kept in any order. (The same text serves every seat.) -/
import Derived.Test.YtfffnkeogijkkaaGreatDd
import Derived.Test.YtfffnkeogijkkaaGreatWe
import Derived.Maps.RangeRun
set_option linter.unusedVariables false
set_option linter.unusedSimpArgs false
set_option linter.unusedSectionVars false
set_option linter.constructorNameAsVariable false
namespace Den
open Go
open Go.ChangeMaps (setBlock)

/-! lines -/
abbrev Ln := Nat × List V
noncomputable def lnOf (e : V × V × Nat) : Ln := ((match e.1 with | .i _ (.ofNat a) => a | _ => 0), (match e.2.1 with | .ag l => l.lst | _ => []))
structure LineOk (kn clock : Nat) (e : V × V × Nat) : Prop where
  key : ∃ k, e.1 = .i k ((lnOf e).1 : Int)
  val : ∃ l, e.2.1 = .ag l ∧ l.lst = (lnOf e).2
  len : (lnOf e).2.length = 8
  one : ∀ x ∈ (lnOf e).2, x.one = true
  al : (lnOf e).1 % 8 = 0
  le : (lnOf e).1 + 8 ≤ kn
  born : e.2.2 < clock
theorem lineOf_some {β : Type} {e : V × V × Nat} {no : β} {k : Nat → List V → Nat → β} : (∃ a l b, (∃ kk, e.1 = .i kk (Int.ofNat a)) ∧ (∃ L, e.2.1 = .ag L ∧ L.lst = l) ∧ e.2.2 = b ∧ lineOf e no k = k a l b) ∨ lineOf e no k = no := by
  obtain ⟨x, y, b⟩ := e
  cases x <;> first | exact .inr rfl | skip
  rename_i kk n
  cases n with
  | negSucc m => exact .inr rfl
  | ofNat a =>
    cases y <;> first | exact .inr rfl | skip
    exact .inl ⟨a, _, b, ⟨kk, rfl⟩, ⟨_, rfl, rfl⟩, rfl, rfl⟩
theorem memN_iff {n : Nat} {l : List Nat} : memN n l = true ↔ n ∈ l := by
  induction l with
  | nil => exact ⟨(fun h => by cases h), (fun h => by cases h)⟩
  | cons x l ih =>
    show cond (Nat.beq x n) true (memN n l) = true ↔ _
    cases hb : Nat.beq x n with
    | true => have := Nat.eq_of_beq_eq_true hb; subst this; simp
    | false =>
      have hne : x ≠ n := fun e => by subst e; simp at hb
      show memN n l = true ↔ _
      rw [ih]; simp [Ne.symm hne]
theorem ones_iff {l : List V} : ones l = true ↔ ∀ x ∈ l, x.one = true := by
  induction l with
  | nil => exact ⟨(fun _ _ h => by cases h), fun _ => rfl⟩
  | cons x l ih =>
    show (x.one && ones l) = true ↔ _
    rw [Bool.and_eq_true, ih]; simp
theorem linesOk_ok {clock kn : Nat} : ∀ {es : List (V × V × Nat)} {as bs : List Nat}, linesOk clock kn es as bs = true → (∀ e ∈ es, LineOk kn clock e) ∧ (es.map fun e => (lnOf e).1).Nodup ∧ (es.map fun e => e.2.2).Nodup ∧
    (∀ e ∈ es, (lnOf e).1 ∉ as) ∧ (∀ e ∈ es, e.2.2 ∉ bs)
  | [], as, bs, _ => by simp
  | e :: es, as, bs, h => by
    change lineOf e false (fun a l born => and (and (Nat.beq (len l) 8) (ones l)) (and (and (Nat.beq (Nat.mod a 8) 0) (Nat.ble (Nat.add a 8) kn))
      (and (and (not (memN a as)) (not (memN born bs))) (and (Nat.blt born clock) (linesOk clock kn es (a :: as) (born :: bs)))))) = true at h
    rcases lineOf_some (e := e) (no := false) (k := fun a l born => and (and (Nat.beq (len l) 8) (ones l)) (and (and (Nat.beq (Nat.mod a 8) 0) (Nat.ble (Nat.add a 8) kn))
      (and (and (not (memN a as)) (not (memN born bs))) (and (Nat.blt born clock) (linesOk clock kn es (a :: as) (born :: bs)))))) with ⟨a, l, b, ⟨kk, h1⟩, ⟨L, h2, h2'⟩, h3, h4⟩ | h4
    · rw [h4] at h
      simp only [Bool.and_eq_true, Bool.not_eq_true'] at h
      obtain ⟨⟨g1, g2⟩, ⟨g3, g4⟩, ⟨g5, g6⟩, g7, g8⟩ := h
      have hl : lnOf e = (a, l) := by simp [lnOf, h1, h2, h2']
      obtain ⟨i1, i2, i3, i4, i5⟩ := linesOk_ok g8
      have g1' := Nat.eq_of_beq_eq_true g1
      rw [len_eq] at g1'
      have g3' : a % 8 = 0 := Nat.eq_of_beq_eq_true g3
      have g4' : a + 8 ≤ kn := Nat.le_of_ble_eq_true g4
      have g5' : a ∉ as := fun hm => by rw [memN_iff.2 hm] at g5; cases g5
      have g6' : b ∉ bs := fun hm => by rw [memN_iff.2 hm] at g6; cases g6
      have g7' : b < clock := by simpa [Nat.blt_eq] using g7
      have me : LineOk kn clock e := ⟨⟨kk, by rw [hl]; exact h1⟩, ⟨L, h2, by rw [hl]; exact h2'⟩, by rw [hl]; exact g1', by rw [hl]; exact ones_iff.1 g2, by rw [hl]; exact g3', by rw [hl]; exact g4', by rw [h3]; exact g7'⟩
      refine ⟨fun x hx => ?_, ?_, ?_, fun x hx => ?_, fun x hx => ?_⟩
      · rcases List.mem_cons.1 hx with rfl | hx
        · exact me
        · exact i1 x hx
      · rw [List.map_cons]
        refine List.nodup_cons.2 ⟨fun hm => ?_, i2⟩
        obtain ⟨x, hx, e1⟩ := List.mem_map.1 hm
        exact i4 x hx (by rw [e1, hl]; simp)
      · rw [List.map_cons]
        refine List.nodup_cons.2 ⟨fun hm => ?_, i3⟩
        obtain ⟨x, hx, e1⟩ := List.mem_map.1 hm
        exact i5 x hx (by rw [e1, h3]; simp)
      · rcases List.mem_cons.1 hx with rfl | hx
        · rw [hl]; exact g5'
        · intro hm; exact i4 x hx (by simp [hm])
      · rcases List.mem_cons.1 hx with rfl | hx
        · rw [h3]; exact g6'
        · intro hm; exact i5 x hx (by simp [hm])
    · rw [h4] at h; cases h

/-- cells, with lines put over them. -/
structure Char (ko : Nat) (kcs : List V) (D : List Ln) (cs : List V) : Prop where
  len : cs.length = kcs.length
  on : ∀ a l i, (a, l) ∈ D → i < 8 → cs[ko + a + i]? = l[i]?
  off : ∀ j, (∀ a l, (a, l) ∈ D → ¬ (ko + a ≤ j ∧ j < ko + a + 8)) → cs[j]? = kcs[j]?
theorem Char.nil (ko : Nat) (kcs : List V) : Char ko kcs [] kcs := ⟨rfl, fun _ _ _ h => by simp at h, fun _ _ => rfl⟩
def putL (ko a : Nat) (l cs : List V) : List V := cs.take (ko + a) ++ (l ++ cs.drop (ko + a + 8))
theorem putL_get {ko a : Nat} {l cs : List V} (hl : l.length = 8) (hle : ko + a + 8 ≤ cs.length) (j : Nat) : (putL ko a l cs)[j]? = if ko + a ≤ j ∧ j < ko + a + 8 then l[j - (ko + a)]? else cs[j]? := by
  unfold putL
  by_cases h1 : j < ko + a
  · rw [if_neg (by omega), List.getElem?_append_left (by simp; omega), List.getElem?_take_of_lt h1]
  · rw [List.getElem?_append_right (by simp; omega)]
    have ht : (List.take (ko + a) cs).length = ko + a := by simp; omega
    rw [ht]
    by_cases h2 : j < ko + a + 8
    · rw [if_pos (by omega), List.getElem?_append_left (by omega)]
    · rw [if_neg (by omega), List.getElem?_append_right (by omega), List.getElem?_drop]
      congr 1; omega
theorem Char.cons {ko : Nat} {kcs cs : List V} {D : List Ln} (h : Char ko kcs D cs) {a : Nat} {l : List V} (hl : l.length = 8) (ha : a % 8 = 0) (hle : ko + a + 8 ≤ kcs.length) (hD : ∀ a' l', (a', l') ∈ D → a' % 8 = 0 ∧ a' ≠ a) :
    Char ko kcs ((a, l) :: D) (putL ko a l cs) := by
  have hle' : ko + a + 8 ≤ cs.length := by rw [h.len]; exact hle
  refine ⟨?_, fun a' l' i hm hi => ?_, fun j hj => ?_⟩
  · have := h.len; unfold putL; simp; omega
  · rw [putL_get hl hle']
    rcases List.mem_cons.1 hm with he | hm
    · cases he
      rw [if_pos (by omega)]; congr 1; omega
    · have := hD a' l' hm
      rw [if_neg (by omega)]
      exact h.on a' l' i hm hi
  · rw [putL_get hl hle', if_neg (hj a l (by simp))]
    exact h.off j fun a' l' hm => hj a' l' (by simp [hm])
theorem Char.uniq {ko : Nat} {kcs cs cs' : List V} {D D' : List Ln} (h : Char ko kcs D cs) (h' : Char ko kcs D' cs') (hm : ∀ x, x ∈ D ↔ x ∈ D') : cs = cs' := by
  refine List.ext_getElem? fun j => ?_
  by_cases hj : ∃ a l, (a, l) ∈ D ∧ ko + a ≤ j ∧ j < ko + a + 8
  · obtain ⟨a, l, h1, h2, h3⟩ := hj
    have e1 := h.on a l (j - (ko + a)) h1 (by omega)
    have e2 := h'.on a l (j - (ko + a)) ((hm _).1 h1) (by omega)
    rw [show ko + a + (j - (ko + a)) = j by omega] at e1 e2
    rw [e1, e2]
  · rw [h.off j fun a l hd hh => hj ⟨a, l, hd, hh⟩, h'.off j fun a l hd hh => hj ⟨a, l, (hm _).2 hd, hh⟩]
theorem Char.perm {ko : Nat} {kcs cs : List V} {D D' : List Ln} (h : Char ko kcs D cs) (hm : ∀ x, x ∈ D ↔ x ∈ D') : Char ko kcs D' cs :=
  ⟨h.len, fun a l i h1 h2 => h.on a l i ((hm _).2 h1) h2, fun j hj => h.off j fun a l hd => hj a l ((hm _).1 hd)⟩
theorem linesPut_char {ko kn clock : Nat} {kcs : List V} : ∀ {es : List (V × V × Nat)} {D : List Ln} {cs cs' : List V}, (∀ e ∈ es, LineOk kn clock e) → (es.map fun e => (lnOf e).1).Nodup → (∀ a l, (a, l) ∈ D → a % 8 = 0 ∧ ∀ e ∈ es, (lnOf e).1 ≠ a) →
    Char ko kcs D cs → linesPut ko es cs = .ok cs' → Char ko kcs (es.map lnOf ++ D) cs' ∧ ∀ e ∈ es, ko + (lnOf e).1 + 8 ≤ kcs.length
  | [], D, cs, cs', _, _, _, hc, h => by cases h; exact ⟨hc, by simp⟩
  | e :: es, D, cs, cs', ho, hn, hd, hc, h => by
    have me := ho e (by simp)
    obtain ⟨kk, hk⟩ := me.key
    obtain ⟨L, hL, hL'⟩ := me.val
    have hh : linesPut ko (e :: es) cs = (setsAt cs (ko + (lnOf e).1) (lnOf e).2).bnd .no (linesPut ko es) := by
      have key : ∀ (x y : V) (b a : Nat) (l : List V), x = .i kk (a : Int) → y = .ag L → L.lst = l → linesPut ko ((x, y, b) :: es) cs = (setsAt cs (ko + a) l).bnd .no (linesPut ko es) := by
        intro x y b a l h1 h2 h3; subst h1; subst h2; subst h3; rfl
      exact key e.1 e.2.1 e.2.2 _ _ hk hL hL'
    rw [hh] at h
    obtain ⟨c1, k1, k2⟩ := ol_ok' h
    obtain ⟨g1, g2, _⟩ := setsAt_ok _ _ _ _ k1
    rw [me.len] at g1 g2
    rw [List.map_cons] at hn
    obtain ⟨n1, n2⟩ := List.nodup_cons.1 hn
    have hc1 : Char ko kcs (lnOf e :: D) c1 := by
      rw [g2]
      exact hc.cons me.len me.al (by rw [← hc.len]; exact g1) fun a' l' hm => ⟨(hd a' l' hm).1, fun e2 => (hd a' l' hm).2 e (by simp) e2.symm⟩
    obtain ⟨r1, r2⟩ := linesPut_char (es := es) (D := lnOf e :: D) (fun x hx => ho x (by simp [hx])) n2 (fun a l hm => by
      rcases List.mem_cons.1 hm with he | hm
      · have e1 : a = (lnOf e).1 := congrArg Prod.fst he
        subst e1
        exact ⟨me.al, fun x hx e2 => n1 (List.mem_map.2 ⟨x, hx, e2⟩)⟩
      · exact ⟨(hd a l hm).1, fun x hx => (hd a l hm).2 x (by simp [hx])⟩) hc1 k2
    refine ⟨r1.perm fun x => ?_, fun x hx => ?_⟩
    · simp only [List.map_cons, List.mem_append, List.mem_cons]
      refine ⟨fun h => ?_, fun h => ?_⟩
      · rcases h with h | h | h
        · exact .inl (.inr h)
        · exact .inl (.inl h)
        · exact .inr h
      · rcases h with (h | h) | h
        · exact .inr (.inl h)
        · exact .inl h
        · exact .inr (.inr h)
    · rcases List.mem_cons.1 hx with rfl | hx
      · rw [← hc.len]; exact g1
      · exact r2 x hx
theorem ER.mem {ι : Inj} {es : List (V × V × Nat)} {l : List MapEntry} (h : ER ι es l) {e : MapEntry} (he : e ∈ l) : ∃ k v n, (k, v, n) ∈ es ∧ VR ι k e.key ∧ VR ι v e.val ∧ e.born = n := by
  induction h with
  | nil => simp at he
  | cons a b c _ ih =>
    rcases List.mem_cons.1 he with rfl | he
    · exact ⟨_, _, _, by simp, a, b, c⟩
    · obtain ⟨k, v, n, h1, h2⟩ := ih he
      exact ⟨k, v, n, by simp [h1], h2⟩
theorem ER.mem' {ι : Inj} {es : List (V × V × Nat)} {l : List MapEntry} (h : ER ι es l) {x : V × V × Nat} (hx : x ∈ es) : ∃ e ∈ l, e.born = x.2.2 := by
  induction h with
  | nil => simp at hx
  | cons a b c _ ih =>
    rcases List.mem_cons.1 hx with rfl | hx
    · exact ⟨_, by simp, c⟩
    · obtain ⟨e, h1, h2⟩ := ih hx
      exact ⟨e, by simp [h1], h2⟩
theorem ER.borns {ι : Inj} {es : List (V × V × Nat)} {l : List MapEntry} (h : ER ι es l) : l.map (·.born) = es.map fun e => e.2.2 := by
  induction h with
  | nil => rfl
  | cons a b c _ ih => simp [ih, c]
theorem Rel.congr {CR : CRel} {ι : Inj} {σ σ' : St} {w : World} (h : Rel CR ι σ w) (ha : ∀ p, σ'.at p = σ.at p) (hn : σ.nx.num ≤ σ'.nx.num) : Rel CR ι σ' w :=
  ⟨fun p l e => Nat.lt_of_lt_of_le (h.dom p l e) hn, fun p hp => by rw [ha]; exact h.out p (by omega), fun p B d X hp hd => by rw [ha] at hd ⊢; exact h.obj p B d X hp hd,
    fun p q B d X d' X' hp hq h1 h2 => h.inj p q B d X d' X' hp hq (by rw [← ha]; exact h1) (by rw [← ha]; exact h2), h.lt, fun p B d X hp hz hd => by rw [ha] at hd ⊢; exact h.ro p B d X hp hz hd, h.snap⟩
/-- how many are left. -/
def leftN (es : List (V × V × Nat)) (seen : List Nat) : Nat := (es.filter fun e => !seen.contains e.2.2).length
theorem leftN_step : ∀ {es : List (V × V × Nat)} {seen : List Nat} {b : Nat}, (es.map fun e => e.2.2).Nodup → (∃ e ∈ es, e.2.2 = b) → b ∉ seen → leftN es (seen ++ [b]) + 1 = leftN es seen
  | [], _, _, _, h, _ => by simp at h
  | e :: es, seen, b, hn, h, hb => by
    rw [List.map_cons] at hn
    obtain ⟨n1, n2⟩ := List.nodup_cons.1 hn
    by_cases he : e.2.2 = b
    · have hno : ∀ x ∈ es, x.2.2 ≠ b := fun x hx e1 => n1 (List.mem_map.2 ⟨x, hx, by rw [e1, he]⟩)
      have e1 : (es.filter fun x => !(seen ++ [b]).contains x.2.2) = es.filter fun x => !seen.contains x.2.2 := by
        refine List.filter_congr fun x hx => ?_
        have := hno x hx
        simp [this]
      have h1 : (!(seen ++ [b]).contains e.2.2) = false := by simp [he]
      have h2 : (!seen.contains e.2.2) = true := by simp [he, hb]
      unfold leftN
      rw [List.filter_cons_of_neg (by rw [h1]; simp), List.filter_cons_of_pos (p := fun (x : V × V × Nat) => !seen.contains x.2.2) h2, e1]; simp
    · have ih := leftN_step (seen := seen) n2 (by obtain ⟨x, hx, e1⟩ := h; rcases List.mem_cons.1 hx with rfl | hx; exact absurd e1 he; exact ⟨x, hx, e1⟩) hb
      have h1 : (!(seen ++ [b]).contains e.2.2) = (!seen.contains e.2.2) := by simp [he]
      unfold leftN at ih ⊢
      cases hc : (!seen.contains e.2.2) with
      | true => rw [List.filter_cons_of_pos (by rw [h1]; exact hc), List.filter_cons_of_pos (p := fun (x : V × V × Nat) => !seen.contains x.2.2) hc, List.length_cons, List.length_cons]; omega
      | false => rw [List.filter_cons_of_neg (by rw [h1, hc]; simp), List.filter_cons_of_neg (p := fun (x : V × V × Nat) => !seen.contains x.2.2) (by rw [hc]; simp)]; exact ih
end Den
