/- Where there is a walk over all edges, one is told, from the least node that has an edge, and it is one; where there is none, the error and the node are the document's: at every graph, directed or not. -/
import Derived.Test.YtplbkggdnonfbaaQ14
import Derived.Test.YtplbkggdnonfbaaQ18
import Derived.Test.YtplbkggdnonfbaaQ20
import Derived.Test.YtplbkggdnonfbaaQ25
import Derived.KernelRfl
import Derived.Test.YtplbkggdnonfbaaEven
import Derived.Test.YtplbkggdnonfbaaPartsRef
namespace Go.Proofs.Ytplbkggdnonfbaa.Pure
open Go.RowKit Go.Proofs.Ytplbkggdnonfbaa.Q Go.Proofs.Ytplbkggdnonfbaa.G Go.Proofs.YtplbkggdnonfbaaW.PrintWords Go.Proofs.YtplbkggdnonfbaaW.PrintLast
set_option linter.unusedVariables false

theorem awake_f : Evl (fun k => compasslaw09_awake.f k) true := Evl.mono (k0 := 100) (by kernel_rfl) (fun k => compasslaw09_awake.mono k)

theorem has_iff (E : List S45) (v : Int) : Has E v ↔ 0 < dout E v + din E v := by
  constructor
  · rintro ⟨i, i0, i1, h⟩
    rcases h with h | h
    · have : 0 < dout E v := List.countP_pos_iff.mpr ⟨i, (mem_rng _ _).mpr ⟨i0, i1⟩, by simpa using h⟩
      omega
    · have : 0 < din E v := List.countP_pos_iff.mpr ⟨i, (mem_rng _ _).mpr ⟨i0, i1⟩, by simpa using h⟩
      omega
  · intro h
    by_cases d : 0 < dout E v
    · obtain ⟨i, hi, e⟩ := List.countP_pos_iff.mp d
      obtain ⟨i0, i1⟩ := (mem_rng _ _).mp hi
      exact ⟨i, i0, i1, Or.inl (by simpa using e)⟩
    · have d' : 0 < din E v := by omega
      obtain ⟨i, hi, e⟩ := List.countP_pos_iff.mp d'
      obtain ⟨i0, i1⟩ := (mem_rng _ _).mp hi
      exact ⟨i, i0, i1, Or.inr (by simpa using e)⟩
theorem sum_fit (n : Int) (E : List S45) (hR : Right n E) (v : Int) : wrap64 ((dout E v : Int) + (din E v : Int)) = (dout E v : Int) + (din E v : Int) := by
  have m1 := hR.m1
  have bo := po_le E E.length v
  have bi := pi_le E E.length v
  have eo : dout E v = po E E.length v := rfl
  have ei : din E v = pi E E.length v := rfl
  unfold wrap64; omega

/-- The least node with an edge; 0: none. -/
def Fst (n : Int) (E : List S45) (r : Int) : Prop := (r = 0 ∧ ∀ v, 0 ≤ v → v < n → ¬ Has E v) ∨ (0 ≤ r ∧ r < n ∧ Has E r ∧ ∀ u, 0 ≤ u → u < r → ¬ Has E u)
theorem first_f (n : Int) (E : List S45) (hR : Right n E) : ∃ r, Evl (fun k => compassref09_First.f k n E) r ∧ Fst n E r := by
  have n0 := hR.n0
  have n1 := hR.n1
  have loop : ∀ (q : Nat) (v : Int), 0 ≤ v → v + q = n → (∀ u, 0 ≤ u → u < v → ¬ Has E u) → ∃ r, Evl (fun k => compassref09_First.l0 k v n E) r ∧ Fst n E r := by
    intro q
    induction q with
    | zero => intro v v0 hv h; exact ⟨0, Evl.here fun k => by rw [compassref09_First.l0, if_neg (by omega)], Or.inl ⟨rfl, fun u a b => h u a (by omega)⟩⟩
    | succ q ih =>
      intro v v0 hv h
      have D := degrees_f n E hR.m1 v
      have ws := sum_fit n E hR v
      by_cases hh : Has E v
      · have := (has_iff E v).mp hh
        refine ⟨v, (Evl.bind D (h := fun k bt345 => (if (wrap64 (bt345.1 + bt345.2)) > 0 then (some v) else (compassref09_First.l0 k (wrap64 (v + 1)) n E))) (Evl.pure.congr fun k => ?_)).step fun k => by rw [compassref09_First.l0, if_pos (by omega)], Or.inr ⟨v0, by omega, hh, h⟩⟩
        dsimp only
        rw [ws, if_pos (by omega)]
      · obtain ⟨r, H, hr⟩ := ih (v + 1) (by omega) (by omega) (fun u a b => by
          by_cases e : u = v
          · rw [e]; exact hh
          · exact h u a (by omega))
        have : ¬ 0 < dout E v + din E v := fun c => hh ((has_iff E v).mpr c)
        refine ⟨r, (Evl.bind D (h := fun k bt345 => (if (wrap64 (bt345.1 + bt345.2)) > 0 then (some v) else (compassref09_First.l0 k (wrap64 (v + 1)) n E))) (H.congr fun k => ?_)).step fun k => by rw [compassref09_First.l0, if_pos (by omega)], hr⟩
        dsimp only
        rw [ws, if_neg (by omega), w1 (by omega) (by omega)]
  obtain ⟨r, H, hr⟩ := loop n.toNat 0 (Int.le_refl 0) (by omega) (fun u a b => by omega)
  exact ⟨r, H.congr fun k => rfl, hr⟩

/-- The document's Tour where no node is odd: behind the loop over all nodes. -/
theorem ref_odd (n : Int) (E : List S45) (hR : Right n E) (d : Bool) (r : Int × Int × Int) (h : (∀ u, 0 ≤ u → u < n → ¬ Odd E d u) → Evl (fun k => (compassref09_First.f k n E).bind fun t378 => ((compassref04_Parts.f k n E).bind fun bt379 => (compassref09_Tour.l1 k t378 bt379.1 0 n E))) r)
    (ho : (∃ v, r = (0, v, 90) ∧ 0 ≤ v ∧ v < n ∧ Odd E d v ∧ ∀ u, 0 ≤ u → u < v → ¬ Odd E d u) ∨ ∀ u, 0 ≤ u → u < n → ¬ Odd E d u) : Evl (fun k => compassref09_Tour.f k n E d) r := by
  have n0 := hR.n0
  have n1 := hR.n1
  obtain ⟨c, a, -, C2, -, -, hz⟩ := check_f n E
  obtain rfl := hz hR
  have loop : ∀ (q : Nat) (v : Int), 0 ≤ v → v + q = n → (∀ u, 0 ≤ u → u < v → ¬ Odd E d u) → Evl (fun k => compassref09_Tour.l0 k d v n E) r := by
    intro q
    induction q with
    | zero =>
      intro v v0 hv hl
      exact (h (fun u a b => hl u a (by omega))).step fun k => by rw [compassref09_Tour.l0, if_neg (by omega)]
    | succ q ih =>
      intro v v0 hv hl
      have D := degrees_f n E hR.m1 v
      have ws := sum_fit n E hR v
      refine (Evl.bind D (h := fun k bt376 => (if d = true then (if bt376.1 = bt376.2 then (compassref09_Tour.l0 k d (wrap64 (v + 1)) n E) else (some (0, v, 90))) else (if (Int.tmod (wrap64 (bt376.1 + bt376.2)) 2) = 1 then (some (0, v, 90)) else (compassref09_Tour.l0 k d (wrap64 (v + 1)) n E)))) ?_).step fun k => by rw [compassref09_Tour.l0, if_pos (by omega)]
      by_cases o : Odd E d v
      · have e : r = (0, v, 90) := by
          rcases ho with ⟨u, e, u0, u1, uo, ul⟩ | hn
          · rw [e]
            have a1 : ¬ u < v := fun c => hl u u0 c uo
            have a2 : ¬ v < u := fun c => ul v v0 c o
            rw [show u = v by omega]
          · exact absurd o (hn v v0 (by omega))
        rw [e]
        refine Evl.pure.congr fun k => ?_
        dsimp only
        unfold Odd at o
        by_cases hd : d = true
        · rw [if_pos hd] at o ⊢
          rw [if_neg (by omega)]
        · rw [if_neg hd] at o ⊢
          rw [ws, Int.tmod_eq_emod_of_nonneg (by omega), if_pos (by omega)]
      · refine (ih (v + 1) (by omega) (by omega) (fun u a b => by
          by_cases e : u = v
          · rw [e]; exact o
          · exact hl u a (by omega))).congr fun k => ?_
        dsimp only
        unfold Odd at o
        by_cases hd : d = true
        · rw [if_pos hd] at o ⊢
          rw [if_pos (by omega), w1 (by omega) (by omega)]
        · rw [if_neg hd] at o ⊢
          rw [ws, Int.tmod_eq_emod_of_nonneg (by omega), if_neg (by omega), w1 (by omega) (by omega)]
  refine (Evl.bind C2 (h := fun k bt374 => (if bt374.1 = 0 then (compassref09_Tour.l0 k d 0 n E) else (some (0, 0, bt374.1)))) ?_).congr fun k => rfl
  exact (loop n.toNat 0 (Int.le_refl 0) (by omega) (fun u a b => by omega)).congr fun k => by rw [if_pos rfl]

/-- .. and the loop that looks for a node of another part. -/
theorem ref_apart (n : Int) (E : List S45) (hR : Right n E) (f : Int) (hf : Fst n E f) (P : List Int) (hP : (P.length : Int) = n) (hs : ∀ u v, 0 ≤ u → u < n → 0 ≤ v → v < n → (rd P u = rd P v ↔ Conn E u v)) (r : Int × Int × Int)
    (hr : (∃ v, r = (0, v, 91) ∧ 0 ≤ v ∧ v < n ∧ Has E v ∧ ¬ Conn E v f ∧ ∀ u, 0 ≤ u → u < v → Has E u → Conn E u f) ∨ (r = (f, 0, 0) ∧ ∀ u, Has E u → Conn E u f)) (q : Nat) : ∀ v : Int, 0 ≤ v → v + q = n → (∀ u, 0 ≤ u → u < v → Has E u → Conn E u f) →
    Evl (fun k => compassref09_Tour.l1 k f P v n E) r := by
  have n0 := hR.n0
  have n1 := hR.n1
  have fr : ∀ v, 0 ≤ v → v < n → Has E v → 0 ≤ f ∧ f < n := fun v a b h => by
    rcases hf with ⟨-, hn⟩ | ⟨f0, f1, -, -⟩
    · exact absurd h (hn v a b)
    · exact ⟨f0, f1⟩
  induction q with
  | zero =>
    intro v v0 hv hl
    have e : r = (f, 0, 0) := by
      rcases hr with ⟨u, e, u0, u1, uh, uc, -⟩ | ⟨e, -⟩
      · exact absurd (hl u u0 (by omega) uh) uc
      · exact e
    rw [e]
    exact Evl.here fun k => by rw [compassref09_Tour.l1, if_neg (by omega)]
  | succ q ih =>
    intro v v0 hv hl
    have v1 : v < n := by omega
    have D := degrees_f n E hR.m1 v
    have ws := sum_fit n E hR v
    refine (Evl.bind D (h := fun k bt383 => (if (wrap64 (bt383.1 + bt383.2)) > 0 then (if 0 ≤ v then (if v < (P.length : Int) then (if 0 ≤ f then (if f < (P.length : Int) then (if (rd P v) = (rd P f) then (compassref09_Tour.l1 k f P (wrap64 (v + 1)) n E) else (some (0, v, 91))) else (none)) else (none)) else (none)) else (none)) else (compassref09_Tour.l1 k f P (wrap64 (v + 1)) n E))) ?_).step fun k => by rw [compassref09_Tour.l1, if_pos v1]
    by_cases hh : Has E v
    · obtain ⟨f0, f1⟩ := fr v v0 v1 hh
      have hpos := (has_iff E v).mp hh
      by_cases c : Conn E v f
      · refine (ih (v + 1) (by omega) (by omega) (fun u a b hu => by
          by_cases e : u = v
          · rw [e]; exact c
          · exact hl u a (by omega) hu)).congr fun k => ?_
        dsimp only
        rw [ws, if_pos (by omega), if_pos v0, if_pos (by omega), if_pos f0, if_pos (by omega), if_pos ((hs v f v0 v1 f0 f1).mpr c), w1 (by omega) (by omega)]
      · have e : r = (0, v, 91) := by
          rcases hr with ⟨u, e, u0, u1, uh, uc, ul⟩ | ⟨-, all⟩
          · have a1 : ¬ u < v := fun x => uc (hl u u0 x uh)
            have a2 : ¬ v < u := fun x => c (ul v v0 x hh)
            rw [e, show u = v by omega]
          · exact absurd (all v hh) c
        rw [e]
        refine Evl.pure.congr fun k => ?_
        dsimp only
        rw [ws, if_pos (by omega), if_pos v0, if_pos (by omega), if_pos f0, if_pos (by omega), if_neg (fun x => c ((hs v f v0 v1 f0 f1).mp x))]
    · have hpos : ¬ 0 < dout E v + din E v := fun c => hh ((has_iff E v).mpr c)
      refine (ih (v + 1) (by omega) (by omega) (fun u a b hu => by
        by_cases e : u = v
        · rw [e] at hu; exact absurd hu hh
        · exact hl u a (by omega) hu)).congr fun k => ?_
      dsimp only
      rw [ws, if_neg (by omega), w1 (by omega) (by omega)]

theorem EulerTours (n : Int) (E : List S45) (d : Bool) : ∃ k, compasslaw09_EulerTours.f k n E d = some true := by
  obtain ⟨s, l, v, c, T, h⟩ := tour_f n E d
  refine Evl.at (r := true) (g := fun k => compasslaw09_EulerTours.f k n E d) ?_
  have top : Evl (fun k => compassref09_Tour.f k n E d) (s, v, c) → Evl (fun k => compasslaw09_EulerTours.j0 k d c false n E s l) true → Evl (fun k => compasslaw09_EulerTours.f k n E d) true := fun B H => by
    refine (Evl.bind awake_f (h := fun k t411 => (if t411 = true then ((euler_Tour.f k n E d).bind fun bt412 => ((compassref09_Tour.f k n E d).bind fun bt419 => (if bt412.2.2.2 = bt419.2.2 then (if bt412.2.2.1 = bt419.2.1 then (compasslaw09_EulerTours.j0 k d bt419.2.2 (bt412.1 != bt419.1) n E bt412.1 bt412.2.1) else (compasslaw09_EulerTours.j0 k d bt419.2.2 true n E bt412.1 bt412.2.1)) else (compasslaw09_EulerTours.j0 k d bt419.2.2 true n E bt412.1 bt412.2.1)))) else (some false))) ?_).congr fun k => rfl
    refine Evl.congr (Evl.bind T (Evl.bind B (h := fun k bt419 => (if c = bt419.2.2 then (if v = bt419.2.1 then (compasslaw09_EulerTours.j0 k d bt419.2.2 (s != bt419.1) n E s l) else (compasslaw09_EulerTours.j0 k d bt419.2.2 true n E s l)) else (compasslaw09_EulerTours.j0 k d bt419.2.2 true n E s l))) (r := true) (H.congr fun k => ?_))) (fun k => by rw [if_pos rfl])
    dsimp only
    rw [if_pos rfl, if_pos rfl, bne_self_eq_false]
  rcases h with ⟨-, c0, c1, c2, rfl, rfl, rfl, a, C⟩ | ⟨hR, rfl, rfl, rfl, v0, v1, ov, lv⟩ | ⟨hR, rfl, rfl, rfl, v0, v1, hv, hn, p, P, p2, pv⟩ | ⟨hR, rfl, rfl, hg, hn, p, P, p2, ps, pl⟩
  · refine top ?_ (Evl.here fun k => ?_)
    · refine (Evl.bind C (h := fun k bt374 => (if bt374.1 = 0 then (compassref09_Tour.l0 k d 0 n E) else (some (0, 0, bt374.1)))) (Evl.pure.congr fun k => ?_)).congr fun k => rfl
      dsimp only
      rw [if_neg c0]
    · rw [compasslaw09_EulerTours.j0, if_neg (by simp), if_neg c0]; rfl
  · refine top (ref_odd n E hR d _ (fun hn => absurd ov (hn v v0 v1)) (Or.inl ⟨v, rfl, v0, v1, ov, lv⟩)) (Evl.here fun k => ?_)
    rw [compasslaw09_EulerTours.j0, if_neg (by simp), if_neg (by decide)]; rfl
  · obtain ⟨f, F, hf⟩ := first_f n E hR
    obtain ⟨Q, HQ, hQ, hs⟩ := parts04_f n E hR
    obtain ⟨p', P', hp⟩ := apart_f n E hR
    have ep := P.eq P'
    subst ep
    rcases hp with ⟨-, w0, w1', wh, ⟨g0, g1, gh, gl⟩, wc, wl⟩ | ⟨z, -⟩
    · have ef : f = p.1 := by
        rcases hf with ⟨-, no⟩ | ⟨f0, f1, fh, fl⟩
        · exact absurd gh (no _ g0 g1)
        · have a1 : ¬ f < p.1 := fun x => gl f f0 x fh
          have a2 : ¬ p.1 < f := fun x => fl _ g0 x gh
          omega
      have L := ref_apart n E hR f hf Q hQ hs (0, v, 91) (Or.inl ⟨v, rfl, v0, v1, hv, by rw [ef, pv]; exact wc, fun u a b hu => by rw [ef]; exact wl u a (by rw [← pv]; exact b) hu⟩) n.toNat 0 (Int.le_refl 0) (by omega) (fun u a b => by omega)
      refine top (ref_odd n E hR d _ (fun _ => Evl.bind F (Evl.bind HQ (h := fun k bt379 => compassref09_Tour.l1 k f bt379.1 0 n E) L)) (Or.inr hn)) (Evl.here fun k => ?_)
      rw [compasslaw09_EulerTours.j0, if_neg (by simp), if_neg (by decide)]; rfl
    · rw [z] at p2; cases p2
  · obtain ⟨f, F, hf⟩ := first_f n E hR
    obtain ⟨Q, HQ, hQ, hs⟩ := parts04_f n E hR
    obtain ⟨p', P', hp⟩ := apart_f n E hR
    have ep := P.eq P'
    subst ep
    have hasLen : ∀ u, Has E u → (E.length : Int) ≠ 0 := fun u ⟨i, a, b, _⟩ e => by omega
    have m1 := hR.m1
    have n0 := hR.n0
    have key : s = f ∧ ∀ u, Has E u → Conn E u f := by
      rcases hp with ⟨z, -⟩ | ⟨-, -, hc⟩
      · rw [z] at p2; cases p2
      · rcases hc with ⟨e, -⟩ | ⟨⟨g0, g1, gh, gl⟩, conn⟩
        · rw [if_pos e] at ps
          rcases hf with ⟨rfl, -⟩ | ⟨-, -, fh, -⟩
          · exact ⟨ps, fun u hu => absurd e (hasLen u hu)⟩
          · exact absurd e (hasLen _ fh)
        · rw [if_neg (hasLen _ gh)] at ps
          rcases hf with ⟨-, no⟩ | ⟨f0, f1, fh, fl⟩
          · exact absurd gh (no _ g0 g1)
          · have a1 : ¬ f < p.1 := fun x => gl f f0 x fh
            have a2 : ¬ p.1 < f := fun x => fl _ g0 x gh
            have ef : f = p.1 := by omega
            exact ⟨by rw [ps, ef], fun u hu => by rw [ef]; exact conn u hu⟩
    obtain ⟨rfl, hall⟩ := key
    have L := ref_apart n E hR s hf Q hQ hs (s, 0, 0) (Or.inr ⟨rfl, hall⟩) n.toNat 0 (Int.le_refl 0) (by omega) (fun u a b => by omega)
    refine top (ref_odd n E hR d _ (fun _ => Evl.bind F (Evl.bind HQ (h := fun k bt379 => compassref09_Tour.l1 k s bt379.1 0 n E) L)) (Or.inr hn)) ?_
    by_cases hz : n = 0
    · have e0 : (E.length : Int) = 0 := by
        refine Classical.byContradiction fun ne => ?_
        obtain ⟨a0, a1, -⟩ := hR.e 0 (Int.le_refl 0) (by omega)
        omega
      have el := pl e0
      refine Evl.here fun k => ?_
      rw [compasslaw09_EulerTours.j0, if_neg (by simp), if_pos rfl, if_pos hz, el]; rfl
    · have g := hg (by omega)
      have gl := g.len
      have hl : (l.length : Int) ≤ 8796093022208 := by omega
      have Pl := plain_f s l hl
      obtain ⟨b, C, D⟩ := covers_f n E s l hl d
      have eb := C.eq (covers_true n E hR d d s l g id)
      subst eb
      refine (Evl.bind Pl (h := fun k t426 => (compassref09_Covers.f k n E s t426 d).bind fun t429 => some t429) (Evl.bind D (h := fun k t429 => some t429) Evl.pure)).step fun k => ?_
      rw [compasslaw09_EulerTours.j0, if_neg (by simp), if_pos rfl, if_neg hz]
end Go.Proofs.Ytplbkggdnonfbaa.Pure
