/- The pure side of TermParts: what is made of terms has their bytes in it, and is deeper by one. -/
import Derived.Test.YtpfpmjdifnoeoaaB2
import Derived.Test.YtpfpmjdifnoeoaaF22
namespace Go.Proofs.Ytpfpmjdifnoeoaa.Pure
set_option linter.unusedVariables false
set_option linter.unusedSimpArgs false
open Go.RowKit Go.Proofs.Ytpfpmjdifnoeoaa.F Go.Proofs.YtpfpmjdifnoeoaaW.PrintWords Go.Proofs.YtpfpmjdifnoeoaaW.PrintLast Go.Proofs.YtpfpmjdifnoeoaaW.PrintMore

theorem made1 (l : List S169) (h : ∀ y ∈ l, (Lit.int .i64 y.f0).wf = true ∧ (Lit.int .i64 y.f1).wf = true ∧ (Lit.int .i64 y.f2).wf = true ∧ (Lit.int .i64 y.f3).wf = true) : ∃ out, gemotlaw1_made.f l = some out ∧ MadeOk out ∧ out.length ≤ 42 := by
  refine ⟨gemotlaw1_made.tmade l, ?_, madeT_ok _⟩
  unfold gemotlaw1_made.f
  exact if_pos fun x hx => ⟨rg64 (h x hx).1, rg64 (h x hx).2.1, rg64 (h x hx).2.2.1, rg64 (h x hx).2.2.2⟩
theorem pick1 {c n : Int} (h : (Lit.int .i64 c).wf = true) (h0 : 0 < n) (h1 : n ≤ 100000) : gemotlaw1_pick.f c n = some (pickF c n) := by
  have := rg64 h
  unfold gemotlaw1_pick.f
  rw [if_pos ⟨this.1, this.2, h0, by omega⟩]
  rfl
theorem dep2 {c : UInt8} {a b : ByteArray} (hh : HeadOf ⟨#[c]⟩ [a, b] false) (ha : Part 42 a) (hb : Part 42 b) : depF ((⟨#[c]⟩ : ByteArray) ++ cat [a, b]) = mx (depF a) (depF b) + 1 := by
  have n := (node_made (by decide) hh (mem2 ha hb) (fun h => absurd h (by simp)) (by decide)).1
  rw [n.tm.2]
  have := ha.dep1
  show mx (mx 0 (depF a)) (depF b) + 1 = _
  rw [show mx 0 (depF a) = depF a by unfold mx; rw [if_pos (by omega)]]
theorem dep1 {c : UInt8} {a : ByteArray} (hh : HeadOf ⟨#[c]⟩ [a] false) (ha : Part 42 a) : depF ((⟨#[c]⟩ : ByteArray) ++ cat [a]) = depF a + 1 := by
  have n := (node_made (by decide) hh (mem1 ha) (fun h => absurd h (by simp)) (by decide)).1
  rw [n.tm.2]
  have := ha.dep1
  show mx 0 (depF a) + 1 = _
  rw [show mx 0 (depF a) = depF a by unfold mx; rw [if_pos (by omega)]]
theorem parts_end (k : Nat) (a u : ByteArray) (hs : u.size ≤ 1000) (ha : a.size ≤ 600) : gemotlaw1_TermParts.j1 (k + 1) u a false = some true := by
  have f1 : term_Right.f u = some (rightB u) := by unfold term_Right.f; rw [if_pos (by omega)]
  have f2 : term_Depth.f u = some (depthF u) := by unfold term_Depth.f; rw [if_pos (by omega)]
  have f3 : term_Pair.f a u = some (pairF a u) := by unfold term_Pair.f; exact if_pos ⟨by omega, by omega⟩
  have f4 : term_Hash.f u = some (hashF u) := by unfold term_Hash.f; exact if_pos (by omega)
  rw [gemotlaw1_TermParts.j1, if_neg (by decide), f1, Option.bind_some]
  by_cases c : rightB u = true
  · have hd := ((right_iff u).mp c).1.dep
    rw [if_pos c, f2, Option.bind_some, depth_right c, decide_eq_true (by omega)]
  · have c' : rightB u = false := by simpa using c
    rw [if_neg c, f3, f4, Option.bind_some, Option.bind_some]
    unfold pairF hashF
    rw [ofF_bad (List.mem_cons_of_mem _ List.mem_cons_self) c', ofF_bad List.mem_cons_self c', if_pos rfl, if_pos (tl_nil.mpr rfl), if_pos rfl, if_pos (tl_nil.mpr rfl), f2, Option.bind_some, depth_not c']
    rfl
theorem TermParts : ∀ (l0 : List (S169)) (a1 : Int) (a2 : Int) (a3 : ByteArray), (l0.length ≤ 9223372036854775807 ∧ ∀ y ∈ l0, (Lit.int .i64 y.f0).wf = true ∧ (Lit.int .i64 y.f1).wf = true ∧ (Lit.int .i64 y.f2).wf = true ∧ (Lit.int .i64 y.f3).wf = true) → ((Lit.int .i64 a1).wf = true) → ((Lit.int .i64 a2).wf = true) → (a3.size ≤ 9223372036854775807) → ∃ k, gemotlaw1_TermParts.f k l0 a1 a2 a3 = some true := by
  intro l0 a1 a2 a3 hl h1 h2 _
  obtain ⟨out, ho, hm, hlen⟩ := made1 l0 hl.2
  refine ⟨3, ?_⟩
  unfold gemotlaw1_TermParts.f gemotlaw1_shown.f
  rw [Option.bind_some, if_pos rfl]
  by_cases c3 : (a3.size : Int) > 1000
  · rw [decide_eq_true c3]; rfl
  have h20 := hm.two
  have hpos : (0 : Int) < (out.length : Int) := by omega
  have r1 := pickF_range a1 hpos
  have r2 := pickF_range a2 hpos
  have ha := hm.at_ hlen a1
  have hb := hm.at_ hlen a2
  rw [decide_eq_false c3, gemotlaw1_TermParts.j0, if_neg (by decide), ho, Option.bind_some, pick1 h1 hpos (by omega), Option.bind_some, if_pos r1.1, if_pos r1.2, pick1 h2 hpos (by omega), Option.bind_some, if_pos r2.1, if_pos r2.2]
  rw [show rdOf ByteArray.empty out (pickF a1 out.length) = atF out (pickF a1 out.length) from rfl, show rdOf ByteArray.empty out (pickF a2 out.length) = atF out (pickF a2 out.length) from rfl]
  generalize atF out (pickF a1 out.length) = a at ha ⊢
  generalize atF out (pickF a2 out.length) = b at hb ⊢
  have sa := ha.2
  have sb := hb.2
  have x3 := sign_made (by decide) (by decide) ha.1 hb.1 (by omega)
  have x4 := hash_made (by decide) (by decide) ha.1 (by omega)
  have x5 := pair_made (by decide) (by decide) ha.1 hb.1 (by omega)
  have f3 : term_Sign.f a b = some (signF a b) := by unfold term_Sign.f; exact if_pos ⟨by omega, by omega⟩
  have f4 : term_Hash.f a = some (hashF a) := by unfold term_Hash.f; exact if_pos (by omega)
  have f5 : term_Pair.f a b = some (pairF a b) := by unfold term_Pair.f; exact if_pos ⟨by omega, by omega⟩
  have fd : ∀ t : ByteArray, t.size ≤ 20000 → term_Depth.f t = some (depthF t) := fun t h => by unfold term_Depth.f; rw [if_pos (by omega)]
  have z1 : ((⟨#[112]⟩ : ByteArray) ++ a).size = 1 + a.size := by rw [ByteArray.size_append]; rfl
  have z2 : ((⟨#[120]⟩ : ByteArray) ++ a).size = 1 + a.size := by rw [ByteArray.size_append]; rfl
  have da := ha.1.dep
  have db := hb.1.dep
  have da1 := ha.1.dep1
  have db1 := hb.1.dep1
  have hmx : 1 ≤ mx (depF a) (depF b) ∧ mx (depF a) (depF b) ≤ 42 := by unfold mx; split <;> omega
  have hw1 : wrap64 (1 + mx (depF a) (depF b)) = mx (depF a) (depF b) + 1 := by unfold wrap64; omega
  have hw2 : wrap64 (1 + depF a) = depF a + 1 := by unfold wrap64; omega
  have e1 : (⟨#[112]⟩ : ByteArray) ++ cat [a, b] = (⟨#[112]⟩ : ByteArray) ++ a ++ b := by rw [cat2, app_assoc]
  have e2 : (⟨#[120]⟩ : ByteArray) ++ cat [a, b] = (⟨#[120]⟩ : ByteArray) ++ a ++ b := by rw [cat2, app_assoc]
  have e3 : (⟨#[104]⟩ : ByteArray) ++ cat [a] = (⟨#[104]⟩ : ByteArray) ++ a := by rw [cat1]
  have d1 : depthF ((⟨#[112]⟩ : ByteArray) ++ a ++ b) = mx (depF a) (depF b) + 1 := by rw [← e1, depth_right x5.2.right]; exact dep2 (.pair a b) ha.1 hb.1
  have d2 : depthF ((⟨#[104]⟩ : ByteArray) ++ a) = depF a + 1 := by rw [← e3, depth_right x4.2.right]; exact dep1 (.hash a) ha.1
  have d3 := depth_right ha.1.right
  have d4 := depth_right hb.1.right
  rw [f5, f4, f3, x5.1, x4.1, x3.1, Option.bind_some, Option.bind_some, Option.bind_some, if_pos rfl, if_pos rfl, if_pos rfl, e1, e2, e3]
  simp only
  rw [if_pos (by omega), if_pos (by omega), if_pos trivial, if_pos trivial, if_pos (by omega), if_pos trivial, fd _ (by rw [← e1]; exact x5.2.size), fd _ (by omega), fd _ (by omega), Option.bind_some, Option.bind_some, Option.bind_some, d1, d3, d4]
  rw [if_pos (by exact hw1.symm), fd _ (by rw [← e3]; exact x4.2.size), Option.bind_some, Option.bind_some, d2, hw2, show (depF a + 1 != depF a + 1) = false from bne_self_eq_false _]
  exact parts_end 1 a a3 (by omega) sa
end Go.Proofs.Ytpfpmjdifnoeoaa.Pure
