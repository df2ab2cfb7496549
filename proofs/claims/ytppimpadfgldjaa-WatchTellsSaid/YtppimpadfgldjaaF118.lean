-- Laid by mk.py (a program of this session) over the seat's translation.
import Derived.Test.YtppimpadfgldjaaF0
import Derived.Test.YtppimpadfgldjaaF115
import Derived.WalkSpells
namespace Go.Proofs.Ytppimpadfgldjaa.F
open Go.RowKit Go.Proofs.YtppimpadfgldjaaW.PrintWords Go.Proofs.YtppimpadfgldjaaW.PrintLast Go.Proofs.YtppimpadfgldjaaW.PrintMore
attribute [local go_sem] max2_int min2_int max_two min_two max_three min_three max_four min_four
set_option linter.unusedVariables false
set_option linter.unusedSimpArgs false

/-! ### net_Datagram_118: function 118 -/
theorem dg_rows {w : World} {A : Option Addr} {n : Nat} {xs : List S114} (h : Kd.C k114 w A n xs) : ReadsRow (fun (x : S114) (cs : List Value) => cs = [.int .i64 x.f0, .int .i64 x.f1, .string x.f2]) k114.sz w A n xs := ReadsRow.imp_ h (Below.refl _ _) (fun _ _ hp => k114_open hp)
set_option maxHeartbeats 1000000 in
set_option maxRecDepth 10000 in
theorem cloneDg.calls (A0 : Option Addr) (c0 : Nat) (l0 : List S114) (w : World) (hr0 : Kd.C k114 w A0 l0.length l0) (hl : l0.length < 1000000000) :
    Calls Try.prog 118 #[.slice A0 l0.length c0] w fun e w' => ∃ v0_ : Value, e = .returned (v0_) ∧ Kd.R k114 114 w' w.heap.size (fun _ => True) v0_ l0 ∧ Below w.heap.size w w' := by
  have HR0 := Aside0.mk hr0
  have HB := Aside0.mk (Below.refl w.heap.size w)
  have HL := Aside0.mk hl
  clear hl hr0
  rcases A0 with _ | ad
  · have hn : l0 = [] := by
      rcases l0 with _ | ⟨x, xs⟩
      · rfl
      · obtain ⟨_, h, _⟩ := HR0.out.2.2 (by simp)
        cases h
    subst hn
    clear HR0 HL
    have hq := fun W => Lib.run_eql_slice_nil (P := Try.prog) W 124 114 none 0 c0 0 0 Try.underlying124
    go_enter Try.func118, Try.ntmps118
    go_wp2
    go_ret
    exact ⟨_, rfl, Kd.R_nil _ _ _ _ _, HB.out⟩
  · have hq := fun W => Lib.run_eql_slice_nil (P := Try.prog) W 124 114 (some ad) l0.length c0 0 0 Try.underlying124
    have HOL := Aside0.mk (World.ownsRow_lit (base := w.heap.size) (e := 114) (size := 3) w #[] 0 (Nat.le_refl _) (by simp [maxLen]) rfl)
    go_enter Try.func118, Try.ntmps118
    go_wp2_with (at_builtin; refine Kd.R_append_rows k114 (Rr := fun (x : S114) (cs : List Value) => cs = [.int .i64 x.f0, .int .i64 x.f1, .string x.f2]) (w0 := w) w.heap.size rfl (.tmp 5) (.tmp 6) 124 114 (.agg #[.int .i64 0, .int .i64 0, .string ⟨#[]⟩]) 32 rfl Try.underlying124 dg_info rfl (by decide) (by decide) _ [] l0 (some ad) l0.length c0 (fun _ => True) (fun _ => False) rfl rfl ?aO ?aR ?aM ?ap (fun _ _ => trivial) ?aB ?aS ?aL ?_; (case aO => exact ⟨fun _ _ => trivial, [], HOL.out, Reps.none _ _⟩); (case aR => exact dg_rows (Kd.C_alloc HR0.out _)); (case aM => (intro x cs e; subst e; exact k114_mkM _ _ _ x)); (case ap => exact fun _ hk => hk.elim); (case aB => exact below_alloc HB.out _); (case aS => simp); (case aL => have := HL.out; simp; omega); intro v1 w1 ho hb hg hat; have HO := Aside0.mk ho; have HB1 := Aside0.mk hb; clear ho hb hg hat)
    go_ret
    exact ⟨_, rfl, HO.out, HB1.out⟩

end Go.Proofs.Ytppimpadfgldjaa.F
