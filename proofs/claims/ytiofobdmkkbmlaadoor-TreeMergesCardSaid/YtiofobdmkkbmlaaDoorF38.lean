-- Laid by mk.py (a program of this session) over the seat's translation.
import Derived.Test.YtiofobdmkkbmlaaDoorF0
import Derived.Test.YtiofobdmkkbmlaaDoorF44
import Derived.Test.YtiofobdmkkbmlaaDoorF53
import Derived.RegionTactic
import Derived.BigRegion
import Derived.Deep.QuietTactic
import Derived.BigQuiet
import Derived.Test.YtiofobdmkkbmlaaDoorLTree
namespace Go.Proofs.YtiofobdmkkbmlaaDoor.F
open Go.RowKit Go.Proofs.YtiofobdmkkbmlaaDoorW.PrintWords Go.Proofs.YtiofobdmkkbmlaaDoorW.PrintLast Go.Proofs.YtiofobdmkkbmlaaDoorW.PrintMore
attribute [local go_sem] max2_int min2_int max_two min_two max_three min_three max_four min_four
set_option linter.unusedVariables false
set_option linter.unusedSimpArgs false

/-! ### tree_node_text: function 38 -/
open Go.Proofs.YtiofobdmkkbmlaaDoor.Pure Go.Deep
theorem run_cat {P : Program} {ρ : Operand → Value} {o : Oper} {T T' : TypeId} {x y : Operand} {s t : ByteArray} (h : o.op = .binOp .add T x y T') (hx : ρ x = .string s) (hy : ρ y = .string t) (hs : s.size + t.size ≤ 9223372036854775807) (w : World) :
    (execOp ρ o).run P w = .ok (.value (.string (s ++ t))) w := by
  unfold execOp
  rw [h]
  simp only [hx, hy]
  simp [go_sem]
  exact hs
theorem quiet_cat {P : Program} {C : World → Prop} {a : Act} {o : Oper} {K : Act → Prop} {T T' : TypeId} {x y : Operand} {s t : ByteArray} (h : o.op = .binOp .add T x y T') (hx : a.eval x = .string s) (hy : a.eval y = .string t) (hs : s.size + t.size ≤ 9223372036854775807)
    (hk : K (a.put o.dst (.string (s ++ t)))) : o.quiet P a C K :=
  ⟨_, fun w _ => by unfold Oper.quietAt; rw [run_cat h hx hy hs]; exact ⟨rfl, rfl⟩, hk⟩
theorem TreeIn.drewN {w : World} {t : Tr} {lo hi b : Nat} (h : TreeIn w t lo hi b) (n : Nat) : TreeIn (w.drewN n) t lo hi b := h.kept fun _ _ _ => rfl
/-- A value is given, and nothing is made. -/
def Gives (w : World) (v : Value) (e : Ending) (w' : World) : Prop := e = .returned v ∧ ∃ m, w' = w.drewN m
theorem text_node (l r : Tr) : (⟨#[40]⟩ : ByteArray) ++ l.text ++ r.text ++ ⟨#[41]⟩ = (Tr.node l r).text := by
  apply ByteArray.ext
  apply Array.ext'
  simp [Tr.text, Tr.bytes]
theorem text_size (t : Tr) : t.text.size = t.bytes.length := rfl
set_option maxHeartbeats 2000000 in
set_option maxRecDepth 100000 in
theorem text.leaf (p : Int) (hp : 1 ≤ p ∧ p ≤ 8) (b : Nat) (w : World) (h : w.heap[b]? = some (nodeO p (.pointer none) (.pointer none))) :
    Calls Tryd.prog 38 #[(.pointer (some ⟨b, 0, none⟩))] w (Gives w (.string (Tr.leaf p).text)) := by
  have hc0 : w.cell? ⟨b, 0, none⟩ = some (.int .i64 p) := (blk_cell h 0).trans rfl
  have hc1 : w.cell? ⟨b, 1, none⟩ = some (.pointer none) := (blk_cell h 1).trans rfl
  have HI := Aside0.mk (fun W => itoa.dig p ⟨by omega, by omega⟩ W)
  clear h hp
  go_enter Tryd.func38, Tryd.ntmps38
  go_wp2_with (go_at_call 44; go_loud (refine (HI.out _).mono ?_; rintro e w1 ⟨rfl, hd⟩))
  go_ret
  exact ⟨rfl, hd.out⟩
set_option maxHeartbeats 300000 in
set_option maxRecDepth 100000 in
theorem text.node (l r : Tr) (hl : (Tr.node l r).leaves.length ≤ 100) (b bl br : Nat) (w : World) (h : w.heap[b]? = some (nodeO 0 (.pointer (some ⟨bl, 0, none⟩)) (.pointer (some ⟨br, 0, none⟩))))
    (H1 : ∀ n, Calls Tryd.prog 38 #[(.pointer (some ⟨bl, 0, none⟩))] (w.drewN n) fun e w' => e = .returned (.string l.text) ∧ ∃ m, w' = (w.drewN n).drewN m)
    (H2 : ∀ n, Calls Tryd.prog 38 #[(.pointer (some ⟨br, 0, none⟩))] (w.drewN n) fun e w' => e = .returned (.string r.text) ∧ ∃ m, w' = (w.drewN n).drewN m) :
    Calls Tryd.prog 38 #[(.pointer (some ⟨b, 0, none⟩))] w (Gives w (.string (Tr.node l r).text)) := by
  have hc1 : w.cell? ⟨b, 1, none⟩ = some (.pointer (some ⟨bl, 0, none⟩)) := (blk_cell h 1).trans rfl
  have hc2 : w.cell? ⟨b, 2, none⟩ = some (.pointer (some ⟨br, 0, none⟩)) := (blk_cell h 2).trans rfl
  have g1 := Aside0.mk H1
  have g2 := Aside0.mk H2
  have HT := Aside0.mk (text_node l r)
  have b1 := l.bytes_len
  have b2 := r.bytes_len
  simp only [Tr.leaves, List.length_append] at hl
  have s1 : l.text.size ≤ 1000 := by rw [text_size]; omega
  have s2 : r.text.size ≤ 1000 := by rw [text_size]; omega
  clear h H1 H2 b1 b2 hl
  generalize l.text = L at g1 s1 HT
  generalize r.text = R at g2 s2 HT
  generalize (Tr.node l r).text = T at HT ⊢
  have z1 : (⟨#[40]⟩ : ByteArray).size + L.size ≤ 9223372036854775807 := by show 1 + L.size ≤ _; omega
  have z2 : ((⟨#[40]⟩ : ByteArray) ++ L).size + R.size ≤ 9223372036854775807 := by rw [ByteArray.size_append]; show 1 + L.size + _ ≤ _; omega
  have z3 : (((⟨#[40]⟩ : ByteArray) ++ L) ++ R).size + (⟨#[41]⟩ : ByteArray).size ≤ 9223372036854775807 := by rw [ByteArray.size_append, ByteArray.size_append]; show 1 + L.size + R.size + 1 ≤ _; omega
  clear s1 s2
  go_enter Tryd.func38, Tryd.ntmps38
  go_wp2
  refine wp_region_quiet_lit (by kernel_rfl) (by kernel_rfl) ?_
  iterate 5 go_big_quiet_step (((go_at_call 38; exact Calls.quiet_of (g1.out _))))
  refine Go.BigFrame.wpQuiet_want rfl (fun K hK => quiet_cat (s := ⟨#[40]⟩) (t := L) rfl rfl rfl z1 (hK _ ?_)); simp only [Act.put, List.setIfInBounds_toArray, List.set_cons_zero, List.set_cons_succ]; clear hK K
  iterate 5 go_big_quiet_step (((go_at_call 38; exact Calls.quiet_of (g2.out _))))
  refine Go.BigFrame.wpQuiet_want rfl (fun K hK => quiet_cat (s := ⟨#[40]⟩ ++ L) (t := R) rfl rfl rfl z2 (hK _ ?_)); simp only [Act.put, List.setIfInBounds_toArray, List.set_cons_zero, List.set_cons_succ]; clear hK K
  refine Go.BigFrame.wpQuiet_want rfl (fun K hK => quiet_cat (s := ⟨#[40]⟩ ++ L ++ R) (t := ⟨#[41]⟩) rfl rfl rfl z3 (hK _ ?_)); simp only [Act.put, List.setIfInBounds_toArray, List.set_cons_zero, List.set_cons_succ]; clear hK K
  go_big_quiet_step (fail)
  refine wpQuiet_nil ?_; intro _ hw'; obtain ⟨nq, hw''⟩ := hw'; subst hw''
  go_wp2
  go_ret
  exact ⟨by rw [← HT.out]; rfl, nq, rfl⟩
/-- A tree lies in memory, wherever its nodes do. -/
def TreeAt (w : World) : Tr → Nat → Prop
  | .leaf p, b => w.heap[b]? = some (nodeO p (.pointer none) (.pointer none))
  | .node l r, b => ∃ bl br, w.heap[b]? = some (nodeO 0 (.pointer (some ⟨bl, 0, none⟩)) (.pointer (some ⟨br, 0, none⟩))) ∧ TreeAt w l bl ∧ TreeAt w r br
theorem TreeAt.drewN {w : World} : ∀ {t : Tr} {b : Nat}, TreeAt w t b → ∀ n, TreeAt (w.drewN n) t b
  | .leaf p, b, h, n => h
  | .node l r, b, ⟨bl, br, h1, h2, h3⟩, n => ⟨bl, br, h1, h2.drewN n, h3.drewN n⟩
theorem TreeIn.at_ {w : World} : ∀ {t : Tr} {lo hi b : Nat}, TreeIn w t lo hi b → TreeAt w t b
  | .leaf p, lo, hi, b, h => h.2.2
  | .node l r, lo, hi, b, ⟨m, bl, br, h1, h2, h3, h4, h5, h6⟩ => ⟨bl, br, h4, h5.at_, h6.at_⟩
theorem text.calls : ∀ (t : Tr) (b : Nat) (w : World), TreeAt w t b → t.Ok → t.leaves.length ≤ 100 → Calls Tryd.prog 38 #[.pointer (some ⟨b, 0, none⟩)] w (Gives w (.string t.text))
  | .leaf p, b, w, h, ho, _ => text.leaf p (ho p (List.mem_singleton.mpr rfl)) b w h
  | .node l r, b, w, h, ho, hn => by
    obtain ⟨bl, br, h4, h5, h6⟩ := h
    have hn2 := hn
    simp only [Tr.leaves, List.length_append] at hn2
    exact text.node l r hn b bl br w h4 (fun n => text.calls l _ _ (h5.drewN n) ho.left (by omega)) (fun n => text.calls r _ _ (h6.drewN n) ho.right (by omega))
set_option maxHeartbeats 2000000 in
set_option maxRecDepth 100000 in
theorem depth.leaf (p : Int) (b : Nat) (w : World) (h : w.heap[b]? = some (nodeO p (.pointer none) (.pointer none))) :
    Calls Tryd.prog 37 #[.pointer (some ⟨b, 0, none⟩)] w (Gives w (.int .i64 0)) := by
  have hc1 : w.cell? ⟨b, 1, none⟩ = some (.pointer none) := (blk_cell h 1).trans rfl
  clear h
  go_enter Tryd.func37, Tryd.ntmps37
  go_wp2
  go_ret
  exact ⟨rfl, 0, rfl⟩
set_option maxHeartbeats 2000000 in
set_option maxRecDepth 100000 in
theorem depth.node (x y : Int) (hx : 0 ≤ x ∧ x ≤ 1000) (hy : 0 ≤ y ∧ y ≤ 1000) (b bl br : Nat) (w : World) (h : w.heap[b]? = some (nodeO 0 (.pointer (some ⟨bl, 0, none⟩)) (.pointer (some ⟨br, 0, none⟩))))
    (H1 : ∀ n, Calls Tryd.prog 37 #[.pointer (some ⟨bl, 0, none⟩)] (w.drewN n) fun e w' => e = .returned (.int .i64 x) ∧ ∃ m, w' = (w.drewN n).drewN m)
    (H2 : ∀ n, Calls Tryd.prog 37 #[.pointer (some ⟨br, 0, none⟩)] (w.drewN n) fun e w' => e = .returned (.int .i64 y) ∧ ∃ m, w' = (w.drewN n).drewN m) :
    Calls Tryd.prog 37 #[.pointer (some ⟨b, 0, none⟩)] w (Gives w (.int .i64 (1 + (if x < y then y else x)))) := by
  have hc1 : w.cell? ⟨b, 1, none⟩ = some (.pointer (some ⟨bl, 0, none⟩)) := (blk_cell h 1).trans rfl
  have hc2 : w.cell? ⟨b, 2, none⟩ = some (.pointer (some ⟨br, 0, none⟩)) := (blk_cell h 2).trans rfl
  have g1 := Aside0.mk H1
  have g2 := Aside0.mk H2
  clear h H1 H2
  by_cases hxy : x < y
  · have hv := Aside0.mk (show (1 + if x < y then y else x) = 1 + y by rw [if_pos hxy])
    rw [hv.out]
    have q1 : (x < y) = True := eq_true hxy
    have q2 : (x ≤ y) = True := eq_true (by omega)
    have q3 : (y < x) = False := eq_false (by omega)
    have q4 : (y ≤ x) = False := eq_false (by omega)
    clear hxy
    go_enter Tryd.func37, Tryd.ntmps37
    go_wp2
    go_quiet ((first | (go_at_call_of 37 (Value.pointer (some (Addr.mk bl 0 none))); exact Calls.quiet_of (g1.out _)) | (go_at_call 37; exact Calls.quiet_of (g2.out _))))
    go_wp2
    go_ret
    exact ⟨rfl, ⟨_, rfl⟩⟩
  · have hv := Aside0.mk (show (1 + if x < y then y else x) = 1 + x by rw [if_neg hxy])
    rw [hv.out]
    have q1 : (x < y) = False := eq_false hxy
    have q4 : (y ≤ x) = True := eq_true (by omega)
    by_cases he : x = y
    · subst he
      clear hxy
      go_enter Tryd.func37, Tryd.ntmps37
      go_wp2
      go_quiet ((first | (go_at_call_of 37 (Value.pointer (some (Addr.mk bl 0 none))); exact Calls.quiet_of (g1.out _)) | (go_at_call 37; exact Calls.quiet_of (g2.out _))))
      go_wp2
      go_ret
      exact ⟨rfl, ⟨_, rfl⟩⟩
    · have q2 : (x ≤ y) = False := eq_false (by omega)
      have q3 : (y < x) = True := eq_true (by omega)
      clear hxy he
      go_enter Tryd.func37, Tryd.ntmps37
      go_wp2
      go_quiet ((first | (go_at_call_of 37 (Value.pointer (some (Addr.mk bl 0 none))); exact Calls.quiet_of (g1.out _)) | (go_at_call 37; exact Calls.quiet_of (g2.out _))))
      go_wp2
      go_ret
      exact ⟨rfl, ⟨_, rfl⟩⟩
theorem depth_max (l r : Tr) : ((Tr.node l r).depth : Int) = 1 + (if (l.depth : Int) < (r.depth : Int) then (r.depth : Int) else (l.depth : Int)) := by
  rw [Tr.depth]
  split <;> omega
theorem depth.calls : ∀ (t : Tr) (lo hi b : Nat) (w : World), TreeIn w t lo hi b → t.leaves.length ≤ 100 → Calls Tryd.prog 37 #[.pointer (some ⟨b, 0, none⟩)] w (Gives w (.int .i64 t.depth))
  | .leaf p, lo, hi, b, w, h, _ => depth.leaf p b w h.2.2
  | .node l r, lo, hi, b, w, h, hn => by
    obtain ⟨m, bl, br, h1, h2, h3, h4, h5, h6⟩ := h
    simp only [Tr.leaves, List.length_append] at hn
    have d1 := l.depth_lt
    have d2 := r.depth_lt
    rw [depth_max]
    exact depth.node l.depth r.depth (by omega) (by omega) b bl br w h4 (fun n => depth.calls l _ _ _ _ (h5.drewN n) (by omega)) (fun n => depth.calls r _ _ _ _ (h6.drewN n) (by omega))

end Go.Proofs.YtiofobdmkkbmlaaDoor.F
