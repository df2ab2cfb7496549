/- Plain facts about seals: what is closed is opened in its own place alone, and by its own key. -/
import Derived.Test.YtpfpmjdifnoeoaaMSealApartLPack
import Derived.Test.YtpfpmjdifnoeoaaMSealApartB3
import Derived.Test.YtpfpmjdifnoeoaaMSealApartB2
import Derived.Test.YtpfpmjdifnoeoaaMSealApartLList
import Derived.Test.YtpfpmjdifnoeoaaMSealApartLVals
import Derived.Test.YtpfpmjdifnoeoaaMSealApartF61
import Derived.Test.YtpfpmjdifnoeoaaMSealApartF59
import Derived.Test.YtpfpmjdifnoeoaaMSealApartF63
namespace Go.Proofs.Ytpfpmjdifnoeoaa.Pure
set_option linter.unusedVariables false
set_option linter.unusedSimpArgs false
open Go.RowKit Go.Proofs.Ytpfpmjdifnoeoaa.F Go.Proofs.YtpfpmjdifnoeoaaW.PrintWords Go.Proofs.YtpfpmjdifnoeoaaW.PrintLast Go.Proofs.YtpfpmjdifnoeoaaW.PrintMore
theorem num_part (n : Int) : Part 1 (numW n) := Leaf.part (t := numW n) (num_leaf _) (by rw [numW_size]; decide) (Int.le_refl _)
theorem putNum : ∀ l : List Int, l.length ≤ 100 → Part (1 + l.length : Nat) (putOut (l.map numW)) ∧ (putOut (l.map numW)).size = 9 + 10 * l.length
  | [], _ => ⟨Leaf.part (t := numF 0) (num_leaf 0) (by rw [numF_size]; decide) (Int.le_refl _), numF_size 0⟩
  | x :: l, h => by
    rw [List.length_cons] at h
    obtain ⟨h1, h2⟩ := putNum l (by omega)
    have hz := numW_size x
    have hp := pair_made (m := ((1 + l.length : Nat) : Int)) (by omega) (by omega) ((num_part x).mono (by omega)) h1 (by omega)
    have e : putOut ((x :: l).map numW) = (⟨#[112]⟩ : ByteArray) ++ cat [numW x, putOut (l.map numW)] := by
      rw [List.map_cons, putOut_cons2, cat2, app_assoc]
    rw [e]
    refine ⟨hp.2.mono (by rw [List.length_cons]; omega), ?_⟩
    rw [cat2, ByteArray.size_append, ByteArray.size_append, List.length_cons, h2, hz]
    show 1 + (9 + _) = _
    omega
theorem putF_numW {l : List Int} (h : l.length ≤ 100) : putF (l.map numW) = (putOut (l.map numW), 0) := by
  obtain ⟨h1, h2⟩ := putNum l h
  have ha : (l.map numW).any (fun x => !rightB x) = false := by
    rw [List.any_eq_false]
    intro x hx
    obtain ⟨n, _, rfl⟩ := List.mem_map.mp hx
    rw [numW_right]
    simp
  unfold putF
  rw [if_neg (by rw [ha, List.length_map]; simp; omega), if_neg (by omega), if_pos h1.right]
def msg8 (E : Int) : Msg := ⟨0, E, 1, 0, 0, 0, procs8, []⟩
theorem msg8_right {E : Int} (h : 0 ≤ E ∧ E ≤ 999) : RightM (msg8 E) := by
  have d : ((0 : Int) ≤ 0 ∧ (0 : Int) ≤ 2147483647) ∧ ((0 : Int) ≤ 1 ∧ (1 : Int) ≤ 8) ∧ ((0 : Int) ≤ 0 ∧ (0 : Int) ≤ 8) ∧ ((0 : Int) ≤ 0 ∧ (0 : Int) ≤ 20) := by decide
  refine ⟨show (0 :: procs8).Pairwise (· < ·) by decide, show ∀ x ∈ procs8, 1 ≤ x ∧ x ≤ 8 by decide, show procs8.length ≤ 8 by decide, ?_, ⟨h.1, by show E ≤ _; omega⟩, d.2.1, d.1, d.2.2.1, d.2.2.2, d.1⟩
  show (putF ([].map numW)).2 = 0
  rw [putF_numW (by decide)]
def viewT (E : Int) : ByteArray := putOut ((numsM (msg8 E)).map numW)
def placeT (s n : Int) : ByteArray := (⟨#[112]⟩ : ByteArray) ++ cat [numW s, numW n]
def nonceT (E s n : Int) : ByteArray := (⟨#[112]⟩ : ByteArray) ++ cat [viewT E, placeT s n]
theorem viewT_ok {E : Int} (h : 0 ≤ E ∧ E ≤ 999) : packM (msg8 E) = (viewT E, 0) ∧ termV E 1 procs8 = (viewT E, 0) := by
  have h1 : packM (msg8 E) = (viewT E, 0) := by
    unfold packM
    rw [if_pos ((rightM_iff _).mpr (msg8_right h))]
    unfold rowM viewT
    rw [show (msg8 E).ts = [] from rfl, List.append_nil, putF_numW (by show 15 ≤ 100; decide)]
  refine ⟨h1, ?_⟩
  unfold termV
  have hv : viewB E 1 procs8 = true := by
    unfold viewB
    rw [show upB 0 procs8 = true from rfl, show procs8.contains 1 = true from rfl, decide_eq_true (by omega)]
    rfl
  rw [if_pos hv]
  exact h1
theorem viewT_part (E : Int) : Part 20 (viewT E) ∧ (viewT E).size = 159 := by
  obtain ⟨h1, h2⟩ := putNum (numsM (msg8 E)) (by show 15 ≤ 100; decide)
  exact ⟨h1.mono (by show ((1 + 15 : Nat) : Int) ≤ 20; decide), h2⟩
theorem placeT_part (s n : Int) : pairF (numW s) (numW n) = (placeT s n, 0) ∧ Part 2 (placeT s n) ∧ (placeT s n).size = 19 := by
  have hs := numW_size s
  have hn := numW_size n
  have hp := pair_made (m := 1) (by decide) (by decide) (num_part s) (num_part n) (by omega)
  refine ⟨hp.1, hp.2, ?_⟩
  unfold placeT
  rw [cat2, ByteArray.size_append, ByteArray.size_append, hs, hn]
  rfl
theorem nonceT_part (E s n : Int) : pairF (viewT E) (placeT s n) = (nonceT E s n, 0) ∧ Part 21 (nonceT E s n) ∧ (nonceT E s n).size = 179 := by
  obtain ⟨v1, v2⟩ := viewT_part E
  obtain ⟨_, p1, p2⟩ := placeT_part s n
  have hp := pair_made (m := 20) (by decide) (by decide) v1 (p1.mono (by decide)) (by omega)
  refine ⟨hp.1, hp.2, ?_⟩
  unfold nonceT
  rw [cat2, ByteArray.size_append, ByteArray.size_append, v2, p2]
  rfl
theorem has8 {s : Int} (h : 1 ≤ s ∧ s ≤ 8) : procs8.contains s = true := by
  rw [List.contains_iff_mem]
  have : s = 1 ∨ s = 2 ∨ s = 3 ∨ s = 4 ∨ s = 5 ∨ s = 6 ∨ s = 7 ∨ s = 8 := by omega
  rcases this with rfl | rfl | rfl | rfl | rfl | rfl | rfl | rfl <;> decide
theorem nonce_ok {E s n : Int} (hE : 0 ≤ E ∧ E ≤ 999) (hs : 1 ≤ s ∧ s ≤ 8) (hn : 1 ≤ n ∧ n ≤ 32) : nonceF E 1 procs8 s n = (nonceT E s n, 0) := by
  have hv := (viewT_ok hE).2
  unfold nonceF
  rw [hv, if_pos ⟨rfl, has8 hs, hn.1, hn.2⟩, (placeT_part s n).1]
  exact (nonceT_part E s n).1
theorem viewT_inj {E F : Int} (hE : 0 ≤ E ∧ E ≤ 999) (hF : 0 ≤ F ∧ F ≤ 999) (h : viewT E = viewT F) : E = F := by
  have e1 := (viewT_ok hE).1
  have e2 := (viewT_ok hF).1
  have := packM_inj (a := msg8 E) (b := msg8 F) (by rw [e1]) (by rw [e2]) (by rw [e1, e2]; exact h)
  exact congrArg Msg.ie this
theorem head_inj {c : ByteArray} {a b : List ByteArray} (h : c ++ cat a = c ++ cat b) : cat a = cat b := by
  have h2 := congrArg bl h
  rw [bl_app, bl_app] at h2
  exact bl_inj (List.append_cancel_left h2)
theorem placeT_inj {s n t m : Int} (hs : 0 ≤ s ∧ s ≤ 2147483647) (hn : 0 ≤ n ∧ n ≤ 2147483647) (ht : 0 ≤ t ∧ t ≤ 2147483647) (hm : 0 ≤ m ∧ m ≤ 2147483647) (h : placeT s n = placeT t m) : s = t ∧ n = m := by
  have := cat_inj (mem2 (num_part s).tm (num_part n).tm) (mem2 (num_part t).tm (num_part m).tm) (head_inj h)
  simp only [List.cons.injEq, and_true] at this
  exact ⟨numW_inj hs ht this.1, numW_inj hn hm this.2⟩
theorem nonce_inj {E s n F t m : Int} (hE : 0 ≤ E ∧ E ≤ 999) (hF : 0 ≤ F ∧ F ≤ 999) (hs : 0 ≤ s ∧ s ≤ 2147483647) (hn : 0 ≤ n ∧ n ≤ 2147483647) (ht : 0 ≤ t ∧ t ≤ 2147483647) (hm : 0 ≤ m ∧ m ≤ 2147483647) (h : nonceT E s n = nonceT F t m) : E = F ∧ s = t ∧ n = m := by
  have := cat_inj (mem2 (viewT_part E).1.tm (placeT_part s n).2.1.tm) (mem2 (viewT_part F).1.tm (placeT_part t m).2.1.tm) (head_inj h)
  simp only [List.cons.injEq, and_true] at this
  exact ⟨viewT_inj hE hF this.1, placeT_inj hs hn ht hm this.2⟩
def sealT (key : ByteArray) (E s n : Int) (t : ByteArray) : ByteArray := (⟨#[115]⟩ : ByteArray) ++ cat [key, nonceT E s n, (textF t).1]
theorem text_part {t : ByteArray} (h : t.size ≤ 100) : textF t = ((textF t).1, 0) ∧ Part 1 (textF t).1 ∧ (textF t).1.size = 3 + t.size := by
  have h1 := text_ok h
  have h2 := (text_bytes t h).2.2.2
  rw [h1.1]
  exact ⟨rfl, h1.2.part (by omega) (Int.le_refl _), h2⟩
theorem seal_parts {key t : ByteArray} {E s n : Int} (hk : Part 42 key) (hz : key.size ≤ 600) (h : t.size ≤ 100) :
    sealF key (nonceT E s n) (textF t).1 = (sealT key E s n t, 0) ∧ Part 43 (sealT key E s n t) ∧ kidsF (sealT key E s n t) = [key, nonceT E s n, (textF t).1] ∧ kindF (sealT key E s n t) = 115 ∧ (sealT key E s n t).size ≤ 20000 := by
  obtain ⟨_, n1, n2⟩ := nonceT_part E s n
  obtain ⟨_, t1, t2⟩ := text_part h
  have hp := seal_made (m := 42) (by decide) (by decide) hk (n1.mono (by decide)) (t1.mono (by decide)) (by omega)
  have hq := kids_sealM (hk.mono (n := 399) (by decide)) (n1.mono (n := 399) (by decide)) (t1.mono (n := 399) (by decide)) (by omega)
  exact ⟨hp.1, hp.2, hq.2.2.1, hq.2.2.2, hp.2.size⟩
theorem close_ok {key t : ByteArray} {E s n : Int} (hk : Part 42 key) (hz : key.size ≤ 600) (h : t.size ≤ 100) (hE : 0 ≤ E ∧ E ≤ 999) (hs : 1 ≤ s ∧ s ≤ 8) (hn : 1 ≤ n ∧ n ≤ 32) :
    closeF key E 1 procs8 s n t = (sealT key E s n t, 0) := by
  unfold closeF
  rw [nonce_ok hE hs hn, if_pos rfl, if_pos (by rw [(text_part h).1])]
  exact (seal_parts hk hz h).1
theorem open_ok {key k2 t : ByteArray} {E s n F p m : Int} (hk : Part 42 key) (hz : key.size ≤ 600) (h : t.size ≤ 100) (hE : 0 ≤ E ∧ E ≤ 999) (hs : 1 ≤ s ∧ s ≤ 8) (hn : 1 ≤ n ∧ n ≤ 32) (hF : 0 ≤ F ∧ F ≤ 999) (hp : 1 ≤ p ∧ p ≤ 8) (hm : 1 ≤ m ∧ m ≤ 32) :
    openF k2 F 1 procs8 p m (sealT key E s n t) = if key = k2 then (if E = F ∧ s = p ∧ n = m then (t, 0) else (⟨#[]⟩, 7)) else (⟨#[]⟩, 6) := by
  obtain ⟨_, _, h3, h4, _⟩ := seal_parts (E := E) (s := s) (n := n) hk hz h
  have ho : openP (sealT key E s n t) k2 = if key = k2 then (nonceT E s n, (textF t).1, 0) else (⟨#[]⟩, ⟨#[]⟩, 6) := by
    unfold openP
    rw [if_pos h4, h3]
    rfl
  unfold openF
  rw [nonce_ok hF hp hm, if_pos rfl, ho]
  by_cases c : key = k2
  case neg => rw [if_neg c, if_neg c, if_neg (by decide)]
  rw [if_pos c, if_pos c, if_pos rfl]
  by_cases d : E = F ∧ s = p ∧ n = m
  · rw [if_pos d, if_pos (by rw [d.1, d.2.1, d.2.2])]
    show (if (saidF (textF t).1).2 = true then ((saidF (textF t).1).1, 0) else (⟨#[]⟩, 2)) = (t, 0)
    rw [said_text h]
    rfl
  · rw [if_neg d, if_neg]
    intro e
    exact d (nonce_inj hE hF (by omega) (by omega) (by omega) (by omega) e)
theorem name_part (k : Int) : Part 42 (nameF k) ∧ (nameF k).size ≤ 600 := by
  have hz := name_size k
  exact ⟨(name_leaf k).part (by omega) (by decide), by omega⟩
theorem sealT_inj {key t u : ByteArray} {E s n F p m : Int} (hk : Part 42 key) (h : t.size ≤ 100) (h2 : u.size ≤ 100) (hE : 0 ≤ E ∧ E ≤ 999) (hs : 1 ≤ s ∧ s ≤ 8) (hn : 1 ≤ n ∧ n ≤ 32) (hF : 0 ≤ F ∧ F ≤ 999) (hp : 1 ≤ p ∧ p ≤ 8) (hm : 1 ≤ m ∧ m ≤ 32) :
    sealT key E s n t = sealT key F p m u ↔ E = F ∧ s = p ∧ n = m ∧ t = u := by
  constructor
  · intro e
    have := cat_inj (mem3 hk.tm (nonceT_part E s n).2.1.tm (text_part h).2.1.tm) (mem3 hk.tm (nonceT_part F p m).2.1.tm (text_part h2).2.1.tm) (head_inj e)
    simp only [List.cons.injEq, and_true, true_and] at this
    obtain ⟨e1, e2, e3⟩ := nonce_inj hE hF (by omega) (by omega) (by omega) (by omega) this.1
    exact ⟨e1, e2, e3, text_inj h h2 this.2⟩
  · rintro ⟨rfl, rfl, rfl, rfl⟩; rfl
end Go.Proofs.Ytpfpmjdifnoeoaa.Pure
