/- What a canonizer of a Keep and a Norm, one behind the other, makes of a text. -/
import Derived.Test.YtbimpenhmefpeaaGreatDoorS29
set_option linter.all false
namespace Go.Proofs.YtbimpenhmefpeaaGreatDoor
open Go.RowKit Go.Maps
variable {H : Nat → Prop}

theorem burn_eq (f : Pv.Fuel) (n : Nat) (h : n ≤ f.left) : f.burn n = (⟨f.left - n, f.used + n⟩, 0) := by unfold Pv.Fuel.burn; rw [if_neg (by omega)]
/-- a canonizer of two parts in memory -/
structure CatAt (w : World) (k k1 k2 ka kc tb ta tn sa sb s1 : Nat) (text : List UInt8) : Prop where
  hk : ∃ wv cv v1, w.heap[k]? = some (.cells (CanC tb wv cv (.slice (some ⟨ka, 0, none⟩) 2 kc) (Ptr s1) v1) 68)
  c0 : w.cell? ⟨ka, 0, none⟩ = some (Ptr k1)
  c1 : w.cell? ⟨ka, 1, none⟩ = some (Ptr k2)
  h1 : ∃ v2 v3 v4 v5, w.heap[k1]? = some (.cells (CanC ta v2 v3 v5 (Ptr sa) v4) 68)
  h2 : ∃ v2 v3 v4 v5, w.heap[k2]? = some (.cells (CanC tn v2 v3 v5 (Ptr sb) v4) 68)
  tt : ∃ a n re t b ks, TermAt w tb 8 a n re t b ks
  t1 : ∃ a n re t b ks, TermAt w ta 16 a n re t b ks
  t2 : ∃ a n re b ks, TermAt w tn 17 a n re text b ks
theorem CatAt.keep {w w' : World} {k k1 k2 ka kc tb ta tn sa sb s1 : Nat} {text : List UInt8} (h : CatAt w k k1 k2 ka kc tb ta tn sa sb s1 text) {G : Nat → Prop} (hk : Keep G w w') (hG : ∀ x, G x → ∃ cs t fr, w.heap[x]? = some (.cells cs t fr) ∧ t ≠ 68 ∧ t ≠ 30) (hka : ¬ G ka) : CatAt w' k k1 k2 ka kc tb ta tn sa sb s1 text := by
  have hn : ∀ {b : Nat} {cs : Array Value} {t : TypeId} {fr : Nat × Nat}, w.heap[b]? = some (.cells cs t fr) → (t = 68 ∨ t = 30) → ¬ G b := fun hb ht hg => by
    obtain ⟨cs', t', fr', h1, h2, h3⟩ := hG _ hg
    rw [hb] at h1
    injection h1 with h1
    injection h1 with _ h1
    rcases ht with ht | ht
    · exact h2 (h1 ▸ ht)
    · exact h3 (h1 ▸ ht)
  obtain ⟨⟨a1, a2, a3, a4⟩, c0, c1, ⟨b1, b2, b3, b4, b5⟩, ⟨d1, d2, d3, d4, d5⟩, ⟨e1, e2, e3, e4, e5, e6, e7⟩, ⟨f1, f2, f3, f4, f5, f6, f7⟩, ⟨g1, g2, g3, g4, g5, g6⟩⟩ := h
  exact ⟨⟨a1, a2, a3, hk.blk (hn a4 (.inl rfl)) a4⟩, hk.cell hka c0, hk.cell hka c1, ⟨b1, b2, b3, b4, hk.blk (hn b5 (.inl rfl)) b5⟩, ⟨d1, d2, d3, d4, hk.blk (hn d5 (.inl rfl)) d5⟩, ⟨e1, e2, e3, e4, e5, e6, hk.blk (hn e7 (.inr rfl)) e7⟩, ⟨f1, f2, f3, f4, f5, f6, hk.blk (hn f7 (.inr rfl)) f7⟩, ⟨g1, g2, g3, g4, g5, hk.blk (hn g6 (.inr rfl)) g6⟩⟩
theorem CatAt.later {w w' : World} {k k1 k2 ka kc tb ta tn sa sb s1 : Nat} {text : List UInt8} (h : CatAt w k k1 k2 ka kc tb ta tn sa sb s1 text) (hb : Below w.heap.size w w') : CatAt w' k k1 k2 ka kc tb ta tn sa sb s1 text :=
  h.keep (G := fun _ => False) (Keep.of_below hb) (fun _ h => h.elim) (fun h => h)
set_option maxRecDepth 20000 in
set_option maxHeartbeats 1000000 in
theorem run_cat (SA SB : Pv.Side) (hSA : SA.Ok) (hSB : SB.Ok) (r fb k k1 k2 ka kc tb ta tn sa sb s1 : Nat) (text s : List UInt8) (f : Pv.Fuel) (w : World) (h : RunAt w r fb) (hc : CatAt w k k1 k2 ka kc tb ta tn sa sb s1 text) (ha : SideAt H w SA sa) (hb : SideAt H w SB sb) (hf : FuelAt w fb f) (hfb : H fb) (hka : ka ≠ r ∧ ka ≠ fb)
    (hs : s.length < 1000) (htx : text.length < 1000) (i : Nat) (hp : Pv.places SA SB s = [i]) (hfl : 5 * s.length + text.length + 10 ≤ f.left) :
    Calls Tryz.prog 113 #[Ptr r, Ptr k, Str s] w fun e w' => e = .returned (Str (s.take i ++ text)) ∧ RunAt w' r fb ∧ Keep (fun x => x = r ∨ x = fb) w w' := by
  have hside1 : ∀ w1, Below w.heap.size w w1 → Pure 111 #[Ptr r, Ptr k1] w1 (Ptr sa) := fun w1 hb1 => by
    obtain ⟨_, _, _, _, h1⟩ := (hc.later hb1).h1
    exact rside_any r fb k1 ta sa _ _ _ _ w1 (later_blk hb1 h) h1
  have hside2 : ∀ w1, Below w.heap.size w w1 → Pure 111 #[Ptr r, Ptr k2] w1 (Ptr sb) := fun w1 hb1 => by
    obtain ⟨_, _, _, _, h1⟩ := (hc.later hb1).h2
    exact rside_any r fb k2 tn sb _ _ _ _ w1 (later_blk hb1 h) h1
  have x0 : w.cell? ⟨r, 0, none⟩ = some (Ptr fb) := cell_of_blk (o := 0) h rfl
  have x2 : w.cell? ⟨r, 2, none⟩ = some (.int .i64 0) := cell_of_blk (o := 2) h rfl
  obtain ⟨wv, cv, v1, hk⟩ := hc.hk
  obtain ⟨_, _, _, _, _, _, htb⟩ := hc.tt
  have y0 : w.cell? ⟨k, 0, none⟩ = some (Ptr tb) := cell_of_blk (o := 0) hk rfl
  have y3 : w.cell? ⟨k, 3, none⟩ = some (.slice (some ⟨ka, 0, none⟩) 2 kc) := cell_of_blk (o := 3) hk rfl
  have t0 : w.cell? ⟨tb, 0, none⟩ = some (.int .i64 8) := cell_of_blk (o := 0) htb rfl
  have g0 := hc.c0
  have g1 := hc.c1
  have hrf : r ≠ fb := by
    rintro rfl
    have h2 := hf.2
    rw [h] at h2
    cases h2
  have hil : i ≤ s.length := by
    have : i ∈ Pv.places SA SB s := by rw [hp]; simp
    unfold Pv.places at this
    have := (List.mem_filter.1 this).1
    have := List.mem_range.1 this
    omega
  have HR := Lib.hid h
  have HCt := Lib.hid hc
  have HA := Lib.hid ha
  have HB := Lib.hid hb
  have HF := Lib.hid hf
  have HSd1 := Lib.hid hside1
  have HSd2 := Lib.hid hside2
  have HPl := Lib.hid hp
  have HOA := Lib.hid hSA
  have HOB := Lib.hid hSB
  have hbe := burn_eq f (2 * (s.length + 1)) (by omega)
  have HBe := Lib.hid hbe
  clear h hc ha hb hf hside1 hside2 hp hk htb hSA hSB hbe
  go_enter Tryz.func113, Tryz.ntmps113
  go_wp2_with fail
  refine Eag.region (.mov 0 (.mov 1 (.mov 2 (.mov 3 (.mov 4 (.mov 5 (.mov 6 (.mov 8 (.mov 9 (.mov 10 (.mov 11 (.mov 12 (.mov 13 (.mov 14 (.mov 16 (.mov 17 (.mov 18 (.mov 19 (.mov 20 (.anc 7 (.anc 15 (.anc 21 (.mov 22 (.mov 23 (.mov 24 (.mov 25 (.mov 26 (.mov 27 (.mov 28 Eag.Sch.fin))))))))))))))))))))))))))))) [21] (by kernel_rfl) (by kernel_rfl) (fun K ops hops hK => ?_)
  iterate 19
    refine Eag.mov hops rfl rfl (fun w' hb => ?_) ?_
    · have q0 := later hb x0; have q1 := later hb y3; have q2 := later hb g0; have q3 := later hb g1; clear hb; go_simp
    go_simp
  refine Eag.anc hops rfl rfl ?_
  go_wp2_with fail
  refine (HSd1.out w.drew (Below.refl _ _).drew).mono ?_
  rintro e w1 ⟨rfl, e1⟩
  refine ⟨by rw [e1]; exact Below.refl _ _, ?_⟩
  subst e1
  refine Eag.anc hops rfl rfl ?_
  go_wp2_with fail
  refine (HSd2.out w.drew (Below.refl _ _).drew).mono ?_
  rintro e w1 ⟨rfl, e1⟩
  refine ⟨by rw [e1]; exact Below.refl _ _, ?_⟩
  subst e1
  clear HSd1 HSd2 x0 x2 y0 t0
  refine Eag.anc hops rfl rfl ?_
  go_wp2_with fail
  refine scat_any (H := H) _ SA SB HOA.out HOB.out sa sb fb f s w.drew (HA.out.later (Below.refl _ _).drew) (HB.out.later (Below.refl _ _).drew) (HF.out.later (Below.refl _ _).drew) (by omega) hfb ?_ ?_ ?_
  · intro w' h1
    rw [HBe.out] at h1
    cases h1
  · intro w' _ h1
    rw [HPl.out] at h1
    exact absurd rfl h1
  intro w2 j _ h1 hf2 hk2
  rw [HPl.out] at h1
  obtain rfl : i = j := by injection h1
  rw [HBe.out] at hf2
  simp only at hf2
  have hk2' : Keep (· = fb) w w2 := (Keep.drew _).trans hk2
  have hGf : ∀ x, x = fb → ∃ cs t fr, w.heap[x]? = some (.cells cs t fr) ∧ t ≠ 68 ∧ t ≠ 30 := fun x e => by
    rw [e]; exact ⟨_, _, _, HF.out.2, by decide, by decide⟩
  have hc2 := HCt.out.keep hk2' hGf hka.2
  have hr2 : RunAt w2 r fb := hk2'.blk hrf HR.out
  have hfa := failed_ok r fb w2 hr2
  have HC2 := Lib.hid hc2
  have HF2 := Lib.hid hf2
  have HK2 := Lib.hid hk2'
  have HFa := Lib.hid hfa
  have HR2 := Lib.hid hr2
  clear hf2 hk2 hk2' hc2 hr2 hfa h1 hGf y3 g0 g1
  iterate 7
    refine Eag.mov hops rfl rfl (fun w' hb => ?_) ?_
    · clear hb; go_simp
    go_simp
  refine Eag.fin (hK _ _ ?_)
  clear hK hops
  go_simp
  go_wp2_with fail
  refine HFa.out.mono ?_
  rintro e w3 ⟨rfl, hr3, hk3⟩
  have hGr : ∀ x, x = r → ∃ cs t fr, w2.heap[x]? = some (.cells cs t fr) ∧ t ≠ 68 ∧ t ≠ 30 := fun x e => by
    rw [e]; exact ⟨_, _, _, HR2.out, by decide, by decide⟩
  have hc3 := HC2.out.keep hk3 hGr hka.1
  have hf3 : FuelAt w3 fb _ := HF2.out.keep hk3 (fun e => hrf e.symm)
  obtain ⟨wv3, cv3, v13, hkk⟩ := hc3.hk
  have y3 : w3.cell? ⟨k, 3, none⟩ = some (.slice (some ⟨ka, 0, none⟩) 2 kc) := cell_of_blk (o := 3) hkk rfl
  have g0 := hc3.c0
  obtain ⟨a1, a2, a3, a4, hk1⟩ := hc3.h1
  obtain ⟨b1, b2, b3, b4, b5, b6, ht1⟩ := hc3.t1
  have hrun1 := run_leaf 16 (.inl rfl) r fb k1 ta b1 b2 b4 b5 (s.take i) b3 b6 a1 a2 a4 (Ptr sa) a3 _ w3 hr3 hk1 ht1 hf3 (by rw [List.length_take]; omega) (by show (s.take i).length < _; rw [List.length_take]; omega) (by show (s.take i).length + (s.take i).length + 1 ≤ f.left - 2 * (s.length + 1); rw [List.length_take]; omega)
  have HRun1 := Lib.hid hrun1
  have HC3 := Lib.hid hc3
  have HK3 := Lib.hid hk3
  have HR3 := Lib.hid hr3
  have HF3 := Lib.hid hf3
  clear hr3 hk3 hc3 hf3 hkk hk1 ht1 hrun1 HFa hGr
  go_wp2_with fail
  refine HRun1.out.mono ?_
  rintro e w4 ⟨rfl, hr4, hf4, hk4⟩
  have hG4 : ∀ x, (x = r ∨ x = fb) → ∃ cs t fr, w3.heap[x]? = some (.cells cs t fr) ∧ t ≠ 68 ∧ t ≠ 30 := fun x e => by
    rcases e with e | e
    · rw [e]; exact ⟨_, _, _, HR3.out, by decide, by decide⟩
    · rw [e]; exact ⟨_, _, _, HF3.out.2, by decide, by decide⟩
  have hc4 := HC3.out.keep hk4 hG4 (fun e => by rcases e with e | e; exact hka.1 e; exact hka.2 e)
  obtain ⟨wv4, cv4, v14, hkk⟩ := hc4.hk
  have y34 : w4.cell? ⟨k, 3, none⟩ = some (.slice (some ⟨ka, 0, none⟩) 2 kc) := cell_of_blk (o := 3) hkk rfl
  have g14 := hc4.c1
  obtain ⟨a1, a2, a3, a4, hk1⟩ := hc4.h2
  obtain ⟨b1, b2, b3, b4, b5, ht1⟩ := hc4.t2
  have hrun2 := run_leaf 17 (.inr rfl) r fb k2 tn b1 b2 text b4 (s.drop i) b3 b5 a1 a2 a4 (Ptr sb) a3 _ w4 hr4 hk1 ht1 hf4 (by rw [List.length_drop]; omega) (by show text.length < _; omega) (by
    show (s.drop i).length + text.length + 1 ≤ f.left - 2 * (s.length + 1) - ((s.take i).length + (s.take i).length + 1)
    rw [List.length_take, List.length_drop]; omega)
  have e16 : leafO 16 b4 (s.take i) = s.take i := rfl
  have e17 : leafO 17 text (s.drop i) = text := rfl
  rw [e17] at hrun2
  have HRun2 := Lib.hid hrun2
  have HK4 := Lib.hid hk4
  clear hr4 hf4 hk4 hc4 hkk hk1 ht1 hrun2 HRun1 y3 g0 hG4 e16 e17
  go_wp2_with fail
  refine HRun2.out.mono ?_
  rintro e w5 ⟨rfl, hr5, hf5, hk5⟩
  have HFin : Hid (RunAt w5 r fb ∧ Keep (fun x => x = r ∨ x = fb) w w5) := ⟨hr5, (((HK2.out.wide fun x e => .inl (.inr e)).trans (HK3.out.wide fun x e => .inl (.inl e))).trans HK4.out).trans hk5⟩
  clear hr5 hf5 hk5 HRun2 y34 g14
  go_wp2_with fail
  · rename_i hx
    exact absurd hx (by show ¬ 9223372036854775807 < (s.take i).length + text.length; rw [List.length_take]; omega)
  · go_ret
    exact ⟨rfl, HFin.out⟩
end Go.Proofs.YtbimpenhmefpeaaGreatDoor
namespace Go.Proofs.YtbimpenhmefpeaaGreatDoor
open Go.RowKit Go.Maps
variable {H : Nat → Prop}

set_option maxRecDepth 20000 in
theorem made_cat (SA SB SW : Pv.Side) (hSA : SA.Ok) (hSB : SB.Ok) (hSW : SW.Ok) (fb k k1 k2 ka kc tb ta tn sa sb s1 : Nat) (text s : List UInt8) (f : Pv.Fuel) (w : World) (hc : CatAt w k k1 k2 ka kc tb ta tn sa sb s1 text) (ha : SideAt H w SA sa) (hb : SideAt H w SB sb) (hw : SideAt H w SW s1) (hf : FuelAt w fb f) (hfb : H fb) (hka : ka ≠ fb) (hkl : ka < w.heap.size)
    (hs : s.length < 1000) (htx : text.length < 1000) (i : Nat) (hp : Pv.places SA SB s = [i]) (hac : SW.fore.accepts s = true) (hfl : 6 * s.length + text.length + 20 ≤ f.left) :
    Calls Tryz.prog 82 #[Ptr k, Str s, Ptr fb, .bool false] w fun e w' => e = .returned (.tuple #[Str (s.take i ++ text), .int .i64 0]) ∧ Keep (· = fb) w w' := by
  have e1 := burn_eq f (s.length + 1) (by omega)
  have hd : ∀ x, x = fb → ∀ (cs : Array Value) (fr : Nat × Nat), w.heap[x]? ≠ some (.cells cs 207 fr) := fun x e cs fr => by
    rw [e]; exact blk_ty hf.2 (by decide)
  have HE1 := Lib.hid e1
  have HDd := Lib.hid hd
  have HC := Lib.hid hc
  have HA := Lib.hid ha
  have HB := Lib.hid hb
  have HW := Lib.hid hw
  have HF := Lib.hid hf
  have HP := Lib.hid hp
  have HAc := Lib.hid hac
  have HSA := Lib.hid hSA
  have HSB := Lib.hid hSB
  have HSW := Lib.hid hSW
  clear hc ha hb hw hf hp hac e1 hSA hSB hSW hd
  have hfbw := blk_lt HF.out.2
  go_enter Tryz.func82, Tryz.ntmps82
  go_wp2_with fail
  obtain ⟨r, hr⟩ : ∃ r, w.heap.size = r := ⟨_, rfl⟩
  obtain ⟨w1, hw1⟩ : ∃ w1, w.alloc (.cells #[Ptr fb, .bool false, .int .i64 0] 180) = w1 := ⟨_, rfl⟩
  have hb1 : Below w.heap.size w w1 := by rw [← hw1]; exact (Below.refl _ _).alloc (Nat.le_refl _) _
  have hr1 : RunAt w1 r fb := by rw [← hw1]; exact blk_new hr
  rw [hw1, hr]
  clear hw1
  have hsd : Pure 111 #[Ptr r, Ptr k] w1 (Ptr s1) := by
    obtain ⟨wv, cv, v1, h2⟩ := (HC.out.later hb1).hk
    exact rside_any r fb k tb s1 _ _ _ _ w1 hr1 h2
  have hm := smatch_any (H := H) SW HSW.out s1 fb f s w1 (HW.out.later hb1) (HF.out.later hb1) (by omega) hfb
  rw [HE1.out, HAc.out] at hm
  have HM := Lib.hid hm
  have HSd := Lib.hid hsd
  have HB1 := Lib.hid hb1
  have HR1 := Lib.hid hr1
  clear hb1 hr1 hm hsd
  have hrf : r ≠ fb := by omega
  refine HSd.out.mono ?_
  rintro e w2 ⟨rfl, e2⟩
  subst e2
  clear HSd
  go_wp2_with fail
  refine HM.out.mono ?_
  rintro e w2 ⟨rfl, hf2, hk2⟩
  simp only [beq_self_eq_true, Bool.and_true] at *
  have hc2 : CatAt w2 k k1 k2 ka kc tb ta tn sa sb s1 text := (HC.out.later HB1.out).keep hk2 (fun x e => by rw [e]; exact ⟨_, _, _, later_blk HB1.out HF.out.2, by decide, by decide⟩) hka
  have hkw : Keep (· = fb) w w2 := (Keep.of_below HB1.out).trans_ hk2 fun x e => .inl e
  have hr2 : RunAt w2 r fb := hk2.blk hrf HR1.out
  have hrun := run_cat (H := H) SA SB HSA.out HSB.out r fb k k1 k2 ka kc tb ta tn sa sb s1 text s _ w2 hr2 hc2 (HA.out.keepT hkw (fun k e => .inl (by rw [e]; exact hfb)) HDd.out) (HB.out.keepT hkw (fun k e => .inl (by rw [e]; exact hfb)) HDd.out) hf2 hfb ⟨by omega, hka⟩ hs htx i HP.out (by simp only; omega)
  have HRun := Lib.hid hrun
  have HKw := Lib.hid hkw
  clear hf2 hk2 hc2 hkw hr2 hrun HM
  go_wp2_with fail
  refine HRun.out.mono ?_
  rintro e w3 ⟨rfl, hr3, hk3⟩
  have HK3 := Lib.hid (HKw.out.trans_ hk3 fun x e => by
    rcases e with e | e
    · exact .inr (by omega)
    · exact .inl e)
  have x2 : w3.cell? ⟨r, 2, none⟩ = some (.int .i64 0) := cell_of_blk (o := 2) hr3 rfl
  clear hr3 hk3 HRun
  go_wp2_with fail
  refine bodyPost_ret (v := .tuple #[Str (s.take i ++ text), .int .i64 0]) ?_ rfl ⟨rfl, HK3.out⟩
  simp [results, Tryz.results82, go_sem]
theorem canonize_cat (SA SB SW : Pv.Side) (hSA : SA.Ok) (hSB : SB.Ok) (hSW : SW.Ok) (fb k k1 k2 ka kc tb ta tn sa sb s1 : Nat) (text s : List UInt8) (f : Pv.Fuel) (w : World) (hc : CatAt w k k1 k2 ka kc tb ta tn sa sb s1 text) (ha : SideAt H w SA sa) (hb : SideAt H w SB sb) (hw : SideAt H w SW s1) (hf : FuelAt w fb f) (hfb : H fb) (hka : ka ≠ fb) (hkl : ka < w.heap.size)
    (hs : s.length < 1000) (htx : text.length < 1000) (i : Nat) (hp : Pv.places SA SB s = [i]) (hac : SW.fore.accepts s = true) (hfl : 6 * s.length + text.length + 20 ≤ f.left) :
    Calls Tryz.prog 47 #[Ptr k, Str s, Ptr fb] w fun e w' => e = .returned (.tuple #[Str (s.take i ++ text), .int .i64 0]) ∧ Keep (· = fb) w w' := by
  have hm := made_cat (H := H) SA SB SW hSA hSB hSW fb k k1 k2 ka kc tb ta tn sa sb s1 text s f w hc ha hb hw hf hfb hka hkl hs htx i hp hac hfl
  have HM := Lib.hid hm
  clear hm hc ha hb hw hf hp
  go_enter Tryz.func47, Tryz.ntmps47
  go_wp2_with fail
  refine HM.out.mono ?_
  rintro e w3 ⟨rfl, hk3⟩
  have HK3 := Lib.hid hk3
  clear hk3
  go_wp2_with fail
  refine bodyPost_ret (v := .tuple #[Str (s.take i ++ text), .int .i64 0]) ?_ rfl ⟨rfl, HK3.out⟩
  simp [results, Tryz.results47, go_sem]
end Go.Proofs.YtbimpenhmefpeaaGreatDoor
namespace Go.Proofs.YtbimpenhmefpeaaGreatDoor
open Go.RowKit Go.Maps
variable {H : Nat → Prop}

abbrev F0 : Value := .agg #[.int .i64 0, .int .i64 0, .int .i64 0, .bool false, Str [], .int .i64 0, .int .i64 0]
theorem fl_set {w : World} {r : Nat} (h : w.heap[r]? = some (.cells #[.int .i64 0, .int .i64 0, .int .i64 0, .bool false, Str [], .int .i64 0, .int .i64 0] 36)) :
    (((((((w.setCell ⟨r, 0, none⟩ (.int .i64 0)).setCell ⟨r, 1, none⟩ (.int .i64 0)).setCell ⟨r, 2, none⟩ (.int .i64 0)).setCell ⟨r, 3, none⟩ (.bool false)).setCell ⟨r, 4, none⟩ (Str [])).setCell ⟨r, 5, none⟩ (.int .i64 0)).setCell ⟨r, 6, none⟩ (.int .i64 0)).heap[r]? = some (.cells #[.int .i64 0, .int .i64 0, .int .i64 0, .bool false, Str [], .int .i64 0, .int .i64 0] 36) ∧
    Keep (· = r) w (((((((w.setCell ⟨r, 0, none⟩ (.int .i64 0)).setCell ⟨r, 1, none⟩ (.int .i64 0)).setCell ⟨r, 2, none⟩ (.int .i64 0)).setCell ⟨r, 3, none⟩ (.bool false)).setCell ⟨r, 4, none⟩ (Str [])).setCell ⟨r, 5, none⟩ (.int .i64 0)).setCell ⟨r, 6, none⟩ (.int .i64 0)) := by
  have K : ∀ (W : World) (o : Nat) (v : Value), Keep (· = r) W (W.setCell ⟨r, o, none⟩ v) := fun W o v => Keep.set rfl
  refine ⟨?_, ((((((K _ _ _).trans (K _ _ _)).trans (K _ _ _)).trans (K _ _ _)).trans (K _ _ _)).trans (K _ _ _)).trans (K _ _ _)⟩
  rw [blk_set (blk_set (blk_set (blk_set (blk_set (blk_set (blk_set h))))))]
  rfl
set_option maxRecDepth 20000 in
theorem make_any (tb bb : Nat) (w : World) (Q : Nat → World → Prop) (hQ : ∀ k w1 w2 (cs : Array Value), Q k w1 → w1.heap[w.heap.size]? = some (.cells cs 36) → cs[0]? = some (.int .i64 0) → Keep (· = w.heap.size) w1 w2 → Q k w2)
    (hc : ∀ w1 c, Below w.heap.size w w1 → CkAt w1 c bb {} → w.heap.size < c → Calls Tryz.prog 21 #[Ptr c, Ptr tb] w1 fun e w' => ∃ k, e = .returned (Ptr k) ∧ Q k w' ∧ Keep (· = bb) w1 w') (hb : bb < w.heap.size) :
    Calls Tryz.prog 27 #[Ptr tb, Ptr bb] w fun e w' => ∃ k, e = .returned (.tuple #[Ptr k, F0]) ∧ Q k w' ∧ Keep (· = bb) w w' := by
  have HQ := Lib.hid hQ
  have HC := Lib.hid hc
  clear hQ hc
  go_enter Tryz.func27, Tryz.ntmps27
  go_wp2_with fail
  obtain ⟨r, hr⟩ : ∃ r, w.heap.size = r := ⟨_, rfl⟩
  obtain ⟨w1, hw1⟩ : ∃ w1, (w.alloc (.cells #[.int .i64 0, .int .i64 0, .int .i64 0, .bool false, Str [], .int .i64 0, .int .i64 0] 36)).alloc (.cells #[Ptr bb, .int .i64 0, .int .i64 0, .int .i64 0, .bool false, Str [], .int .i64 0, .int .i64 0] 38) = w1 := ⟨_, rfl⟩
  have hb1 : Below w.heap.size w w1 := by rw [← hw1]; exact ((Below.refl _ _).alloc (Nat.le_refl _) _).alloc (by simp) _
  have hr1 : w1.heap[r]? = some (.cells #[.int .i64 0, .int .i64 0, .int .i64 0, .bool false, Str [], .int .i64 0, .int .i64 0] 36) := by rw [← hw1]; exact blk_old (blk_new hr)
  have hc1 : CkAt w1 (r + 1) bb {} := by rw [← hw1]; exact blk_new (by simp; omega)
  rw [hw1, hr]
  clear hw1
  have hca := HC.out w1 (r + 1) hb1 hc1 (by omega)
  have HCa := Lib.hid hca
  have HR1 := Lib.hid hr1
  have HB1 := Lib.hid hb1
  have HC1 := Lib.hid hc1
  clear hca hb1 hr1 hc1 HC
  refine HCa.out.mono ?_
  rintro e w2 ⟨k, rfl, hq2, hk2⟩
  have hr2 := hk2.blk (show ¬ r = bb by omega) HR1.out
  have hok := ok_any (r + 1) bb {} w2 (HC1.out.keep hk2 (by omega))
  have HOk := Lib.hid hok
  have HR2 := Lib.hid hr2
  have HQ2 := Lib.hid hq2
  have HKw := Lib.hid ((Keep.of_below HB1.out).trans_ hk2 fun x e => .inl e)
  clear hok hr2 hq2 hk2 HCa
  go_wp2_with fail
  refine HOk.out.mono ?_
  rintro e w3 ⟨rfl, e3⟩
  subst e3
  clear HOk
  have x0 : w2.cell? ⟨r, 0, none⟩ = some (.int .i64 0) := cell_of_blk (o := 0) HR2.out rfl
  have x1 : w2.cell? ⟨r, 1, none⟩ = some (.int .i64 0) := cell_of_blk (o := 1) HR2.out rfl
  have x2 : w2.cell? ⟨r, 2, none⟩ = some (.int .i64 0) := cell_of_blk (o := 2) HR2.out rfl
  have x3 : w2.cell? ⟨r, 3, none⟩ = some (.bool false) := cell_of_blk (o := 3) HR2.out rfl
  have x4 : w2.cell? ⟨r, 4, none⟩ = some (Str []) := cell_of_blk (o := 4) HR2.out rfl
  have x5 : w2.cell? ⟨r, 5, none⟩ = some (.int .i64 0) := cell_of_blk (o := 5) HR2.out rfl
  have x6 : w2.cell? ⟨r, 6, none⟩ = some (.int .i64 0) := cell_of_blk (o := 6) HR2.out rfl
  have fr : ∀ o, w2.frozen? ⟨r, o, none⟩ = false := fun o => frozen_of_blk HR2.out
  go_wp2_with fail
  clear x0 x1 x2 x3 x4 x5 x6 fr
  have hst := fl_set HR2.out
  obtain ⟨w4, hw4⟩ : ∃ w4, (((((((w2.setCell ⟨r, 0, none⟩ (.int .i64 0)).setCell ⟨r, 1, none⟩ (.int .i64 0)).setCell ⟨r, 2, none⟩ (.int .i64 0)).setCell ⟨r, 3, none⟩ (.bool false)).setCell ⟨r, 4, none⟩ (Str [])).setCell ⟨r, 5, none⟩ (.int .i64 0)).setCell ⟨r, 6, none⟩ (.int .i64 0)) = w4 := ⟨_, rfl⟩
  rw [hw4] at hst ⊢
  clear hw4
  have x0 : w4.cell? ⟨r, 0, none⟩ = some (.int .i64 0) := cell_of_blk (o := 0) hst.1 rfl
  have x1 : w4.cell? ⟨r, 1, none⟩ = some (.int .i64 0) := cell_of_blk (o := 1) hst.1 rfl
  have x2 : w4.cell? ⟨r, 2, none⟩ = some (.int .i64 0) := cell_of_blk (o := 2) hst.1 rfl
  have x3 : w4.cell? ⟨r, 3, none⟩ = some (.bool false) := cell_of_blk (o := 3) hst.1 rfl
  have x4 : w4.cell? ⟨r, 4, none⟩ = some (Str []) := cell_of_blk (o := 4) hst.1 rfl
  have x5 : w4.cell? ⟨r, 5, none⟩ = some (.int .i64 0) := cell_of_blk (o := 5) hst.1 rfl
  have x6 : w4.cell? ⟨r, 6, none⟩ = some (.int .i64 0) := cell_of_blk (o := 6) hst.1 rfl
  refine bodyPost_ret (v := .tuple #[Ptr k, F0]) ?_ rfl ⟨k, rfl, HQ.out k w2 w4 _ HQ2.out (by rw [hr]; exact HR2.out) rfl (by rw [hr]; exact hst.2), HKw.out.trans_ hst.2 fun x e => .inr (by omega)⟩
  simp [results, Tryz.results27, go_sem, x0, x1, x2, x3, x4, x5, x6]
end Go.Proofs.YtbimpenhmefpeaaGreatDoor
