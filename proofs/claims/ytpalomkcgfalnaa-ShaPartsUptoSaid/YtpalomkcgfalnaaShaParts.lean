/- witanlaw02.ShaParts answers true for parts of up to 2^40 bytes together. -/
import Derived.Test.YtpalomkcgfalnaaFirst02
import Derived.Test.YtpalomkcgfalnaaOpen
namespace Go.Proofs.Ytpalomkcgfalnaa
open Go Go.RowKit Sh
set_option maxRecDepth 100000 in
set_option maxHeartbeats 2000000 in
theorem shaParts_any (v : Value) (ls : List (List UInt8)) (w : World) (hp : Parts w w.heap.size v ls) (hsz : ls.flatten.length ≤ 1099511627776) :
    Calls Try.prog 4 #[v] w fun e w' => e = .returned (.bool true) ∧ Below w.heap.size w w' := by
  have hp0 := hp
  obtain ⟨vs, ⟨A, c, rfl, hc, hcm, hrd⟩, hvl, hel⟩ := hp
  have hvm : vs.length ≤ 9223372036854775807 := by unfold maxLen at hcm; omega
  rw [hvl] at hvm hc hp0
  rw [hvl]
  go_enter Try.func4, Try.ntmps4
  go_wp2_with fail
  refine (first02 _).mono ?_
  rintro e w1 ⟨rfl, hb1⟩
  go_wp2_with fail
  go_loopw [3, 14] (fun u i wr => ∃ k : Nat, k ≤ ls.length ∧ i = .int .i64 k ∧ Own8 wr w.heap.size u (cat ls k) ∧ Below w.heap.size w wr) (fun _ i _ => ls.length - (intOf i).toNat)
  case atStart => exact ⟨0, Nat.zero_le _, rfl, Own8.nil _ _, hb1⟩
  case round =>
    clear hb1
    obtain ⟨k, hk, rfl, ho, hb⟩ := hrel
    by_cases hlt : k < ls.length
    · obtain ⟨g, o, rfl, _, hg, hcell⟩ := hrd.some (by omega)
      obtain ⟨Ak, ck, hx, hk1, hk2, hby⟩ := Parts.at_ hvl hel hlt
      have hcx : wr.cell? ⟨g, o + k, none⟩ = _ := (hb.cell (by exact hg)).trans (hcell k _ hx)
      have hfs := cat_step ls k hlt
      have hfl := cat_le ls (k + 1)
      rw [hfs, List.length_append] at hfl
      have HF := Lib.hid hfs
      have hby' := hby.below hb
      clear hfs hx hcell hel hrd hby hp0
      go_wp2_with (at_builtin; refine app8 _ w.heap.size _ _ rfl _ _ rfl rfl ho _ rfl (gl ls k) 0 w.heap.size hby' (by omega) hb.size ?_; intro A2 c2 w2 hc1 hc2 ho2 hb2 hg2 hat2)
      go_roundw
      case rel => exact ⟨k + 1, by omega, by go_num, by rw [List.length_append] at ho2; rw [HF.out]; exact ho2, hb.trans hb2⟩
      case measure => simp [intOf]; omega
    · obtain rfl : k = ls.length := by omega
      rw [cat_all] at ho
      obtain ⟨A3, c3, rfl, h31, h32⟩ := ho.form
      clear hrd hel
      generalize hm : ls.flatten = m at *
      have Hm := Lib.hid hm
      clear hm
      go_wp2_with fail
      have wry : By wr 0 wr.heap.size (.slice A3 m.length c3) m := ho.by_.less (Nat.zero_le _)
      clear ho
      refine (sum256_any _ ls wr ((hp0.below hb).more hb.size) (by rw [Hm.out]; omega)).mono ?_
      rintro e wa ⟨rfl, wab⟩
      have waB : Below w.heap.size w wa := hb.trans (wab.mono hb.size)
      have way : By wa 0 wa.heap.size (.slice A3 m.length c3) m := (wry.below wab).more wab.size
      rw [Hm.out]
      clear wab
      go_wp2_with fail
      obtain ⟨wb, hwb⟩ : ∃ x, x = wa.alloc (.cells #[.slice A3 m.length c3] 22) := ⟨_, rfl⟩
      rw [← hwb]
      have wbp : Parts wb wb.heap.size (.slice (some ⟨wa.heap.size, 0, none⟩) 1 1) [m] := by
        rw [hwb]; simpa using Parts.one wa 22 _ _ way
      have wbB : Below w.heap.size w wb := by rw [hwb]; exact waB.alloc waB.size _
      have wby : By wb 0 wb.heap.size (.slice A3 m.length c3) m := by rw [hwb]; exact (way.below ((Below.refl _ _).alloc (Nat.le_refl _) _)).more (by simp)
      clear hwb
      refine (sum256_any _ [m] wb wbp (by simpa using hsz)).mono ?_
      rintro e wc ⟨rfl, wcb⟩
      have wcB : Below w.heap.size w wc := wbB.trans (wcb.mono wbB.size)
      have wcy : By wc 0 wc.heap.size (.slice A3 m.length c3) m := (wby.below wcb).more wcb.size
      have wce : [m].flatten = m := by simp
      rw [wce]
      clear wcb wce wbp
      have hl := length_sum32 m
      generalize sum32 m = H at *
      go_wp2_with fail
      obtain ⟨wd, hwd⟩ : ∃ x, x = putAt (putAt ((wc.alloc (Obj.cells (c8 (z8 32)).toArray 25)).alloc (Obj.cells (c8 (z8 32)).toArray 25)) ⟨wc.heap.size, 0, none⟩ (c8 H)) ⟨wc.heap.size + 1, 0, none⟩ (c8 H) := ⟨_, rfl⟩
      rw [← hwd]
      have wdB : Below w.heap.size w wd := by rw [hwd]; have := wcB.size; exact below_putAt (below_putAt ((wcB.alloc wcB.size _).alloc (by simp; omega) _) (by exact wcB.size) _) (by simp; omega) _
      have wdA : Bk wd wc.heap.size 25 (c8 H) := by rw [hwd]; exact (((Bk.new wc _ _).alloc _).puts (by simp [hl])).putFar (by simp) _
      have wdC : Bk wd (wc.heap.size + 1) 25 (c8 H) := by
        rw [hwd]
        have := (Bk.new (wc.alloc (Obj.cells (c8 (z8 32)).toArray 25)) 25 (c8 (z8 32))).putFar (p := ⟨wc.heap.size, 0, none⟩) (by simp) (c8 H)
        exact Bk.puts (by simpa using this) (by simp [hl])
      have wdy : By wd 0 wd.heap.size (.slice A3 m.length c3) m := by
        rw [hwd]
        exact (wcy.below (below_putAt (below_putAt (((Below.refl _ _).alloc (Nat.le_refl _) _).alloc (by simp) _) (by simp) _) (by simp) _)).more (by simp; omega)
      generalize wc.heap.size = gc at *
      have gcl := wdC.lt
      clear hwd wcB wcy wbB wby waB way wry
      refine (sum512_any _ ls wd ((hp0.below wdB).more wdB.size) (by rw [Hm.out]; omega)).mono ?_
      rintro e we ⟨rfl, web⟩
      have weB : Below w.heap.size w we := wdB.trans (web.mono wdB.size)
      have wey : By we 0 we.heap.size (.slice A3 m.length c3) m := (wdy.below web).more web.size
      have weA := wdA.below web (by omega)
      have weC := wdC.below web gcl
      have weL := web.size
      rw [Hm.out]
      clear web
      go_wp2_with fail
      obtain ⟨wf, hwf⟩ : ∃ x, x = we.alloc (.cells #[.slice A3 m.length c3] 22) := ⟨_, rfl⟩
      rw [← hwf]
      have wfp : Parts wf wf.heap.size (.slice (some ⟨we.heap.size, 0, none⟩) 1 1) [m] := by
        rw [hwf]; simpa using Parts.one we 22 _ _ wey
      have wfB : Below w.heap.size w wf := by rw [hwf]; exact weB.alloc weB.size _
      have wfy : By wf 0 wf.heap.size (.slice A3 m.length c3) m := by rw [hwf]; exact (wey.below ((Below.refl _ _).alloc (Nat.le_refl _) _)).more (by simp)
      have wfA : Bk wf gc 25 (c8 H) := by rw [hwf]; exact weA.alloc _
      have wfC : Bk wf (gc + 1) 25 (c8 H) := by rw [hwf]; exact weC.alloc _
      clear hwf
      refine (sum512_any _ [m] wf wfp (by simpa using hsz)).mono ?_
      rintro e wg ⟨rfl, wgb⟩
      have wgB : Below w.heap.size w wg := wfB.trans (wgb.mono wfB.size)
      have wgy : By wg 0 wg.heap.size (.slice A3 m.length c3) m := (wfy.below wgb).more wgb.size
      have wgA := wfA.below wgb wfA.lt
      have wgC := wfC.below wgb wfC.lt
      have wge : [m].flatten = m := by simp
      rw [wge]
      clear wgb wge wfp
      have hl2 := length_sum64 m
      generalize sum64 m = G at *
      have gg := wgC.lt
      have r6 : rowAt (putAt (putAt ((wg.alloc (Obj.cells (c8 (z8 64)).toArray 27)).alloc (Obj.cells (c8 (z8 64)).toArray 27)) ⟨wg.heap.size, 0, none⟩ (c8 G)) ⟨wg.heap.size + 1, 0, none⟩ (c8 G)) ⟨gc, 0, none⟩ 32 = some (c8 H) := by
        have h := (((wgA.alloc (Obj.cells (c8 (z8 64)).toArray 27)).alloc (Obj.cells (c8 (z8 64)).toArray 27)).putFar (p := ⟨wg.heap.size, 0, none⟩) (by simp; omega) (c8 G)).putFar (p := ⟨wg.heap.size + 1, 0, none⟩) (by simp; omega) (c8 G)
        have := h.rows
        rwa [length_c8, hl] at this
      have r7 : rowAt (putAt (putAt ((wg.alloc (Obj.cells (c8 (z8 64)).toArray 27)).alloc (Obj.cells (c8 (z8 64)).toArray 27)) ⟨wg.heap.size, 0, none⟩ (c8 G)) ⟨wg.heap.size + 1, 0, none⟩ (c8 G)) ⟨gc + 1, 0, none⟩ 32 = some (c8 H) := by
        have h := (((wgC.alloc (Obj.cells (c8 (z8 64)).toArray 27)).alloc (Obj.cells (c8 (z8 64)).toArray 27)).putFar (p := ⟨wg.heap.size, 0, none⟩) (by simp; omega) (c8 G)).putFar (p := ⟨wg.heap.size + 1, 0, none⟩) (by simp; omega) (c8 G)
        have := h.rows
        rwa [length_c8, hl] at this
      have r8 : rowAt (putAt (putAt ((wg.alloc (Obj.cells (c8 (z8 64)).toArray 27)).alloc (Obj.cells (c8 (z8 64)).toArray 27)) ⟨wg.heap.size, 0, none⟩ (c8 G)) ⟨wg.heap.size + 1, 0, none⟩ (c8 G)) ⟨wg.heap.size, 0, none⟩ 64 = some (c8 G) := by
        have h : Bk (putAt (putAt ((wg.alloc (Obj.cells (c8 (z8 64)).toArray 27)).alloc (Obj.cells (c8 (z8 64)).toArray 27)) ⟨wg.heap.size, 0, none⟩ (c8 G)) ⟨wg.heap.size + 1, 0, none⟩ (c8 G)) wg.heap.size 27 (c8 G) := (((Bk.new wg _ _).alloc _).puts (by simp [hl2])).putFar (by simp) _
        have := h.rows
        rwa [length_c8, hl2] at this
      have r9 : rowAt (putAt (putAt ((wg.alloc (Obj.cells (c8 (z8 64)).toArray 27)).alloc (Obj.cells (c8 (z8 64)).toArray 27)) ⟨wg.heap.size, 0, none⟩ (c8 G)) ⟨wg.heap.size + 1, 0, none⟩ (c8 G)) ⟨wg.heap.size + 1, 0, none⟩ 64 = some (c8 G) := by
        have h : Bk (putAt (putAt ((wg.alloc (Obj.cells (c8 (z8 64)).toArray 27)).alloc (Obj.cells (c8 (z8 64)).toArray 27)) ⟨wg.heap.size, 0, none⟩ (c8 G)) ⟨wg.heap.size + 1, 0, none⟩ (c8 G)) (wg.heap.size + 1) 27 (c8 G) := by
          have := (Bk.new (wg.alloc (Obj.cells (c8 (z8 64)).toArray 27)) 27 (c8 (z8 64))).putFar (p := ⟨wg.heap.size, 0, none⟩) (by simp) (c8 G)
          exact Bk.puts (by simpa using this) (by simp [hl2])
        have := h.rows
        rwa [length_c8, hl2] at this
      have hfin : Below w.heap.size w (putAt (putAt ((wg.alloc (Obj.cells (c8 (z8 64)).toArray 27)).alloc (Obj.cells (c8 (z8 64)).toArray 27)) ⟨wg.heap.size, 0, none⟩ (c8 G)) ⟨wg.heap.size + 1, 0, none⟩ (c8 G)) := below_putAt (below_putAt ((wgB.alloc wgB.size _).alloc (by simp; have := wgB.size; omega) _) (by exact wgB.size) _) (by simp; have := wgB.size; omega) _
      have HFIN := Lib.hid hfin
      clear hfin wgA wgC wgB wgy wfA wfC wfB wfy weA weC weB wey wdA wdC wdB wdy hp0
      go_wp2_with fail
      go_ret
      exact ⟨rfl, HFIN.out⟩
end Go.Proofs.Ytpalomkcgfalnaa
