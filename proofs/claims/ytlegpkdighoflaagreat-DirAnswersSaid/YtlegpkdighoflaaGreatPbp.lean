/- A part of the proof of DirAnswers. -/
import Derived.Test.YtlegpkdighoflaaGreatPbo
set_option linter.unusedVariables false
set_option linter.unusedSimpArgs false
set_option maxRecDepth 100000
set_option maxHeartbeats 40000000
namespace Go.Proofs.YtlegpkdighoflaaGreat
open Go Go.RowKit Sh
section
@[go_sem ↓ high] theorem E4v (w : World) (ρ : Operand → Value) (dst : Option Tmp) (ty : TypeId) (pos : String) (after : Array Edge) (guard : Option (Nat × Bool)) (x y : Operand) (yt : TypeId) :
 (execOp ρ { dst,op:=.binOp .neq 9 x y yt,type:=ty,pos,after,guard }).run Tryz.prog w=B7i true w (Q0 Tryz.prog ρ { dst,op:=.binOp .neq 9 x y yt,type:=ty,pos,after,guard } w) (ρ x) (ρ y):=by
 generalize hx:ρ x=a;generalize hy:ρ y=b;unfold B7i;split
 ·rename_i s t
  simp only[execOp,hx,hy,eqGuard_at_string,binOp_string_neq,Ye];simp
 ·rfl
theorem C0u:RL' 47 2:=LL' Zv A0j
theorem Ps.zero {w:World} {lo B:Nat} {v:Value} {l:List Pr} (h:Ps w lo B v l):Ps w 0 B v l:=let ⟨h0,A,c,h1,h2,h3,h4⟩:=h;⟨h0,A,c,h1,h2,h3,h4.less (Nat.zero_le _)⟩
attribute [local go_sem ↓ high] Vn Xm A6j A0k A3z C0u
theorem dirAnswers_any (v : Value) (l : List AV) (id : List UInt8) (hid : id.length = 32) (w : World) (hv : As w w.heap.size v l) : Calls Tryz.prog 3 #[v, A8 id] w fun x w' => x = .returned (.bool true) ∧ Below w.heap.size w w' := by
  obtain ⟨w0, bQ⟩ := F9 (w.alloc (Obj.cells (c8 id).toArray 23))
  have B0 := BA' bQ
  have ki := KN' bQ
  have HA := Lib.hid (show As w0 w0.heap.size v l from by
    obtain ⟨A, c, h1, h2, h3, h4⟩ := hv
    exact ⟨A, c, h1, h2, h3, (h4.below B0).more B0.size⟩)
  go_enter Tryz.func3, Tryz.ntmps3
  go_wp2_with fail
  rw [← bQ]
  clear bQ hv
  refine (C0e w0).mono ?_
  rintro x w1 ⟨rfl, b1⟩
  have cV := Lib.hid (show As w1 w1.heap.size v l from by
    obtain ⟨A, c, h1, h2, h3, h4⟩ := HA.out
    exact ⟨A, c, h1, h2, h3, (h4.below b1).more b1.size⟩)
  have bC := ki.bl b1
  have B1 := K9 B0 b1
  clear HA ki B0 b1
  go_wp2_with fail
  refine (B1k v l w1 cV.out).mono ?_
  rintro x w2 ⟨ov, gv, bs, rfl, hb, cW, eE, b2⟩
  have bD := bC.bl b2
  have B2 := K9 B1 b2
  obtain ⟨⟨Ao, co, rfl⟩, ⟨Ag, cg, rfl⟩⟩ := hb.form
  obtain ⟨n, hn⟩ := F9 (bs.length)
  rw [← hn] at hb cW ⊢
  have HN := Lib.hid hn
  clear bC B1 b2 cV hn
  obtain ⟨w3, bX⟩ := F9 ((w2.alloc (Obj.cells #[.int .i64 0, .pointer none, .int .i64 0, .map none] 34)).alloc (Obj.cells #[.int .i64 0, .slice none 0 0] 37))
  have hL : w3 = M9 w2 [(34, [.int .i64 0, .pointer none, .int .i64 0, .map none]), (37, [.int .i64 0, .slice none 0 0])] := bX
  have b3 := Ki hL
  have kD : Bk w3 w2.heap.size 34 [.int .i64 0, .pointer none, .int .i64 0, .map none] := by rw [hL]; exact Z7 _ w2 0 _ _ rfl
  have kX : Bk w3 (w2.heap.size + 1) 37 [.int .i64 0, .slice none 0 0] := by rw [hL]; exact Z7 _ w2 1 _ _ rfl
  have I0 : DaI w w3 w2.heap.size (w2.heap.size + 1) (.slice Ao n co) (.slice Ag n cg) bs 0 (.agg #[.int .i64 0, .pointer none, .int .i64 0, .map none]) (.slice none 0 0) [] 0 :=
    ⟨rfl, ⟨none, none, rfl, kD⟩, ⟨none, 0, rfl, kX⟩, DirIs.nil w3, Es.nil _ _, hb.up b3, Nat.le_refl _, Nat.le_refl _, fun x => Nat.le_refl _, E3 B2 b3 B2.size⟩
  have bR := bD.bl b3
  have eF : w.heap.size < w2.heap.size := bD.lt
  clear hL kD kX B2 b3 hb
  go_wp2_with fail
  rw [← bX]
  clear bX
  generalize w2.heap.size = gD at *
  go_loopw [25] (fun x wr => ∃ (i : Nat) (dv ev : Value) (L : List En) (N : Nat), i ≤ n ∧ x = .int .i64 (i : Int) ∧ DaI w wr gD (gD + 1) (.slice Ao n co) (.slice Ag n cg) bs i dv ev L N ∧ Bk wr w.heap.size 23 (c8 id)) (fun x _ => n - (intOf x).toNat)
  case atStart => exact ⟨0, _, _, [], 0, by omega, rfl, I0, bR⟩
  case round =>
    clear I0 bR
    obtain ⟨i, dv, ev, L, N, hi, rfl, I, ki⟩ := hrel
    by_cases hlt : i < n
    · have hd : decide ((i : Int) < (n : Int)) = true := decide_eq_true (by omega)
      have aY := decide_eq_true hlt
      obtain ⟨us, bS⟩ : ∃ us, bs[i]? = some us := ⟨_, List.getElem?_eq_getElem (by rw [← HN.out]; exact hlt)⟩
      go_wp2_with fail
      obtain ⟨g1, g2, uv, bv, rfl, rfl, cX, cY, q1, q2, hU, hG, bY⟩ := I.bat.at_ bS
      obtain ⟨ap, mb, rfl, kD⟩ := I.kd
      obtain ⟨Ax, cx, rfl, kX⟩ := I.kx
      obtain ⟨Au, cu, rfl⟩ := hU.form
      have eG := eE us (List.mem_of_getElem? bS)
      obtain ⟨eH, bZ, bE⟩ := Yq I.dir.okE hU.allOk
      have cZ := Lib.hid (show applyE us L = allE (bs.take (i + 1)) from by rw [B7p bS, ← I.eq])
      have aF := I.lks
      have aQ := I.len
      have hN := I.hN
      clear bS
      have S0 := Fx wr
      have I1 := I.up S0
      have HU := Lib.hid ((hU.below S0).more S0.size)
      have HG := Lib.hid ((hG.below S0).more S0.size)
      have cA := kD.drew
      have cB := kX.drew
      have aO := Lib.hid I1
      have eI : gD + 1 < wr.heap.size := kX.lt
      obtain ⟨n1, n2⟩ := bY _ _ _ kD (by decide) (by decide)
      obtain ⟨n3, n4⟩ := bY _ _ _ kX (by decide) (by decide)
      clear bY
      have bC := ki.drew
      clear hU hG I
      refine Fa (fun X => X.cell? ⟨g1, i, none⟩ = some (.slice Au us.length cu) ∧ X.cell? ⟨g2, i, none⟩ = some bv) ?_
      refine Df (A := ?fQ) [1, 2, 3, 4, 7, 8, 9, 10, 11, 12, 13, 14] ⟨q1, q2⟩ (fun X hX => ?eJ) ?fR
      case eJ =>
        have f1 := hX.1
        have f2 := hX.2
        exact Ei
      have aB : ∀ {X : World} {g : Nat} {u : Value}, g < wr.heap.size → wr.cell? ⟨g, i, none⟩ = some u → Below wr.drew.heap.size wr.drew X → X.cell? ⟨g, i, none⟩ = some u := fun {X g u} hg hu hb => by
        rw [hb.cell (p := ⟨g, i, none⟩) hg]; exact hu
      refine J8 [zv 0 28 (.agg #[.int .i64 (i : Int), .pointer ap, .int .i64 0, .map mb]), zv 6 34 (.agg #[.int .i64 (i : Int), .slice Ax L.length cx]), ⟨5, 33, fun v W => DirIs W v (i + 1) (applyE us L) (N + us.length), false⟩, ⟨15, 43, fun v W => ∃ ev, v = .agg #[.int .i64 ((i + 1 : Nat) : Int), ev] ∧ Es W W.heap.size ev (applyE us L), false⟩] (by kernel_rfl) (fun X hX => ⟨aB cX q1 hX, aB cY q2 hX⟩) ?mo ?st ?re
      case mo => exact P5 ⟨Ph _ _ _, P5 ⟨Ph _ _ _, P5 ⟨fun _ _ _ h hb => h.up hb, P5 ⟨fun _ _ _ h hb => (by obtain ⟨ev, h1, h2⟩ := h; exact ⟨ev, h1, h2.up hb⟩), fun _ h => by cases h⟩⟩⟩⟩
      case st =>
        refine P5 ⟨?s0, P5 ⟨?s6, P5 ⟨?s5, P5 ⟨?eK, fun _ h => by cases h⟩⟩⟩⟩
        case s0 =>
          intro o ho aC X hX hp Q' hQ'
          obtain rfl := Option.some.inj ho
          clear hp ho
          have f1 : J1 X ⟨gD, 0, none⟩ 4 = some [.int .i64 (i : Int), .pointer ap, .int .i64 0, .map mb] := (cA.bl hX).rows
          rw [C7] at hQ' ⊢
          dsimp only [F0, H8, List.foldl, zv] at hQ' ⊢
          simp only [Ch]
          go_wp2_with fail
          exact Cz (hQ' _ _ (Below.refl _ _) rfl nofun)
        case s6 =>
          intro o ho aC X hX hp Q' hQ'
          obtain rfl := Option.some.inj ho
          clear hp ho
          have f1 : J1 X ⟨gD + 1, 0, none⟩ 2 = some [.int .i64 (i : Int), .slice Ax L.length cx] := (cB.bl hX).rows
          rw [C7] at hQ' ⊢
          dsimp only [F0, H8, List.foldl, zv] at hQ' ⊢
          simp only [Ch]
          go_wp2_with fail
          exact Cz (hQ' _ _ (Below.refl _ _) rfl nofun)
        case s5 =>
          intro o ho aC X hX hp Q' hQ'
          obtain rfl := Option.some.inj ho
          have bF : aC 0 = .agg #[.int .i64 (i : Int), .pointer ap, .int .i64 0, .map mb] := hp 0 _ rfl (by kernel_rfl)
          clear hp ho
          rw [C7] at hQ' ⊢
          dsimp only [F0, H8, List.foldl, zv] at hQ' ⊢
          simp only [Ch]
          rw [bF] at hQ' ⊢
          clear bF
          have IX := Lib.hid (aO.out.up hX)
          have cC := Lib.hid ((HU.out.below hX).more hX.size)
          go_wp2_with fail
          refine (Zz _ i L N us _ X IX.out.dir cC.out (by omega) (by omega) (by omega) (fun x => by have := aF x; omega)).mono ?_
          rintro x X2 ⟨fS, rfl, aY, b2⟩
          go_wp2_with fail
          exact Cz (hQ' _ _ b2 aY nofun)
        case eK =>
          intro o ho aC X hX hp Q' hQ'
          obtain rfl := Option.some.inj ho
          have bG : aC 6 = .agg #[.int .i64 (i : Int), .slice Ax L.length cx] := hp 1 _ rfl (by kernel_rfl)
          clear hp ho
          rw [C7] at hQ' ⊢
          dsimp only [F0, H8, List.foldl, zv] at hQ' ⊢
          simp only [Ch]
          rw [bG] at hQ' ⊢
          clear bG
          have IX := Lib.hid (aO.out.up hX)
          have cC := Lib.hid ((HU.out.below hX).more hX.size)
          have eL := Lib.hid ((HG.out.below hX).more hX.size)
          go_wp2_with fail
          refine (B3g i _ L us _ _ X IX.out.es IX.out.dir.okE cC.out eL.out (by omega) (by omega) (fun x => by have := aF x; omega)).mono ?_
          rintro x X2 ⟨dB, rfl, eM, b2⟩
          go_wp2_with fail
          exact Cz (hQ' _ _ b2 ⟨dB, rfl, eM⟩ nofun)
      case re =>
      intro aC W1 b1 aL aR cD
      have bF : aC 0 = .agg #[.int .i64 (i : Int), .pointer ap, .int .i64 0, .map mb] := aL _ (O8 0 rfl)
      have bG : aC 6 = .agg #[.int .i64 (i : Int), .slice Ax L.length cx] := aL _ (O8 1 rfl)
      have bH : DirIs W1 (aC 5) (i + 1) (applyE us L) (N + us.length) := aL _ (O8 2 rfl)
      obtain ⟨dB, bI, cE⟩ : ∃ ev, aC 15 = .agg #[.int .i64 ((i + 1 : Nat) : Int), ev] ∧ Es W1 W1.heap.size ev (applyE us L) := aL _ (O8 3 rfl)
      obtain ⟨aJ, aK, cF⟩ := bH.form
      obtain ⟨aS, aT, rfl, _, _⟩ := cE.form
      rw [cF] at bH
      rw [C7]
      dsimp only [H8, List.foldl, zv]
      simp only [Ch]
      rw [bF, bG, cF, bI]
      clear aL aR cD bF bG cF bI
      have dC : ((i + 1 : Nat) : Int) = (i : Int) + 1 := rfl
      rw [dC] at bH
      rw [dC]
      have bJ := (aO.out.up b1).bat
      have BW := (aO.out.up b1).below
      have c1 := aB cX q1 b1
      have c2 := aB cY q2 b1
      have aZ := cA.bl b1
      have dD := cB.bl b1
      have dE := bC.bl b1
      have dF := Gy 4 aZ (by simp)
      obtain ⟨W2, aG⟩ := F9 (D8 W1 ⟨gD, 0, none⟩ [.int .i64 ((i : Int) + 1), .pointer aJ, .int .i64 0, .map aK])
      have dG : Bk W2 gD 34 [.int .i64 ((i : Int) + 1), .pointer aJ, .int .i64 0, .map aK] := by rw [aG]; exact aZ.puts (by simp)
      have bA : Bk W2 (gD + 1) 37 [.int .i64 (i : Int), .slice Ax L.length cx] := by rw [aG]; exact dD.putFar (by simp) _
      have bD : Bk W2 w.heap.size 23 (c8 id) := by rw [aG]; exact dE.putFar (by simp; omega) _
      have dH : DirIs W2 (.agg #[.int .i64 ((i : Int) + 1), .pointer aJ, .int .i64 0, .map aK]) (i + 1) (applyE us L) (N + us.length) := by rw [aG]; exact bH.put aZ (A8s _ _ _ _) (by decide)
      have dI : Es W2 W2.heap.size (.slice aS (applyE us L).length aT) (applyE us L) := by
        rw [aG]
        have := cE.put (o := 0) (vs := [.int .i64 ((i : Int) + 1), .pointer aJ, .int .i64 0, .map aK]) aZ (A8s _ _ _ _)
        simpa using this
      have dJ : BatchIs W2 (.slice (some ⟨g1, 0, none⟩) n co) (.slice (some ⟨g2, 0, none⟩) n cg) bs := by rw [aG]; exact bJ.put aZ (by decide) (by decide) (by decide) (by decide)
      have dK : W2.cell? ⟨g1, i, none⟩ = some (.slice Au us.length cu) := by rw [aG, Ck n1]; exact c1
      have dL : W2.cell? ⟨g2, i, none⟩ = some bv := by rw [aG, Ck n2]; exact c2
      have dM : Below w.heap.size w W2 := by rw [aG]; exact C5 BW (by simp; omega) _
      have dN := Gy 2 bA (by simp)
      obtain ⟨W3, aH⟩ := F9 (D8 W2 ⟨gD + 1, 0, none⟩ [.int .i64 ((i : Int) + 1), .slice aS (applyE us L).length aT])
      have I3 : DaI w W3 gD (gD + 1) (.slice (some ⟨g1, 0, none⟩) n co) (.slice (some ⟨g2, 0, none⟩) n cg) bs (i + 1) (.agg #[.int .i64 ((i : Int) + 1), .pointer aJ, .int .i64 0, .map aK]) (.slice aS (applyE us L).length aT) (applyE us L) (N + us.length) :=
        { eq := cZ.out
          kd := ⟨aJ, aK, rfl, by rw [aH]; exact dG.putFar (by simp) _⟩
          kx := ⟨aS, aT, rfl, by rw [aH]; exact bA.puts (by simp)⟩
          dir := by rw [aH]; exact dH.put bA (Vx _ _ _ _) (by decide)
          es := by
            rw [aH]
            have := dI.put (o := 0) (vs := [.int .i64 ((i : Int) + 1), .slice aS (applyE us L).length aT]) bA (Vx _ _ _ _)
            simpa using this
          bat := by rw [aH]; exact dJ.put bA (by decide) (by decide) (by decide) (by decide)
          hN := by omega
          len := by omega
          lks := fun x => by have a := bE x; have b := aF x; omega
          below := by rw [aH]; exact C5 dM (by simp; omega) _ }
      have bR : Bk W3 w.heap.size 23 (c8 id) := by rw [aH]; exact bD.putFar (by simp; omega) _
      have cG : W3.cell? ⟨g1, i, none⟩ = some (.slice Au us.length cu) := by rw [aH, Ck n3]; exact dK
      have cH : W3.cell? ⟨g2, i, none⟩ = some bv := by rw [aH, Ck n4]; exact dL
      have eN := Lib.hid I3
      clear I3 bJ BW c1 c2 aZ dD dE dG bA bD dH dI dJ dM bH cE q1 q2 kD kX cA cB ki bC I1 aO aB HU HG eH bZ bE cZ
      refine U7 16 fun Q' hQ' => ?_
      dsimp only [F0]
      go_wp2_with fail
      rw [← aG]
      refine hQ' _ _ ⟨dK, dL⟩ ?_
      clear hQ' aG
      refine U7 17 fun Q' hQ' => ?_
      dsimp only [F0]
      go_wp2_with fail
      rw [← aH]
      refine hQ' _ _ ⟨cG, cH⟩ ?_
      clear hQ' aH
      refine Ef ?_
      go_wp2_with fail
      go_roundw
      case rel => exact ⟨i + 1, _, _, applyE us L, N + us.length, by omega, by go_num, eN.out, bR⟩
      case measure => simp [intOf]; omega
    · obtain rfl : i = n := by omega
      have hd : decide ((i : Int) < (i : Int)) = false := decide_eq_false (by omega)
      obtain ⟨ap, mb, rfl, kD⟩ := I.kd
      obtain ⟨Ax, cx, rfl, kX⟩ := I.kx
      have eI : gD + 1 < wr.heap.size := kX.lt
      obtain ⟨Wa, bT⟩ := F9 (wr.alloc (Obj.cells (c8 id).toArray 23))
      have ba := BA' bT
      have r0 := Bk.row8 (n := 32) ki hid
      have x1 := (kX.alloc (Obj.cells (c8 id).toArray 23)).at_ (i := 1) rfl
      have o1 : De Wa wr.heap.size (.slice (some ⟨wr.heap.size, 0, none⟩) 1 1) [id] := by rw [bT]; exact De.one' wr wr.heap.size (Nat.le_refl _) hid
      have HI := Lib.hid I
      have aF := I.lks
      have aQ := I.len
      have cI : Es wr wr.heap.size (.slice Ax L.length cx) L := I.es
      obtain ⟨m, hm⟩ := F9 (L.length)
      have HM := Lib.hid hm
      have cJ := Lib.hid cI
      rw [← hm] at cJ aQ x1 kX
      have eO : m ≤ cx ∧ cx ≤ 9223372036854775807 := by
        obtain ⟨A0, c0, e0, e1, e2⟩ := cI.form
        injection e0 with _ _ e3
        subst e3
        exact ⟨by omega, e2⟩
      obtain ⟨fT, fU⟩ := eO
      clear cI hm I
      go_wp2_with fail
      rw [← bT]
      have dO : m ≤ 156 := by omega
      have aD : ∀ x, (lookE L x).length ≤ 156 := fun x => by have := aF x; omega
      clear bT x1 r0 ki kD kX hd hi HN cW aF aQ
      have z1 : wr.heap.size < Wa.heap.size := by
        rcases o1.2.2 with ⟨_, h⟩ | ⟨g', cap, cur, e1, _, h, _⟩
        · simp at h
        · injection e1 with e1
          injection e1 with e1
          injection e1 with e1
          subst e1
          exact (Array.getElem?_eq_some_iff.1 h).1
      generalize hbase : wr.heap.size = base at *
      have HB := Lib.hid hbase
      clear hbase
      obtain ⟨Wz, rfl⟩ := F9 (wr)
      go_loopw [10, 50] (fun kv x wr => ∃ (j : Nat) (A : Option Addr) (c : Nat), j ≤ m ∧ x = .int .i64 (j : Int) ∧ kv = .slice A (j + 1) c ∧ De wr base kv (id :: (L.take j).map Prod.fst) ∧ Below base Wz wr ∧ base ≤ wr.heap.size) (fun _ x _ => m - (intOf x).toNat)
      case atStart => exact ⟨0, some ⟨base, 0, none⟩, 1, by omega, rfl, rfl, o1, ba, by omega⟩
      case round =>
        clear o1 ba z1
        obtain ⟨j, A, c, hj, rfl, rfl, O, Bj, zj⟩ := hrel
        by_cases hlt : j < m
        · have hd : decide ((j : Int) < (m : Int)) = true := decide_eq_true (by omega)
          have aY := decide_eq_true hlt
          obtain ⟨q, hq⟩ : ∃ q, L[j]? = some q := ⟨_, List.getElem?_eq_getElem (by rw [← HM.out]; exact hlt)⟩
          have bK : Es wr base (.slice Ax m cx) L := by
            have := cJ.out
            exact this.below Bj
          obtain ⟨g, o, r, rfl, hg, hr, aU⟩ := bK.at_ hq
          have aI : r.id.length = 32 := by rw [hr.1]; exact hr.2.1
          have eP := Rw.len aI
          have bL := Lib.hid hr.1
          have HQ : Hid ((L.take (j + 1)).map Prod.fst = (L.take j).map Prod.fst ++ [q.1]) := Lib.hid (by rw [List.take_add_one, hq]; simp)
          have dP : ((id :: (L.take j).map Prod.fst) : List (List UInt8)).length = j + 1 := by simp [← HM.out]; omega
          obtain ⟨W, hW⟩ := F9 (D8 (wr.alloc (Obj.cells rwz.cells.toArray 44)) ⟨wr.heap.size, 0, none⟩ r.cells)
          have k0 : Bk (wr.alloc (Obj.cells rwz.cells.toArray 44)) wr.heap.size 44 rwz.cells := Bk.new wr _ _
          have aM := Rw.can k0 Re
          have kW : Bk W wr.heap.size 44 r.cells := by rw [hW]; exact Rw.put k0 Re aI
          have bW : Below wr.heap.size wr W := by rw [hW]; exact C5 (Aw _ _) (Nat.le_refl _) _
          have OW : De W base (.slice A (j + 1) c) (id :: (L.take j).map Prod.fst) := De.below O bW (Nat.le_refl _)
          have BW := E3 Bj bW zj
          have zW := Nat.le_trans zj bW.size
          have f1 := Rw.loadid kW aI
          have aV := OW.2
          rw [dP] at aV
          have eQ : ∀ u ∈ c8 r.id, u.oneCell' = true := by intro u hu; obtain ⟨x, _, rfl⟩ := List.mem_map.1 hu; rfl
          have dQ := zW
          rw [hW] at f1 aV dQ
          clear k0 O Bj bK hr
          go_wp2_with (at_builtin; refine Cv 42 23 (A8 (z8 32)) 32 32 Tryz.underlying42 Xy (by simp [A8, Value.cells]) (by decide) (by decide) rfl _ _ rfl rfl aV (c8 r.id) (by simp [aI]) eQ _ rfl rfl (by first | rfl | simp) (by omega) dQ ?_; intro A5 c5 w5 fV fW bM cK fX eS)
          rw [← hW] at cK
          have O5 : De w5 base (.slice A5 (j + 1 + 1) c5) (id :: (L.take (j + 1)).map Prod.fst) := by
            refine ⟨fun k hk => ?_, ?_⟩
            · rw [HQ.out, ← bL.out] at hk
              rcases List.mem_cons.1 hk with rfl | hk
              · exact hid
              · rcases List.mem_append.1 hk with hk | hk
                · exact OW.1 k (List.mem_cons_of_mem _ hk)
                · simp at hk; subst hk; exact aI
            · have e1 : ((id :: (L.take (j + 1)).map Prod.fst) : List (List UInt8)).length = j + 1 + 1 := by rw [HQ.out, List.length_cons, List.length_append, List.length_singleton]; rw [List.length_cons] at dP; omega
              have e2 : c8 ((id :: (L.take (j + 1)).map Prod.fst) : List (List UInt8)).flatten = c8 ((id :: (L.take j).map Prod.fst) : List (List UInt8)).flatten ++ c8 r.id := by
                rw [HQ.out, ← bL.out]; simp [c8]
              rw [e1, e2]
              exact bM
          have B5 := BW.trans cK
          have z5 := Nat.le_trans zW cK.size
          go_roundw
          case rel => exact ⟨j + 1, A5, c5, by omega, by go_num, rfl, O5, B5, z5⟩
          case measure => simp [intOf]; omega
        · obtain rfl : j = m := by omega
          have hd : decide ((j : Int) < (j : Int)) = false := decide_eq_false (by omega)
          have aY : decide (j < j) = false := decide_eq_false (by omega)
          have aP : L.take j = L := List.take_of_length_le (by rw [← HM.out]; exact Nat.le_refl _)
          rw [aP] at O
          have Bz : Below Wz.heap.size Wz wr := by rw [HB.out]; exact Bj
          have I1 := HI.out.up Bz
          obtain ⟨t, ht⟩ := I1.dir.tree
          have HT := Lib.hid ht
          obtain ⟨Kl, cL⟩ : ∃ Kl : List (List UInt8), Kl = id :: L.map Prod.fst := ⟨_, rfl⟩
          rw [← cL] at O
          obtain ⟨n2, cM⟩ := F9 (j + 1)
          rw [← cM] at O ⊢
          have dR : Kl.length = n2 := by rw [cL, List.length_cons, List.length_map, ← HM.out, cM]
          have eT := Lib.hid dR
          have hH : Hs wr 0 wr.heap.size (.slice A n2 c) Kl := (De.hs O).less (Nat.zero_le _)
          have HH := Lib.hid hH
          have eU : n2 ≤ c ∧ c ≤ 9223372036854775807 := by
            obtain ⟨A0, c0, e0, e1, e2⟩ := hH.form
            injection e0 with _ _ e3
            subst e3
            exact ⟨by omega, e2⟩
          obtain ⟨eV, eX⟩ := eU
          have eY : t.len ≤ 200000 := by rw [Tr.len_pairs, ht.prs, Eu, ← HM.out]; omega
          have dS : Hid (L.length ≤ 1000000) := Lib.hid (by rw [← HM.out]; omega)
          have aO := Lib.hid I1
          have eZ : gD + 1 < wr.heap.size := by
            obtain ⟨_, _, _, h⟩ := I1.kx
            exact h.lt
          have fC : n2 ≤ 157 := by omega
          clear cM I1 O cL dR hH ht Bj Bz aP cJ
          go_wp2_with fail
          obtain ⟨Wy, rfl⟩ := F9 (wr)
          go_loopw [62] (fun x wr => ∃ (p : Nat), p ≤ n2 ∧ x = .int .i64 (p : Int) ∧ Below Wy.heap.size Wy wr) (fun x _ => n2 - (intOf x).toNat)
          case atStart => exact ⟨0, by omega, rfl, Below.refl _ _⟩
          case round =>
            obtain ⟨p, hp, rfl, Br⟩ := hrel
            by_cases hlt : p < n2
            · have hd : decide ((p : Int) < (n2 : Int)) = true := decide_eq_true (by omega)
              have aY := decide_eq_true hlt
              obtain ⟨k, hk⟩ : ∃ k, Kl[p]? = some k := ⟨_, List.getElem?_eq_getElem (by rw [eT.out]; exact hlt)⟩
              have aA := HH.out.1 k (List.mem_of_getElem? hk)
              obtain ⟨g, o, rfl, hg, aU⟩ := HH.out.at_ hk
              have fD := (Q4 (a := ⟨g, o + p * 32, none⟩) Br hg).trans aU
              have I2 := aO.out.up Br
              obtain ⟨W, hW⟩ := F9 (D8 (wr.alloc (Obj.cells (c8 (z8 32)).toArray 23)) ⟨wr.heap.size, 0, none⟩ (c8 k))
              have k0 := Bk.new wr 23 (c8 (z8 32))
              have aM := Bk.can8 (n := 32) k0 (by simp)
              have kk : Bk W wr.heap.size 23 (c8 k) := by rw [hW]; exact Bk.put8 (n := 32) k0 (by simp) aA
              have bW : Below wr.heap.size wr W := by rw [hW]; exact C5 (Aw _ _) (Nat.le_refl _) _
              have I3 := I2.up bW
              have BW := K9 Br bW
              obtain ⟨aJ, aK, bN, kD⟩ := I3.kd
              have bN := (by simpa using bN : ap = aJ ∧ mb = aK)
              obtain ⟨rfl, rfl⟩ := bN
              have r1 : J1 W ⟨gD, 0, none⟩ 4 = some [.int .i64 (i : Int), .pointer ap, .int .i64 0, .map mb] := kD.rows
              have r2 := Bk.row8 (n := 32) kk aA
              rw [hW] at r1 r2
              clear hk aU k0 I2 bW
              go_wp2_with fail
              rw [← hW]
              refine (A2k I3.dir HT.out k aA (by have := aD k; omega) dS.out).mono ?_
              rintro x w4 ⟨av, pv, rfl, ho, cN, b4⟩
              have HO := Lib.hid ho
              have HP := Lib.hid cN
              obtain ⟨Aa, ca, rfl, _, _⟩ := ho.form
              obtain ⟨Ap, cp, rfl, _, _⟩ := cN.form
              have I4 := I3.up b4
              have dT := kk.bl b4
              clear r1 r2 aM fD hW I3 kk kD ho cN
              obtain ⟨na, dU⟩ := F9 ((lookE L k).length)
              obtain ⟨np, dV⟩ := F9 ((t.cut [k] 0).bytes.length)
              rw [← dU] at HO ⊢
              rw [← dV] at HP ⊢
              clear dU dV
              have k0 := Bk.new w4 47 [.slice none 0 0, .slice none 0 0]
              have aM := Gy 2 k0 (by simp)
              obtain ⟨w5, bU⟩ := F9 (D8 (w4.alloc (Obj.cells #[.slice none 0 0, .slice none 0 0] 47)) ⟨w4.heap.size, 0, none⟩ [.slice Aa na ca, .slice Ap np cp])
              have ka : Bk w5 w4.heap.size 47 [.slice Aa na ca, .slice Ap np cp] := by rw [bU]; exact k0.puts (by simp)
              have b5 : Below w4.heap.size w4 w5 := by rw [bU]; exact C5 (Aw _ _) (Nat.le_refl _) _
              have I5 := I4.up b5
              have bO := dT.bl b5
              have cO := Lib.hid ((De.hs (De.below HO.out b5 (Nat.le_refl _))).less (Nat.zero_le _))
              have cP := Lib.hid (By.zero (P9.below HP.out b5 (Nat.le_refl _)).by_)
              have B5 := E3 BW (E3 b4 b5 b4.size) BW.size
              clear k0 I4 dT HO HP
              go_wp2_with fail
              rw [← bU]
              clear bU aM b4 b5 BW
              generalize w4.heap.size = ga at *
              generalize wr.heap.size = gk at *
              obtain ⟨aJ, aK, bN, kD⟩ := I5.kd
              obtain ⟨rfl, rfl⟩ := (by simpa using bN : ap = aJ ∧ mb = aK)
              obtain ⟨aS, aT, cQ, kX⟩ := I5.kx
              have cQ := (by simpa using cQ : Ax = aS ∧ cx = aT)
              obtain ⟨rfl, rfl⟩ := cQ
              have bP := Lib.hid I5
              have fE : Hid (∀ q ∈ L, q.2.length ≤ 1000000) := Lib.hid (fun q hq => by
                have h1 := aD q.1
                rw [Ji bP.out.dir.okE.rise q hq] at h1
                omega)
              have eP := t.root_length
              clear I5
              have S0 := Fx w5
              refine Fa (fun X => Below w5.heap.size w5 X) ?_
              refine Df (A := ?fY) [0, 1, 2, 3] S0 (fun X hX => ?fF) ?fZ
              case fF =>
                have f1 := (ka.bl hX).at_ (i := 0) rfl
                have f2 := (ka.bl hX).at_ (i := 1) rfl
                have f3 : J1 X ⟨ga, 0, none⟩ 2 = some [.slice Aa na ca, .slice Ap np cp] := (ka.bl hX).rows
                have f4 := Bk.row8 (n := 32) (bO.bl hX) aA
                have f5 : J1 X ⟨gD + 1, 0, none⟩ 2 = some [.int .i64 (i : Int), .slice Ax L.length cx] := (kX.bl hX).rows
                have f6 : J1 X ⟨gD, 0, none⟩ 4 = some [.int .i64 (i : Int), .pointer ap, .int .i64 0, .map mb] := (kD.bl hX).rows
                exact Ei
              refine U7 4 fun Q' hQ' => ?_
              dsimp only [F0]
              have aE := Lib.hid hQ'
              clear hQ'
              go_wp2_with fail
              refine (A4b (i : Int) _ L k aA w5.drew (bP.out.up S0).es).mono ?_
              rintro x w6 ⟨r, rfl, aW, b6⟩
              have S6 := K9 S0 b6
              obtain ⟨Ar, cr, rfl⟩ := aW.form
              have cR := Lib.hid (KS.hs aW)
              clear aW
              obtain ⟨nr, dW⟩ := F9 ((lookE L k).length)
              rw [← dW] at cR ⊢
              clear dW
              go_wp2_with fail
              refine aE.out _ _ S6 ?_
              clear aE
              refine U7 5 fun Q' hQ' => ?_
              dsimp only [F0]
              have aE := Lib.hid hQ'
              clear hQ'
              go_wp2_with fail
              refine (A5q _ _ (lookE L k) w6 ((cO.out.below S6).more S6.size) cR.out).mono ?_
              rintro x w7 ⟨rfl, b7⟩
              have S7 := K9 S6 b7
              go_wp2_with fail
              refine aE.out _ _ S7 ?_
              clear aE
              refine Df (A := ?gA) [6, 7, 8, 9, 10, 11, 13] S7 (fun X hX => ?fG) ?gB
              case fG =>
                have f1 := (ka.bl hX).at_ (i := 0) rfl
                have f2 := (ka.bl hX).at_ (i := 1) rfl
                have f3 : J1 X ⟨ga, 0, none⟩ 2 = some [.slice Aa na ca, .slice Ap np cp] := (ka.bl hX).rows
                have f4 := Bk.row8 (n := 32) (bO.bl hX) aA
                have f5 : J1 X ⟨gD + 1, 0, none⟩ 2 = some [.int .i64 (i : Int), .slice Ax L.length cx] := (kX.bl hX).rows
                have f6 : J1 X ⟨gD, 0, none⟩ 4 = some [.int .i64 (i : Int), .pointer ap, .int .i64 0, .map mb] := (kD.bl hX).rows
                have hs : ∀ raw, Ya X raw (.slice Ap np cp) = .ok (.value (S8 (t.cut [k] 0).bytes)) X := fun raw => A9z (cP.out.below hX) raw
                simp only [List.append_eq, AC', Dh, Ul]
                repeat (go_big_quiet_step (fail))
                refine wpQuiet_nil ?_
                rfl
              refine Tx [⟨12, 81, fun v W => Ps W 0 W.heap.size v (pairsE L), false⟩, zl 14 83 23 (c8 k)] (by kernel_rfl) ?gd (fun X hX => E3 S7 hX S7.size) ?fH ?fI ?fJ
              case fH => exact P5 ⟨fun _ _ _ h hb => (h.below hb).more hb.size, P5 ⟨zl_mono _ _ _ _, fun _ h => by cases h⟩⟩
              case gd => exact (P5 ⟨(fun o ho us => by obtain rfl := Option.some.inj ho; kernel_rfl), (P5 ⟨(fun o ho us => by obtain rfl := Option.some.inj ho; kernel_rfl), Kh⟩)⟩)
              case fI =>
                refine P5 ⟨?fK, P5 ⟨?fL, fun _ h => by cases h⟩⟩
                case fK =>
                  intro o ho aC X hX hp Q' hQ'
                  obtain rfl := Option.some.inj ho
                  clear hp ho
                  rw [C7] at hQ' ⊢
                  dsimp only [F0, H8, List.foldl, zl] at hQ' ⊢
                  simp only [Ch]
                  have IX := Lib.hid (bP.out.up (E3 S7 hX S7.size))
                  go_wp2_with fail
                  refine (B3j (i : Int) _ L X IX.out.es dS.out fE.out).mono ?_
                  rintro x X2 ⟨v2, rfl, fM, b2⟩
                  go_wp2_with fail
                  exact Cz (hQ' _ _ b2 fM.ps.zero nofun)
                case fL =>
                  intro o ho aC X hX hp Q' hQ'
                  obtain rfl := Option.some.inj ho
                  clear hp ho
                  rw [C7] at hQ' ⊢
                  dsimp only [F0, H8, List.foldl, zl] at hQ' ⊢
                  simp only [Ch]
                  go_wp2_with fail
                  exact Cz (hQ' _ _ (Aw _ _) ⟨_, rfl, Bk.new X _ (c8 k)⟩ nofun)
              case fJ =>
              intro aC w8 b8 aL aR cD
              have cS : Ps w8 0 w8.heap.size (aC 12) (pairsE L) := aL _ (O8 0 rfl)
              obtain ⟨dX, aN, bV⟩ := aL _ (O8 1 rfl)
              have aN : aC 14 = .slice (some ⟨dX, 0, none⟩) 1 1 := aN
              have bV : Bk w8 dX 23 (c8 k) := bV
              obtain ⟨fN, aX⟩ := F9 (aC 12)
              rw [← aX] at cS
              rw [C7]
              dsimp only [H8, List.foldl, zl]
              simp only [Ch]
              rw [aN, ← aX]
              clear aL aR cD aN aX
              have T8 := K9 S7 b8
              have dY := Lib.hid cS
              have dZ := Lib.hid (Hs.one' aA bV)
              clear cS bV
              refine U7 15 fun Q' hQ' => ?_
              dsimp only [F0]
              have aE := Lib.hid hQ'
              clear hQ'
              go_wp2_with fail
              refine (B2f t 0 P0 HT.out.ok (by omega) (by omega) fN _ [k] w8 (by simp) (by rw [HT.out.prs]; exact dY.out) dZ.out).mono ?_
              rintro x w9 ⟨u9, rfl, eA, b9⟩
              have S9 := K9 T8 b9
              have eB := Lib.hid (show By w9 0 w9.heap.size u9 (t.cut [k] 0).bytes from eA)
              clear eA
              go_wp2_with fail
              refine aE.out _ _ S9 ?_
              clear aE
              refine B7c (fun X => Below w9.heap.size w9 X) (fun X hX => E3 S9 hX S9.size) ?_
              refine Df (A := ?gC) [16, 17, 18, 19, 20, 22, 23] (Below.refl _ _) (fun X hX => ?fO) ?gE
              case fO =>
                have f1 := (ka.below (E3 S9 hX S9.size) ka.lt).at_ (i := 0) rfl
                have f2 := (ka.below (E3 S9 hX S9.size) ka.lt).at_ (i := 1) rfl
                have f3 : J1 X ⟨ga, 0, none⟩ 2 = some [.slice Aa na ca, .slice Ap np cp] := (ka.below (E3 S9 hX S9.size) ka.lt).rows
                have f4 := Bk.row8 (n := 32) (bO.below (E3 S9 hX S9.size) bO.lt) aA
                have f5 : J1 X ⟨gD + 1, 0, none⟩ 2 = some [.int .i64 (i : Int), .slice Ax L.length cx] := (kX.below (E3 S9 hX S9.size) kX.lt).rows
                have f6 : J1 X ⟨gD, 0, none⟩ 4 = some [.int .i64 (i : Int), .pointer ap, .int .i64 0, .map mb] := (kD.below (E3 S9 hX S9.size) kD.lt).rows
                have hs : ∀ raw, Ya X raw u9 = .ok (.value (S8 (t.cut [k] 0).bytes)) X := fun raw => A9z (eB.out.below hX) raw
                simp only [List.append_eq, AC', Dh, Ul]
                repeat (go_big_quiet_step (fail))
                refine wpQuiet_nil ?_
                rfl
              refine U7 21 fun Q' hQ' => ?_
              dsimp only [F0]
              have aE := Lib.hid hQ'
              clear hQ'
              go_wp2_with fail
              refine (A1t (bP.out.up S9).dir HT.out).mono ?_
              rintro x gF ⟨rfl, cT⟩
              have bB := K9 S9 cT
              go_wp2_with fail
              refine aE.out _ _ cT ?_
              clear aE
              refine U7 24 fun Q' hQ' => ?_
              dsimp only [F0]
              have aE := Lib.hid hQ'
              clear hQ'
              go_wp2_with fail
              refine (A5c HT.out bP.out.dir.okE k aA (by have := aD k; omega) _ _ ((cO.out.below bB).more bB.size) ((cP.out.below bB).more bB.size)).mono ?_
              rintro x gG ⟨rfl, eC⟩
              have cU := K9 cT eC
              have eD := K9 bB eC
              go_wp2_with fail
              refine aE.out _ _ cU ?_
              clear aE
              refine Df (A := ?gH) [25, 26] cU (fun X hX => ?fP) ?gI
              case fP =>
                simp only [List.append_eq, AC', Dh, Ul]
                repeat (go_big_quiet_step (fail))
                refine wpQuiet_nil ?_
                rfl
              refine Ef ?_
              have Bf := K9 B5 eD
              clear cO cP eB dZ dY cR S0 S6 S7 T8 S9 bB eD cU kD kX ka bO
              go_wp2_with fail
              go_roundw
              case rel => exact ⟨p + 1, by omega, by go_num, Bf⟩
              case measure => simp [intOf]; omega
            · obtain rfl : p = n2 := by omega
              have hd : decide ((p : Int) < (p : Int)) = false := decide_eq_false (by omega)
              have aY : decide (p < p) = false := decide_eq_false (by omega)
              have Bf := (aO.out.up Br).below
              go_wp2_with fail
              go_ret
              exact ⟨rfl, Bf⟩
end
end Go.Proofs.YtlegpkdighoflaaGreat
