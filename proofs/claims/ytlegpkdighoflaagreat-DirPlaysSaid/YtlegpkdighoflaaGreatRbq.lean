/- A part of the proof of DirPlays. -/
import Derived.Test.YtlegpkdighoflaaGreatRbp
set_option linter.unusedVariables false
set_option linter.unusedSimpArgs false
set_option maxRecDepth 100000
set_option maxHeartbeats 40000000
namespace Go.Proofs.YtlegpkdighoflaaGreat
open Go Go.RowKit Sh
section
@[go_sem ↓ high] theorem F6a (w : World) (ρ : Operand → Value) (dst : Option Tmp) (ty : TypeId) (pos : String) (after : Array Edge) (guard : Option (Nat × Bool)) (x y : Operand) (yt : TypeId) :
 (execOp ρ { dst,op:=.binOp .neq 9 x y yt,type:=ty,pos,after,guard }).run Tryz.prog w=C6b true w (L3 Tryz.prog ρ { dst,op:=.binOp .neq 9 x y yt,type:=ty,pos,after,guard } w) (ρ x) (ρ y):=by
 generalize hx:ρ x=a;generalize hy:ρ y=b;unfold C6b;split
 ·rename_i s t
  simp only[execOp,hx,hy,eqGuard_at_string,binOp_string_neq,A0z];simp
 ·rfl
theorem C9r:RL' 47 2:=LL' A4c A2f
attribute [local go_sem ↓ high] Ju Uf Xi Xk A8i C9r
end
section
theorem C6q {P:Program} {l:List Oper} {Q:Exit→Act→World→Prop} {S:World→Prop} {w:World} {done:List Nat} (di dj dm:Tmp) {ls:List Value} {ds:List Deferred}
 (h:U0 P l Q S done (B3u di dj dm ls ds (ls.getD di undef) (ls.getD dj undef) (ls.getD dm undef)) w):U0 P l Q S done ⟨ls.toArray,ds⟩ w:=by
 rw[C6w (di:=di) (dj:=dj) (dm:=dm)];exact h
theorem Pq.d_one (q:Pq) (e:Nat):∀u∈q.d e,u.oneCell'=true:=by
 intro u hu;simp only[Pq.d,List.mem_cons,List.not_mem_nil,or_false]at hu;rcases hu with rfl | rfl | rfl | rfl<;>rfl
theorem Pq.x_one (q:Pq) (e:Nat):∀u∈q.x e,u.oneCell'=true:=by
 intro u hu;simp only[Pq.x,List.mem_cons,List.not_mem_nil,or_false]at hu;rcases hu with rfl | rfl<;>rfl
theorem D3i {w:World} {g:Nat} {T:TypeId} {cs:List Value} (h:Bk w g T cs):Rd w 0 w.heap.size (some ⟨g,0,none⟩) cs:=
 .inr ⟨g,0,rfl,Nat.zero_le _,h.lt,fun j u hj=>by rw[Nat.zero_add];exact h.at_ hj⟩
attribute [local go_sem ↓ high] Ju Uf Xi Xk
theorem dirPlays_any (v : Value) (la : List AV) (w : World) (hv : As w w.heap.size v la) : Calls Tryz.prog 5 #[v] w fun x w' => x = .returned (.bool true) ∧ Below w.heap.size w w' := by
  have HA := Lib.hid hv
  go_enter Tryz.func5, Tryz.ntmps5
  go_wp2_with fail
  clear hv
  refine (C4w w).mono ?_
  rintro x w1 ⟨rfl, b1⟩
  have dK := Lib.hid (show As w1 w1.heap.size v la from by
    obtain ⟨A, c, h1, h2, h3, h4⟩ := HA.out
    exact ⟨A, c, h1, h2, h3, (h4.below b1).more b1.size⟩)
  clear HA
  go_wp2_with fail
  refine (B4a v la w1 dK.out).mono ?_
  rintro x w2 ⟨ov, gv, bs, rfl, hb, eZ, fB, b2⟩
  have B2 := Q5 b1 b2
  obtain ⟨⟨Ao, co, rfl⟩, ⟨Ag, cg, rfl⟩⟩ := hb.form
  obtain ⟨n, hn⟩ := E9 (bs.length)
  rw [← hn] at hb eZ ⊢
  have HN := Lib.hid hn
  clear b1 b2 dK hn
  obtain ⟨w3, cH⟩ := E9 ((w2.alloc (Obj.cells #[.int .i64 0, .pointer none, .int .i64 0, .map none] 34)).alloc (Obj.cells #[.int .i64 0, .slice none 0 0] 37))
  have hL : w3 = O8 w2 [(34, [.int .i64 0, .pointer none, .int .i64 0, .map none]), (37, [.int .i64 0, .slice none 0 0])] := cH
  have b3 := Rf hL
  have kD : Bk w3 w2.heap.size 34 [.int .i64 0, .pointer none, .int .i64 0, .map none] := by rw [hL]; exact Nr _ w2 0 _ _ rfl
  have kX : Bk w3 (w2.heap.size + 1) 37 [.int .i64 0, .slice none 0 0] := by rw [hL]; exact Nr _ w2 1 _ _ rfl
  have I0 : DaI w w3 w2.heap.size (w2.heap.size + 1) (.slice Ao n co) (.slice Ag n cg) bs 0 (.agg #[.int .i64 0, .pointer none, .int .i64 0, .map none]) (.slice none 0 0) [] 0 :=
    ⟨rfl, ⟨none, none, rfl, kD⟩, ⟨none, 0, rfl, kX⟩, DirIs.nil w3, Es.nil _ _, hb.up b3, Nat.le_refl _, Nat.le_refl _, fun x => Nat.le_refl _, C2 B2 b3 B2.size⟩
  have gM : w.heap.size ≤ w2.heap.size := B2.size
  clear hL kD kX B2 b3 hb
  go_wp2_with fail
  rw [← cH]
  clear cH
  generalize w2.heap.size = gD at *
  go_loopw [7, 8, 23] (fun bF bG x wr => ∃ (i : Nat) (dv ev : Value) (L : List En) (N : Nat) (l : List Pq) (aC aA : Value), aC = bF ∧ aA = bG ∧ i ≤ n ∧ x = .int .i64 (i : Int) ∧ l.length = i ∧ DaI w wr gD (gD + 1) (.slice Ao n co) (.slice Ag n cg) bs i dv ev L N ∧ PlR wr gD bs aA l l ∧ DsR wr gD aC l) (fun _ _ x _ => n - (intOf x).toNat)
  case atStart => exact ⟨0, _, _, [], 0, [], _, _, rfl, rfl, by omega, rfl, rfl, I0, PlR.nil _ _ _, World.ownsRow_nil _ _ _ _⟩
  case round =>
    clear I0
    obtain ⟨i, dv, ev, L, N, l0, aC, aA, rfl, rfl, hi, rfl, aF, I, PR, DR⟩ := hrel
    by_cases hlt : i < n
    · have hd : decide ((i : Int) < (n : Int)) = true := decide_eq_true (by omega)
      have cI := decide_eq_true hlt
      obtain ⟨us, aP⟩ : ∃ us, bs[i]? = some us := ⟨_, List.getElem?_eq_getElem (by rw [← HN.out]; exact hlt)⟩
      have fC := Lib.hid aP
      clear aP
      go_wp2_with fail
      obtain ⟨aQ, aR, rfl, dL⟩ := I.kd
      obtain ⟨aS, aT, rfl, cJ⟩ := I.kx
      have S0 := Kg wr
      have I1 := I.up S0
      obtain ⟨q, hq⟩ : ∃ q : Pq, q = ⟨aQ, aR, aS, L.length, aT⟩ := ⟨_, rfl⟩
      have cK : q.d i = [.int .i64 (i : Int), .pointer aQ, .int .i64 0, .map aR] := by rw [hq]; rfl
      have dM : q.x i = [.int .i64 (i : Int), .slice aS L.length aT] := by rw [hq]; rfl
      have cB := Lib.hid (show L = allE (bs.take l0.length) from by rw [aF]; exact I.eq)
      have cL : PlR wr.drew gD bs aA l0 (l0 ++ [q]) := by
        refine (PR.up S0).push ⟨N, ?_⟩ ?_ ?_
        · rw [← cB.out, aF, cK]; exact I1.dir
        · rw [← cB.out, hq]; exact I1.es
        · rw [← cB.out, aF]; exact ⟨I1.len, I1.lks⟩
      have dN := DR.up S0
      have fD : gD + 1 < wr.heap.size := cJ.lt
      obtain ⟨l, hl⟩ := E9 (l0 ++ [q])
      rw [← hl] at cL
      have aU := dL.drew
      have aV := cJ.drew
      clear I PR DR S0
      refine Jh (fun X => Bk X gD 34 [.int .i64 (i : Int), .pointer aQ, .int .i64 0, .map aR] ∧ Bk X (gD + 1) 37 [.int .i64 (i : Int), .slice aS L.length aT]) ?_
      refine Fs (A := ?fE) [0, 1, 4, 5] ⟨aU, aV⟩ (fun X hX => ?cM) ?fF
      case cM =>
        have f1 : C8 X ⟨gD, 0, none⟩ 4 = some [.int .i64 (i : Int), .pointer aQ, .int .i64 0, .map aR] := hX.1.rows
        have f2 : C8 X ⟨gD + 1, 0, none⟩ 2 = some [.int .i64 (i : Int), .slice aS L.length aT] := hX.2.rows
        exact Gq
      refine C6q 32 28 29 ?_
      refine C5v 6 2 3 (B3u 32 28 29 _ _)
        (fun W => DaI w W gD (gD + 1) (.slice Ao n co) (.slice Ag n cg) bs i (.agg #[.int .i64 (i : Int), .pointer aQ, .int .i64 0, .map aR]) (.slice aS L.length aT) L N ∧ PlR W gD bs aA l0 l ∧ DsR W gD aC l0)
        (fun x W => ∃ g, x = .slice (some ⟨g, 0, none⟩) 1 1 ∧ Bk W g 37 (q.x i))
        (fun y W => ∃ g, y = .slice (some ⟨g, 0, none⟩) 1 1 ∧ Bk W g 34 (q.d i))
        (fun z W => DaI w W gD (gD + 1) (.slice Ao n co) (.slice Ag n cg) bs i (.agg #[.int .i64 (i : Int), .pointer aQ, .int .i64 0, .map aR]) (.slice aS L.length aT) L N ∧ PlR W gD bs aA l0 l ∧ DsR W gD z l)
        (by kernel_rfl) (by kernel_rfl) (by kernel_rfl) (by kernel_rfl) (by kernel_rfl) (by kernel_rfl) (by kernel_rfl) (by kernel_rfl) (by kernel_rfl) rfl rfl rfl (fun _ _ _ => rfl) (fun _ _ _ => rfl) (fun _ _ _ => rfl)
        (fun W W' h hb => ⟨h.1.up hb, h.2.1.up hb, h.2.2.up hb⟩) (fun x W W' h hb => by obtain ⟨g, e, k⟩ := h; exact ⟨g, e, k.bl hb⟩) (fun x W W' h hb => by obtain ⟨g, e, k⟩ := h; exact ⟨g, e, k.bl hb⟩) (fun z W W' h hb => ⟨h.1.up hb, h.2.1.up hb, h.2.2.up hb⟩) ⟨aU, aV⟩ ⟨I1, cL, dN⟩ ?mi ?mj ?mm ?mr
      case mi =>
        intro y z W hW Q' hQ'
        dsimp only [C7, B3u] at hQ' ⊢
        simp only [Cy, List.getD_cons_succ, List.getD_cons_zero]
        go_wp2_with fail
        refine Fw (hQ' (.slice (some ⟨W.heap.size, 0, none⟩) 1 1) _ ⟨hW.1.alloc _, hW.2.alloc _⟩ ⟨W.heap.size, rfl, ?_⟩ (Bh _ _)) (by kernel_rfl)
        rw [dM]; exact Bk.new W _ _
      case mj =>
        intro x W hW Q' hQ'
        dsimp only [C7, B3u] at hQ' ⊢
        simp only [Cy, List.getD_cons_succ, List.getD_cons_zero]
        go_wp2_with fail
        refine Fw (hQ' (.slice (some ⟨W.heap.size, 0, none⟩) 1 1) _ ⟨hW.1.alloc _, hW.2.alloc _⟩ ⟨W.heap.size, rfl, ?_⟩ (Bh _ _)) (by kernel_rfl)
        rw [cK]; exact Bk.new W _ _
      case mm =>
        rintro x y W hW ⟨EI, EP, ED⟩ ⟨g, rfl, kg⟩ Q' hQ'
        dsimp only [C7, B3u] at hQ' ⊢
        simp only [Cy, List.getD_cons_succ, List.getD_cons_zero]
        have cC : i + 1 ≤ 68719476736 := by omega
        have cD : gD + 2 ≤ W.heap.size := hW.2.lt
        have cN : W.ownsRow (gD + 2) 34 4 aC i (dsC 0 l0) := by have := ED; unfold DsR at this; rwa [aF] at this
        go_wp2_with (at_builtin; refine B6v 68 (.agg #[.int .i64 0, .pointer none, .int .i64 0, .map none]) 32 Tryz.underlying68 C8m (by simp [Value.cells]) (by decide) (by decide) rfl _ _ rfl rfl cN (some ⟨g, 0, none⟩) 1 1 rfl (q.d i) rfl 0 W.heap.size (D3i kg) (q.d_one i) cC cD ?_; intro A5 c5 w5 gN gO bH fG bB fH)
        have k5 := Pj cN
        have aW : ∀ g, aC.ownBlock = some g → gD + 2 ≤ g := fun g e => (cN.lt g e).1
        have D5 : DsR w5 gD (.slice A5 (i + 1) c5) l := by rw [hl]; refine DsR.snoc ?_; rw [aF]; exact bH
        have I5 := EI.grown bB k5 aW fG (by omega) (by decide) (by decide) (by decide) (by decide) (by decide) (by decide) (by decide)
        have P5 := EP.grownD ED bB
        refine Fw (hQ' _ _ ⟨hW.1.grown bB fun e => by have := aW _ e.symm; omega, hW.2.grown bB fun e => by have := aW _ e.symm; omega⟩ ⟨I5, P5, D5⟩ ?_) (by kernel_rfl)
        rintro x' ⟨g', e', dO⟩
        exact ⟨g', e', dO.grown bB (Qt dO k5 (by decide))⟩
      case mr =>
      rintro x y z W hW ⟨gx, rfl, dQ⟩ ⟨I5, P5, D5⟩
      dsimp only [B3u]
      simp only [Cy, List.getD_cons_succ, List.getD_cons_zero]
      refine Ci 7 fun Q' hQ' => ?_
      dsimp only [C7]
      have cC : i + 1 ≤ 68719476736 := by omega
      have cD : gD + 2 ≤ W.heap.size := hW.2.lt
      have cE : W.ownsRow (gD + 2) 37 2 aA i (xsC 0 l0) := by have := P5.xs; rwa [aF] at this
      go_wp2_with (at_builtin; refine B6v 69 (.agg #[.int .i64 0, .slice none 0 0]) 32 Tryz.underlying69 C0n (by simp [Value.cells]) (by decide) (by decide) rfl _ _ rfl rfl cE (some ⟨gx, 0, none⟩) 1 1 rfl (q.x i) rfl 0 W.heap.size (D3i dQ) (q.x_one i) cC cD ?_; intro A6 c6 w6 fI fJ aO dS bC cO)
      have k6 := Pj cE
      have aJ : ∀ g, aA.ownBlock = some g → gD + 2 ≤ g := fun g e => (cE.lt g e).1
      have D6 := D5.grownX P5 bC
      have I6 := I5.grown bC k6 aJ dS (by omega) (by decide) (by decide) (by decide) (by decide) (by decide) (by decide) (by decide)
      have P6 : PlR w6 gD bs (.slice A6 (i + 1) c6) l l := by
        rw [hl] at P5 ⊢
        refine P5.grownX bC ?_
        rw [aF]; exact aO
      have bI := hW.1.grown bC fun e => by have := aJ _ e.symm; omega
      have bJ := hW.2.grown bC fun e => by have := aJ _ e.symm; omega
      refine hQ' _ _ ⟨bI, bJ⟩ ?_
      clear hQ'
      refine Fs (A := ?dT) [8, 9] ⟨bI, bJ⟩ (fun X hX => ?bK) ?dU
      case bK =>
        simp only [List.append_eq, Vb, pick, Wt]
        repeat (go_big_quiet_step (fail))
        refine wpQuiet_nil ?_
        rfl
      refine It ?_
      have fK : l.length = i + 1 := by rw [hl]; simp [aF]
      obtain ⟨bF, bL⟩ := E9 (z)
      obtain ⟨bG, bM⟩ := E9 (Value.slice A6 (i + 1) c6)
      rw [← bL] at D6 ⊢
      rw [← bM] at P6 ⊢
      clear D5 I5 P5 cE k6 aJ aO dS bC cO fI fJ hW dQ cB I1 cL dN aU aV dL cJ bL bM cK dM hl hq cD cC
      obtain ⟨w9, dW⟩ := E9 (w6)
      rw [← dW] at D6 P6 I6 bI bJ ⊢
      clear dW
      have kD := bI
      have kX := bJ
      have PP := P6
      have DD := D6
      have I9 := I6
      clear bI bJ P6 D6 I6
      obtain ⟨ap, aK⟩ := E9 (aQ)
      obtain ⟨mb, aL⟩ := E9 (aR)
      obtain ⟨Ax, aM⟩ := E9 (aS)
      obtain ⟨cx, aN⟩ := E9 (aT)
      rw [← aK, ← aL, ← aM, ← aN] at I9
      rw [← aK, ← aL] at kD
      rw [← aM, ← aN] at kX
      rw [← aK, ← aL, ← aM, ← aN]
      clear aK aL aM aN
      have aP := fC.out
      go_wp2_with fail
      obtain ⟨g1, g2, uv, bv, rfl, rfl, dX, dY, q1, q2, hU, hG, cP⟩ := I9.bat.at_ aP
      obtain ⟨Au, cu, rfl⟩ := hU.form
      have fL := fB us (List.mem_of_getElem? aP)
      obtain ⟨fM, cQ, bN⟩ := A0v I9.dir.okE hU.allOk
      have cF := Lib.hid (show applyE us L = allE (bs.take (i + 1)) from by rw [C6d aP, ← I9.eq])
      have aX := I9.lks
      have fN := I9.len
      have hN := I9.hN
      clear aP
      have dZ := Lib.hid (PP.up (Below.refl _ _).drew)
      have eA := Lib.hid (DD.up (Below.refl _ _).drew)
      have S0 := Kg w9
      have I1 := I9.up S0
      have HU := Lib.hid ((hU.below S0).more S0.size)
      have HG := Lib.hid ((hG.below S0).more S0.size)
      have aU := kD.drew
      have aV := kX.drew
      have bO := Lib.hid I1
      have fD : gD + 1 < w9.heap.size := kX.lt
      obtain ⟨n1, n2⟩ := cP _ _ _ kD (by decide) (by decide)
      obtain ⟨n3, n4⟩ := cP _ _ _ kX (by decide) (by decide)
      clear cP
      clear hU hG I9 PP DD
      refine Jh (fun X => X.cell? ⟨g1, i, none⟩ = some (.slice Au us.length cu) ∧ X.cell? ⟨g2, i, none⟩ = some bv) ?_
      refine Fs (A := ?gP) [1, 2, 3, 4, 7, 8, 9, 10, 11, 12, 13, 14] ⟨q1, q2⟩ (fun X hX => ?fO) ?gQ
      case fO =>
        have f1 := hX.1
        have f2 := hX.2
        exact Gq
      have aB : ∀ {X : World} {g : Nat} {u : Value}, g < w9.heap.size → w9.cell? ⟨g, i, none⟩ = some u → Below w9.drew.heap.size w9.drew X → X.cell? ⟨g, i, none⟩ = some u := fun {X g u} hg hu hb => by
        rw [hb.cell (p := ⟨g, i, none⟩) hg]; exact hu
      refine N8 [zv 0 34 (.agg #[.int .i64 (i : Int), .pointer ap, .int .i64 0, .map mb]), zv 6 40 (.agg #[.int .i64 (i : Int), .slice Ax L.length cx]), ⟨5, 39, fun v W => DirIs W v (i + 1) (applyE us L) (N + us.length), false⟩, ⟨15, 49, fun v W => ∃ ev, v = .agg #[.int .i64 ((i + 1 : Nat) : Int), ev] ∧ Es W W.heap.size ev (applyE us L), false⟩] (by kernel_rfl) (fun X hX => ⟨aB dX q1 hX, aB dY q2 hX⟩) ?mo ?st ?re
      case mo => exact Z3 ⟨Pb _ _ _, Z3 ⟨Pb _ _ _, Z3 ⟨fun _ _ _ h hb => h.up hb, Z3 ⟨fun _ _ _ h hb => (by obtain ⟨ev, h1, h2⟩ := h; exact ⟨ev, h1, h2.up hb⟩), fun _ h => by cases h⟩⟩⟩⟩
      case st =>
        refine Z3 ⟨?s0, Z3 ⟨?s6, Z3 ⟨?s5, Z3 ⟨?fP, fun _ h => by cases h⟩⟩⟩⟩
        case s0 =>
          intro o ho aG X hX hp Q' hQ'
          obtain rfl := Option.some.inj ho
          clear hp ho
          have f1 : C8 X ⟨gD, 0, none⟩ 4 = some [.int .i64 (i : Int), .pointer ap, .int .i64 0, .map mb] := (aU.bl hX).rows
          rw [C1] at hQ' ⊢
          dsimp only [C7, E5, List.foldl, zv] at hQ' ⊢
          simp only [Cy]
          go_wp2_with fail
          exact Ea (hQ' _ _ (Below.refl _ _) rfl nofun)
        case s6 =>
          intro o ho aG X hX hp Q' hQ'
          obtain rfl := Option.some.inj ho
          clear hp ho
          have f1 : C8 X ⟨gD + 1, 0, none⟩ 2 = some [.int .i64 (i : Int), .slice Ax L.length cx] := (aV.bl hX).rows
          rw [C1] at hQ' ⊢
          dsimp only [C7, E5, List.foldl, zv] at hQ' ⊢
          simp only [Cy]
          go_wp2_with fail
          exact Ea (hQ' _ _ (Below.refl _ _) rfl nofun)
        case s5 =>
          intro o ho aG X hX hp Q' hQ'
          obtain rfl := Option.some.inj ho
          have bP : aG 0 = .agg #[.int .i64 (i : Int), .pointer ap, .int .i64 0, .map mb] := hp 0 _ rfl (by kernel_rfl)
          clear hp ho
          rw [C1] at hQ' ⊢
          dsimp only [C7, E5, List.foldl, zv] at hQ' ⊢
          simp only [Cy]
          rw [bP] at hQ' ⊢
          clear bP
          have IX := Lib.hid (bO.out.up hX)
          have cR := Lib.hid ((HU.out.below hX).more hX.size)
          go_wp2_with fail
          refine (A3y _ i L N us _ X IX.out.dir cR.out (by omega) (by omega) (by omega) (fun x => by have := aX x; omega)).mono ?_
          rintro x X2 ⟨gR, rfl, cI, b2⟩
          go_wp2_with fail
          exact Ea (hQ' _ _ b2 cI nofun)
        case fP =>
          intro o ho aG X hX hp Q' hQ'
          obtain rfl := Option.some.inj ho
          have bQ : aG 6 = .agg #[.int .i64 (i : Int), .slice Ax L.length cx] := hp 1 _ rfl (by kernel_rfl)
          clear hp ho
          rw [C1] at hQ' ⊢
          dsimp only [C7, E5, List.foldl, zv] at hQ' ⊢
          simp only [Cy]
          rw [bQ] at hQ' ⊢
          clear bQ
          have IX := Lib.hid (bO.out.up hX)
          have cR := Lib.hid ((HU.out.below hX).more hX.size)
          have fQ := Lib.hid ((HG.out.below hX).more hX.size)
          go_wp2_with fail
          refine (B8z i _ L us _ _ X IX.out.es IX.out.dir.okE cR.out fQ.out (by omega) (by omega) (fun x => by have := aX x; omega)).mono ?_
          rintro x X2 ⟨eB, rfl, fR, b2⟩
          go_wp2_with fail
          exact Ea (hQ' _ _ b2 ⟨eB, rfl, fR⟩ nofun)
      case re =>
      intro aG W1 b1 bR cS fS
      have bP : aG 0 = .agg #[.int .i64 (i : Int), .pointer ap, .int .i64 0, .map mb] := bR _ (Ca 0 rfl)
      have bQ : aG 6 = .agg #[.int .i64 (i : Int), .slice Ax L.length cx] := bR _ (Ca 1 rfl)
      have bS : DirIs W1 (aG 5) (i + 1) (applyE us L) (N + us.length) := bR _ (Ca 2 rfl)
      obtain ⟨eB, bT, cT⟩ : ∃ ev, aG 15 = .agg #[.int .i64 ((i + 1 : Nat) : Int), ev] ∧ Es W1 W1.heap.size ev (applyE us L) := bR _ (Ca 3 rfl)
      obtain ⟨aH, aI, cU⟩ := bS.form
      obtain ⟨bU, bV, rfl, _, _⟩ := cT.form
      rw [cU] at bS
      rw [C1]
      dsimp only [E5, List.foldl, zv]
      simp only [Cy]
      rw [bP, bQ, cU, bT]
      clear bR cS fS bP bQ cU bT
      have eC : ((i + 1 : Nat) : Int) = (i : Int) + 1 := rfl
      rw [eC] at bS
      rw [eC]
      have bX := (bO.out.up b1).bat
      have BW := (bO.out.up b1).below
      have c1 := aB dX q1 b1
      have c2 := aB dY q2 b1
      have aY := aU.bl b1
      have eD := aV.bl b1
      have eE := Mh 4 aY (by simp)
      obtain ⟨W2, aD⟩ := E9 (C4 W1 ⟨gD, 0, none⟩ [.int .i64 ((i : Int) + 1), .pointer aH, .int .i64 0, .map aI])
      have eF : Bk W2 gD 34 [.int .i64 ((i : Int) + 1), .pointer aH, .int .i64 0, .map aI] := by rw [aD]; exact aY.puts (by simp)
      have aZ : Bk W2 (gD + 1) 37 [.int .i64 (i : Int), .slice Ax L.length cx] := by rw [aD]; exact eD.putFar (by simp) _
      have eG : DirIs W2 (.agg #[.int .i64 ((i : Int) + 1), .pointer aH, .int .i64 0, .map aI]) (i + 1) (applyE us L) (N + us.length) := by rw [aD]; exact bS.put aY (A6c _ _ _ _) (by decide)
      have eH : Es W2 W2.heap.size (.slice bU (applyE us L).length bV) (applyE us L) := by
        rw [aD]
        have := cT.put (o := 0) (vs := [.int .i64 ((i : Int) + 1), .pointer aH, .int .i64 0, .map aI]) aY (A6c _ _ _ _)
        simpa using this
      have eI : BatchIs W2 (.slice (some ⟨g1, 0, none⟩) n co) (.slice (some ⟨g2, 0, none⟩) n cg) bs := by rw [aD]; exact bX.put aY (by decide) (by decide) (by decide) (by decide)
      have eJ : W2.cell? ⟨g1, i, none⟩ = some (.slice Au us.length cu) := by rw [aD, Cf n1]; exact c1
      have eK : W2.cell? ⟨g2, i, none⟩ = some bv := by rw [aD, Cf n2]; exact c2
      have eL : Below w.heap.size w W2 := by rw [aD]; exact C0 BW (by simp; omega) _
      have P2 : PlR W2 gD bs bG l l := by rw [aD]; exact (dZ.out.up b1).put aY (A6c _ _ _ _) (by omega) (by decide)
      have D2 : DsR W2 gD bF l := by rw [aD]; exact (eA.out.up b1).put (by omega)
      have eM := Mh 2 aZ (by simp)
      obtain ⟨W3, aE⟩ := E9 (C4 W2 ⟨gD + 1, 0, none⟩ [.int .i64 ((i : Int) + 1), .slice bU (applyE us L).length bV])
      have I3 : DaI w W3 gD (gD + 1) (.slice (some ⟨g1, 0, none⟩) n co) (.slice (some ⟨g2, 0, none⟩) n cg) bs (i + 1) (.agg #[.int .i64 ((i : Int) + 1), .pointer aH, .int .i64 0, .map aI]) (.slice bU (applyE us L).length bV) (applyE us L) (N + us.length) :=
        { eq := cF.out
          kd := ⟨aH, aI, rfl, by rw [aE]; exact eF.putFar (by simp) _⟩
          kx := ⟨bU, bV, rfl, by rw [aE]; exact aZ.puts (by simp)⟩
          dir := by rw [aE]; exact eG.put aZ (Tn _ _ _ _) (by decide)
          es := by
            rw [aE]
            have := eH.put (o := 0) (vs := [.int .i64 ((i : Int) + 1), .slice bU (applyE us L).length bV]) aZ (Tn _ _ _ _)
            simpa using this
          bat := by rw [aE]; exact eI.put aZ (by decide) (by decide) (by decide) (by decide)
          hN := by omega
          len := by omega
          lks := fun x => by have a := bN x; have b := aX x; omega
          below := by rw [aE]; exact C0 eL (by simp; omega) _ }
      have cV : W3.cell? ⟨g1, i, none⟩ = some (.slice Au us.length cu) := by rw [aE, Cf n3]; exact eJ
      have cW : W3.cell? ⟨g2, i, none⟩ = some bv := by rw [aE, Cf n4]; exact eK
      have bD := Lib.hid I3
      have eN := Lib.hid (show PlR W3 gD bs bG l l from by rw [aE]; exact P2.put aZ (Tn _ _ _ _) (by omega) (by decide))
      have eO := Lib.hid (show DsR W3 gD bF l from by rw [aE]; exact D2.put (by omega))
      clear I3 bX BW c1 c2 aY eD eF aZ eG eH eI eL bS cT q1 q2 kD kX aU aV I1 bO dZ eA P2 D2 aB HU HG fM cQ bN cF
      refine Ci 16 fun Q' hQ' => ?_
      dsimp only [C7]
      go_wp2_with fail
      rw [← aD]
      refine hQ' _ _ ⟨eJ, eK⟩ ?_
      clear hQ' aD
      refine Ci 17 fun Q' hQ' => ?_
      dsimp only [C7]
      go_wp2_with fail
      rw [← aE]
      refine hQ' _ _ ⟨cV, cW⟩ ?_
      clear hQ' aE
      refine It ?_
      obtain ⟨cX, cY, bY, bZ⟩ := bD.out.kd
      have fT : C8 W3 ⟨gD, 0, none⟩ 4 = some [.int .i64 ((i : Int) + 1), .pointer aH, .int .i64 0, .map aI] := by
        obtain ⟨rfl, rfl⟩ := (by simpa using bY : aH = cX ∧ aI = cY)
        exact bZ.rows
      clear bY bZ
      go_wp2_with fail
      have cZ : (applyE us L).length ≤ 1000000 := by have := bD.out.len; omega
      have dC : ∀ x, (lookE (applyE us L) x).length ≤ 1000000 := fun x => by have := bD.out.lks x; omega
      refine (B9y _ (i + 1) (N + us.length) (applyE us L) W3 bD.out.dir cZ dC).mono ?_
      rintro x w4 ⟨kv, rfl, ho, b4⟩
      obtain ⟨m, hm⟩ := E9 (((applyE us L).map (·.1)).length)
      obtain ⟨Ak, ck, rfl, _, _⟩ := ho.form
      have HO := Lib.hid ((Ee.hs ho).less (Nat.zero_le _))
      rw [← hm] at HO ⊢
      have HM := Lib.hid hm
      have eP := Lib.hid (bD.out.up b4)
      have fU := Lib.hid (eN.out.up b4)
      have fV := Lib.hid (eO.out.up b4)
      have gS : m ≤ 1000000 := by rw [hm, List.length_map]; exact cZ
      clear ho hm fT bD eN eO b4
      go_wp2_with fail
      obtain ⟨Wy, rfl⟩ := E9 (w4)
      go_loopw [53] (fun x wr => ∃ (p : Nat), p ≤ m ∧ x = .int .i64 (p : Int) ∧ Below Wy.heap.size Wy wr) (fun x _ => m - (intOf x).toNat)
      case atStart => exact ⟨0, by omega, rfl, Below.refl _ _⟩
      case round =>
        obtain ⟨p, hp, rfl, Br⟩ := hrel
        by_cases hltp : p < m
        · have fW : decide ((p : Int) < (m : Int)) = true := decide_eq_true (by omega)
          have dD := decide_eq_true hltp
          obtain ⟨k, hk⟩ : ∃ k, ((applyE us L).map (·.1))[p]? = some k := ⟨_, List.getElem?_eq_getElem (by rw [← HM.out]; exact hltp)⟩
          have bA := HO.out.1 k (List.mem_of_getElem? hk)
          obtain ⟨g, o, rfl, hg, cA⟩ := HO.out.at_ hk
          have fX := (N6 (a := ⟨g, o + p * 32, none⟩) Br hg).trans cA
          obtain ⟨W, hW⟩ := E9 (C4 (wr.alloc (Obj.cells (c8 (z8 32)).toArray 23)) ⟨wr.heap.size, 0, none⟩ (c8 k))
          have k0 := Bk.new wr 23 (c8 (z8 32))
          have dF := Bk.can8 (n := 32) k0 (by simp)
          have kk : Bk W wr.heap.size 23 (c8 k) := by rw [hW]; exact Bk.put8 (n := 32) k0 (by simp) bA
          have bW : Below wr.heap.size wr W := by rw [hW]; exact C0 (Bh _ _) (Nat.le_refl _) _
          have BW := Q5 Br bW
          have I5 := eP.out.up BW
          obtain ⟨cX, cY, bY, bZ⟩ := I5.kd
          obtain ⟨rfl, rfl⟩ := (by simpa using bY : aH = cX ∧ aI = cY)
          have r1 : C8 W ⟨gD, 0, none⟩ 4 = some [.int .i64 ((i : Int) + 1), .pointer aH, .int .i64 0, .map aI] := bZ.rows
          have r2 := Bk.row8 (n := 32) kk bA
          rw [hW] at r1 r2
          clear hk cA k0 bY bZ
          go_wp2_with fail
          rw [← hW]
          refine (Xj I5.dir k bA (dC k)).mono ?_
          rintro x w5 ⟨u5, rfl, cG, b5⟩
          clear hW r1 r2 dF fX kk I5
          have B5 := Q5 BW b5
          obtain ⟨n5, dG⟩ := E9 ((lookE (applyE us L) k).length)
          have fY : n5 * 32 = ((lookE (applyE us L) k).flatten).length := by rw [dG, Aj cG.1]
          have eQ := Wc cG.2
          have eS := fun g e => (cG.2.lt g e).1
          rw [← dG] at eQ
          clear dG cG dC cZ
          rcases eQ with ⟨rfl, rfl⟩ | ⟨g5, tl5, c5, rfl, kb5, bB⟩
          · go_wp2_with fail
            go_roundw
            case rel => exact ⟨p + 1, by omega, by go_num, B5⟩
            case measure => simp [intOf]; omega
          · rcases Nat.eq_zero_or_pos n5 with rfl | hpos
            · go_wp2_with fail
              go_roundw
              case rel => exact ⟨p + 1, by omega, by go_num, B5⟩
              case measure => simp [intOf]; omega
            · have gT : decide ((0 : Int) < (n5 : Int)) = true := decide_eq_true (by omega)
              have gU := decide_eq_true hpos
              obtain ⟨x9, eT⟩ : ∃ x, ((lookE (applyE us L) k).flatten)[9]? = some x := ⟨_, List.getElem?_eq_getElem (by omega)⟩
              have c9 : w5.cell? ⟨g5, 9, none⟩ = some (.int .u8 (n8 x9)) := kb5.at_ (by rw [List.getElem?_append_left (by rw [E4]; omega)]; simp only [c8, List.getElem?_map, eT]; rfl)
              have f9 := kb5.frozen 9
              have fZ : Wy.heap.size ≤ g5 := Nat.le_trans BW.size (eS g5 rfl)
              clear eS eT fY kb5
              go_wp2_with fail
              refine Af 7 (by kernel_rfl) (by kernel_rfl) ?_
              simp only [List.take_succ_cons, List.take_zero, List.drop_succ_cons, List.drop_zero]
              repeat (go_big_quiet_step (fail))
              refine wpQuiet_nil ?_
              rintro w6 ⟨gA, rfl⟩
              go_wp2_with fail
              go_roundw
              case rel => exact ⟨p + 1, by omega, by go_num, (K9 B5 gA).setCell (by simpa using fZ) _⟩
              case measure => simp [intOf]; omega
        · obtain rfl : p = m := by omega
          have fW : decide ((p : Int) < (p : Int)) = false := decide_eq_false (by omega)
          have dD : decide (p < p) = false := decide_eq_false (by omega)
          have I6 := eP.out.up Br
          have P6 := fU.out.up Br
          have D6 := fV.out.up Br
          go_wp2_with fail
          go_roundw
          case rel => exact ⟨i + 1, _, _, applyE us L, N + us.length, l, bF, bG, rfl, rfl, by omega, by go_num, fK, I6, P6, D6⟩
          case measure => simp [intOf]; omega
    · obtain rfl : i = n := by omega
      have hd : decide ((i : Int) < (i : Int)) = false := decide_eq_false (by omega)
      have cI : decide (i < i) = false := decide_eq_false (by omega)
      obtain ⟨A7, c7, rfl, _, _⟩ := Ai DR
      obtain ⟨A8, gV, rfl, _, _⟩ := Ai PR.xs
      have gC := Lib.hid aF
      rw [aF] at DR PR ⊢
      have HI := Lib.hid I
      have HP := Lib.hid PR
      have HD := Lib.hid DR
      clear I PR DR aF
      go_wp2_with fail
      obtain ⟨Wz, rfl⟩ := E9 (wr)
      go_loopw [74] (fun x wr => ∃ (j : Nat), j ≤ i ∧ x = .int .i64 (j : Int) ∧ Below Wz.heap.size Wz wr) (fun x _ => i - (intOf x).toNat)
      case atStart => exact ⟨0, by omega, rfl, Below.refl _ _⟩
      case round =>
        obtain ⟨j, hj, rfl, Br⟩ := hrel
        by_cases hltj : j < i
        · have gF : decide ((j : Int) < (i : Int)) = true := decide_eq_true (by omega)
          have dI := decide_eq_true hltj
          obtain ⟨q, hq⟩ : ∃ q, l0[j]? = some q := ⟨_, List.getElem?_eq_getElem (by rw [gC.out]; exact hltj)⟩
          have dJ := Lib.hid ((HP.out.up Br).up (Below.refl _ _).drew)
          obtain ⟨g7, rfl, gG, r7⟩ := (HD.out.up Br).at_ hq
          obtain ⟨g8, rfl, gH, r8⟩ := (HP.out.up Br).at_ hq
          obtain ⟨Nq, eU⟩ := dJ.out.dir j q hq
          have eV := dJ.out.ref j q hq
          obtain ⟨gW, gI⟩ := dJ.out.len j q hq
          have gJ := Lib.hid eU
          have cF := Lib.hid eV
          have eX : ∀ {X : World} {g o n : Nat} {cs : List Value}, g < wr.heap.size → C8 wr ⟨g, o, none⟩ n = some cs → Below wr.drew.heap.size wr.drew X → C8 X ⟨g, o, none⟩ n = some cs := fun {X g o n cs} hg hr hb => (N6 (a := ⟨g, o, none⟩) hb hg).trans hr
          clear eU eV hq
          have S0 := Kg wr
          go_wp2_with fail
          refine Jh (fun X => Below wr.drew.heap.size wr.drew X) ?_
          refine Fs (A := ?gY) [0, 1, 2, 3, 4, 5, 6, 7] (Below.refl _ _) (fun X hX => ?gK) ?gZ
          case gK =>
            have f7 : C8 X ⟨g7, j * 4, none⟩ 4 = some [.int .i64 ((0 + j : Nat) : Int), .pointer q.ap, .int .i64 0, .map q.mb] := by rw [Nat.zero_add]; exact eX gG r7 hX
            have f8 : C8 X ⟨g8, j * 2, none⟩ 2 = some [.int .i64 ((0 + j : Nat) : Int), .slice q.A q.n q.c] := by rw [Nat.zero_add]; exact eX gH r8 hX
            rw [Nat.zero_add] at f7 f8
            exact Gq
          refine Ci 8 fun Q' hQ' => ?_
          dsimp only [C7]
          have eY := Lib.hid hQ'
          clear hQ'
          go_wp2_with fail
          refine (A4y _ j Nq (allE (bs.take j)) _ wr.drew gJ.out cF.out (by omega) (fun x => by have := gI x; omega)).mono ?_
          rintro x w5 ⟨rfl, b5⟩
          go_wp2_with fail
          refine eY.out _ _ b5 ?_
          clear eY
          refine Fs (A := ?iA) [9] b5 (fun X hX => ?gL) ?iB
          case gL =>
            simp only [List.append_eq, Vb, pick, Wt]
            repeat (go_big_quiet_step (fail))
            refine wpQuiet_nil ?_
            rfl
          refine It ?_
          have B5 := Q5 (C2 Br S0 Br.size) b5
          go_wp2_with fail
          go_roundw
          case rel => exact ⟨j + 1, by omega, by go_num, B5⟩
          case measure => simp [intOf]; omega
        · obtain rfl : j = i := by omega
          have gF : decide ((j : Int) < (j : Int)) = false := decide_eq_false (by omega)
          have dI : decide (j < j) = false := decide_eq_false (by omega)
          have I2 := HI.out.up Br
          obtain ⟨ap, mb, rfl, kD⟩ := I2.kd
          obtain ⟨Ax, cx, rfl, kX⟩ := I2.kx
          have r1 : C8 wr ⟨gD, 0, none⟩ 4 = some [.int .i64 (j : Int), .pointer ap, .int .i64 0, .map mb] := kD.rows
          have r2 : C8 wr ⟨gD + 1, 0, none⟩ 2 = some [.int .i64 (j : Int), .slice Ax L.length cx] := kX.rows
          have bE := Lib.hid I2
          clear I2 kD kX
          go_wp2_with fail
          refine (A4y _ j N L _ wr bE.out.dir bE.out.es (by have := bE.out.len; omega) (fun x => by have := bE.out.lks x; omega)).mono ?_
          rintro x w5 ⟨rfl, b5⟩
          have BF := C2 bE.out.below b5 bE.out.below.size
          go_wp2_with fail
          go_ret
          exact ⟨rfl, BF⟩
end
end Go.Proofs.YtlegpkdighoflaaGreat
