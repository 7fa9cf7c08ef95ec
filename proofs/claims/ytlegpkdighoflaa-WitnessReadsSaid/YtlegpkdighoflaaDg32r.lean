/- The loops of the reference's Digest at 32 bits a word. Printed by gen_dig.py. -/
import Derived.Test.YtlegpkdighoflaaMD
set_option linter.unusedVariables false
set_option linter.unusedSimpArgs false
namespace Go.Proofs.Ytlegpkdighoflaa
open Go Go.RowKit Sh
set_option maxRecDepth 1000000 in
set_option maxHeartbeats 40000000 in
theorem dig32_round {s0 s2 s3 s4 s9 s10 s11 s13 s16 s17 s18 s21 s22 s23 s24 s25 s26 s27 s28 s29 s30 s31 s32 s33 s34 s35 s36 s37 s38 s39 s40 s41 s42 s43 s44 s45 s46 s47 s48 s49 s50 s51 s52 s53 s54 s55 s56 s57 s58 s59 s60 s61 s62 s63 s64 s65 s66 s67 s68 s69 s70 s71 s72 s73 s74 s75 s76 s77 s78 s79 s80 s81 s82 s83 s84 s85 s86 s87 s88 s89 s90 s91 s92 s93 s94 s95 s96 s97 s98 s99 s100 s101 s102 s103 s104 s105 s106 s107 s108 s109 s110 s111 s112 s113 s114 s115 s116 s117 s118 s119 s120 s121 s122 s123 s124 s125 s126 s127 s128 s129 s130 s131 s132 s133 s134 s135 s136 s137 s138 s139 s140 s141 s142 s143 s144 s145 s146 s147 s148 s149 s150 s151 s152 s153 s154 s155 s156 s157 s158 s159 s160 s161 s162 s163 s164 s165 s166 s167 s168 s169 s170 s171 s172 s173 s174 s175 s176 s177 s178 s179 s180 s181 s182 s183 s184 s185 s186 s187 s188 s189 s190 s191 s192 s193 s194 s195 s196 s197 s198 s199 s200 s201 s202 s203 s204 s205 s206 s207 s208 s209 s210 s211 s212 s213 s214 s215 s216 s217 s218 s219 s220 s221 s222 s223 s224 s225 s226 s227 s228 s229 s230 s231 s232 s233 s234 s235 s236 s237 s238 s239 s240 s241 s242 s243 s244 s245 s246 s247 s248 s249 s250 s251 s252 s253 s254 s255 s256 s257 s258 s259 s260 s261 s262 s263 s264 s265 s266 s267 s268 s269 s270 s271 s272 s273 s274 s275 s276 s277 s278 s279 s280 s281 s282 s283 s284 s285 s286 s287 s288 s289 s290 s291 s292 s293 s294 s295 s296 s297 s298 s299 s300 s301 s302 s303 s304 s305 s306 s307 s308 s309 s310 s311 s312 s313 s314 s315 s316 s317 s318 s319 s320 s321 s322 s323 s324 s325 s326 s327 s328 s329 s330 s331 s332 s333 s334 s335 s336 s337 s338 s339 s340 s341 s342 s343 s344 s345 s346 s347 s348 s349 s350 s351 s352 s353 s354 s355 s356 s357 s358 : Value} {Q : Exit → Act → World → Prop} {g o L c gn gh gx i : Nat} {w3 w0 : World} {v0 : Value} (S : List UInt32)
    (TS : Nat → List UInt32) (M : List UInt32) (hM : M.length = 64) (HTn : Hid (∀ t, TS (t + 1) = round32 (TS t) (K32 t) (g32 M t))) (HTl : Hid (∀ t, (TS t).length = 8)) (hS : (up (S)).length = 8) (hgn : gn < gh) (hgx : gh < gx) (N0 : Bk w3 gn 84 ns32) (V0 : V8 w0 (gx + 1) v0 (up (TS 0))) (X0 : Bk w0 gx 103 (c64 (up (M)))) (H0 : Bk w0 gh 103 (c64 (up (S)))) (D0 : Below gh w3 w0)
    (hexit : ∀ (x19 x21 x22 x23 x24 x192 x193 x194 x195 x196 x197 x198 x199 x200 x201 x202 x203 x204 x205 x206 x207 x208 x209 x210 x211 x212 x213 x214 x215 x216 x217 x218 x219 x220 x221 x222 x223 x224 x225 x226 x227 x228 x229 x230 x231 x232 x233 x234 x235 x236 x237 x238 x239 x240 x241 x242 x243 x244 x245 x246 x247 x248 x249 x250 x251 x252 x253 x254 x255 x256 x257 x258 x259 x260 x261 x262 x263 x264 x265 x266 x267 x268 x269 x270 x271 x272 x273 x274 x275 x276 x277 x278 x279 x280 x281 x282 x283 x284 x285 x286 x287 x288 x289 x290 x291 x292 x293 x294 x295 x296 x297 x298 x299 x300 x301 x302 x303 x304 x305 x306 x307 x308 x309 x310 x311 x312 x313 x314 x315 : Value) (w' : World), V8 w' (gx + 1) x19 (up (TS 64)) → Bk w' gx 103 (c64 (up (M))) → Bk w' gh 103 (c64 (up (S))) → Below gh w3 w' → Q (.exit 14) ⟨(s0 :: .int .u64 32 :: s2 :: s3 :: s4 :: .slice (some ⟨gn, 0, none⟩) 12 12 :: .int .i64 64 :: .int .i64 4 :: .slice (some ⟨g, o, none⟩) L c :: s9 :: s10 :: s11 :: .slice (some ⟨gh, 0, none⟩) 8 8 :: s13 :: .int .i64 (64 * (i : Int)) :: .slice (some ⟨gx, 0, none⟩) 64 64 :: s16 :: s17 :: s18 :: x19 :: .int .i64 64 :: x21 :: x22 :: x23 :: x24 :: s25 :: s26 :: s27 :: s28 :: s29 :: s30 :: s31 :: s32 :: s33 :: s34 :: s35 :: s36 :: s37 :: s38 :: s39 :: s40 :: s41 :: s42 :: s43 :: s44 :: s45 :: s46 :: s47 :: s48 :: s49 :: s50 :: s51 :: s52 :: s53 :: s54 :: s55 :: s56 :: s57 :: s58 :: s59 :: s60 :: s61 :: s62 :: s63 :: s64 :: s65 :: s66 :: s67 :: s68 :: s69 :: s70 :: s71 :: s72 :: s73 :: s74 :: s75 :: s76 :: s77 :: s78 :: s79 :: s80 :: s81 :: s82 :: s83 :: s84 :: s85 :: s86 :: s87 :: s88 :: s89 :: s90 :: s91 :: s92 :: s93 :: s94 :: s95 :: s96 :: s97 :: s98 :: s99 :: s100 :: s101 :: s102 :: s103 :: s104 :: s105 :: s106 :: s107 :: s108 :: s109 :: s110 :: s111 :: s112 :: s113 :: s114 :: s115 :: s116 :: s117 :: s118 :: s119 :: s120 :: s121 :: s122 :: s123 :: s124 :: s125 :: s126 :: s127 :: s128 :: s129 :: s130 :: s131 :: s132 :: s133 :: s134 :: s135 :: s136 :: s137 :: s138 :: s139 :: s140 :: s141 :: s142 :: s143 :: s144 :: s145 :: s146 :: s147 :: s148 :: s149 :: s150 :: s151 :: s152 :: s153 :: s154 :: s155 :: s156 :: s157 :: s158 :: s159 :: s160 :: s161 :: s162 :: s163 :: s164 :: s165 :: s166 :: s167 :: s168 :: s169 :: s170 :: s171 :: s172 :: s173 :: s174 :: s175 :: s176 :: s177 :: s178 :: s179 :: s180 :: s181 :: s182 :: s183 :: s184 :: s185 :: s186 :: s187 :: s188 :: s189 :: s190 :: s191 :: x192 :: x193 :: x194 :: x195 :: x196 :: x197 :: x198 :: x199 :: x200 :: x201 :: x202 :: x203 :: x204 :: x205 :: x206 :: x207 :: x208 :: x209 :: x210 :: x211 :: x212 :: x213 :: x214 :: x215 :: x216 :: x217 :: x218 :: x219 :: x220 :: x221 :: x222 :: x223 :: x224 :: x225 :: x226 :: x227 :: x228 :: x229 :: x230 :: x231 :: x232 :: x233 :: x234 :: x235 :: x236 :: x237 :: x238 :: x239 :: x240 :: x241 :: x242 :: x243 :: x244 :: x245 :: x246 :: x247 :: x248 :: x249 :: x250 :: x251 :: x252 :: x253 :: x254 :: x255 :: x256 :: x257 :: x258 :: x259 :: x260 :: x261 :: x262 :: x263 :: x264 :: x265 :: x266 :: x267 :: x268 :: x269 :: x270 :: x271 :: x272 :: x273 :: x274 :: x275 :: x276 :: x277 :: x278 :: x279 :: x280 :: x281 :: x282 :: x283 :: x284 :: x285 :: x286 :: x287 :: x288 :: x289 :: x290 :: x291 :: x292 :: x293 :: x294 :: x295 :: x296 :: x297 :: x298 :: x299 :: x300 :: x301 :: x302 :: x303 :: x304 :: x305 :: x306 :: x307 :: x308 :: x309 :: x310 :: x311 :: x312 :: x313 :: x314 :: x315 :: s316 :: s317 :: s318 :: s319 :: s320 :: s321 :: s322 :: s323 :: s324 :: s325 :: s326 :: s327 :: s328 :: s329 :: s330 :: s331 :: s332 :: s333 :: s334 :: s335 :: s336 :: s337 :: s338 :: s339 :: s340 :: s341 :: s342 :: s343 :: s344 :: s345 :: s346 :: s347 :: s348 :: s349 :: s350 :: s351 :: s352 :: s353 :: s354 :: s355 :: s356 :: s357 :: s358 :: []).toArray, []⟩ w') :
    Code.wp Try.prog (digLoop 7) Q ⟨(s0 :: .int .u64 32 :: s2 :: s3 :: s4 :: .slice (some ⟨gn, 0, none⟩) 12 12 :: .int .i64 64 :: .int .i64 4 :: .slice (some ⟨g, o, none⟩) L c :: s9 :: s10 :: s11 :: .slice (some ⟨gh, 0, none⟩) 8 8 :: s13 :: .int .i64 (64 * (i : Int)) :: .slice (some ⟨gx, 0, none⟩) 64 64 :: s16 :: s17 :: s18 :: v0 :: .int .i64 0 :: s21 :: s22 :: s23 :: s24 :: s25 :: s26 :: s27 :: s28 :: s29 :: s30 :: s31 :: s32 :: s33 :: s34 :: s35 :: s36 :: s37 :: s38 :: s39 :: s40 :: s41 :: s42 :: s43 :: s44 :: s45 :: s46 :: s47 :: s48 :: s49 :: s50 :: s51 :: s52 :: s53 :: s54 :: s55 :: s56 :: s57 :: s58 :: s59 :: s60 :: s61 :: s62 :: s63 :: s64 :: s65 :: s66 :: s67 :: s68 :: s69 :: s70 :: s71 :: s72 :: s73 :: s74 :: s75 :: s76 :: s77 :: s78 :: s79 :: s80 :: s81 :: s82 :: s83 :: s84 :: s85 :: s86 :: s87 :: s88 :: s89 :: s90 :: s91 :: s92 :: s93 :: s94 :: s95 :: s96 :: s97 :: s98 :: s99 :: s100 :: s101 :: s102 :: s103 :: s104 :: s105 :: s106 :: s107 :: s108 :: s109 :: s110 :: s111 :: s112 :: s113 :: s114 :: s115 :: s116 :: s117 :: s118 :: s119 :: s120 :: s121 :: s122 :: s123 :: s124 :: s125 :: s126 :: s127 :: s128 :: s129 :: s130 :: s131 :: s132 :: s133 :: s134 :: s135 :: s136 :: s137 :: s138 :: s139 :: s140 :: s141 :: s142 :: s143 :: s144 :: s145 :: s146 :: s147 :: s148 :: s149 :: s150 :: s151 :: s152 :: s153 :: s154 :: s155 :: s156 :: s157 :: s158 :: s159 :: s160 :: s161 :: s162 :: s163 :: s164 :: s165 :: s166 :: s167 :: s168 :: s169 :: s170 :: s171 :: s172 :: s173 :: s174 :: s175 :: s176 :: s177 :: s178 :: s179 :: s180 :: s181 :: s182 :: s183 :: s184 :: s185 :: s186 :: s187 :: s188 :: s189 :: s190 :: s191 :: s192 :: s193 :: s194 :: s195 :: s196 :: s197 :: s198 :: s199 :: s200 :: s201 :: s202 :: s203 :: s204 :: s205 :: s206 :: s207 :: s208 :: s209 :: s210 :: s211 :: s212 :: s213 :: s214 :: s215 :: s216 :: s217 :: s218 :: s219 :: s220 :: s221 :: s222 :: s223 :: s224 :: s225 :: s226 :: s227 :: s228 :: s229 :: s230 :: s231 :: s232 :: s233 :: s234 :: s235 :: s236 :: s237 :: s238 :: s239 :: s240 :: s241 :: s242 :: s243 :: s244 :: s245 :: s246 :: s247 :: s248 :: s249 :: s250 :: s251 :: s252 :: s253 :: s254 :: s255 :: s256 :: s257 :: s258 :: s259 :: s260 :: s261 :: s262 :: s263 :: s264 :: s265 :: s266 :: s267 :: s268 :: s269 :: s270 :: s271 :: s272 :: s273 :: s274 :: s275 :: s276 :: s277 :: s278 :: s279 :: s280 :: s281 :: s282 :: s283 :: s284 :: s285 :: s286 :: s287 :: s288 :: s289 :: s290 :: s291 :: s292 :: s293 :: s294 :: s295 :: s296 :: s297 :: s298 :: s299 :: s300 :: s301 :: s302 :: s303 :: s304 :: s305 :: s306 :: s307 :: s308 :: s309 :: s310 :: s311 :: s312 :: s313 :: s314 :: s315 :: s316 :: s317 :: s318 :: s319 :: s320 :: s321 :: s322 :: s323 :: s324 :: s325 :: s326 :: s327 :: s328 :: s329 :: s330 :: s331 :: s332 :: s333 :: s334 :: s335 :: s336 :: s337 :: s338 :: s339 :: s340 :: s341 :: s342 :: s343 :: s344 :: s345 :: s346 :: s347 :: s348 :: s349 :: s350 :: s351 :: s352 :: s353 :: s354 :: s355 :: s356 :: s357 :: s358 :: []).toArray, []⟩ w0 := by
  conv => arg 2; whnf
  have eW : IntKind.u64.wrap (64 - (32 : Int)) = 32 := by decide
  go_loopw [19, 20] (fun v t wr => ∃ t' : Nat, t' ≤ 64 ∧ t = .int .i64 (t' : Int) ∧ V8 wr (gx + 1) v (up (TS t')) ∧ Bk wr gx 103 (c64 (up (M))) ∧ Bk wr gh 103 (c64 (up (S))) ∧ Below gh w3 wr) (fun _ t _ => 64 - (intOf t).toNat)
  case atStart => exact ⟨0, by omega, rfl, V0, X0, H0, D0⟩
  case round =>
    clear V0 X0 H0 D0
    obtain ⟨t, ht, rfl, Vr, Xr, Hr, Dr⟩ := hrel
    by_cases ht64 : t < 64
    · have Hnx := Lib.hid ((congrArg up (HTn.out t)).trans (round_up32 (TS t) t (g32 M t)))
      generalize hV : TS t = V at *
      have hVl : V.length = 8 := by rw [← hV]; exact HTl.out t
      clear hV
      obtain ⟨cv, gv, ov, rfl, hc1, hc2, hgv1, hgv2, hvc⟩ := Vr
      have v0 := hvc 0 (by omega)
      have v1 := hvc 1 (by omega)
      have v2 := hvc 2 (by omega)
      have v3 := hvc 3 (by omega)
      have v4 := hvc 4 (by omega)
      have v5 := hvc 5 (by omega)
      have v6 := hvc 6 (by omega)
      have v7 := hvc 7 (by omega)
      rw [g64_up] at v0 v1 v2 v3 v4 v5 v6 v7
      rw [Nat.add_zero] at v0
      have xt : wr.cell? ⟨gx, t, none⟩ = some (.int .u64 (n64 ((g32 M t).toUInt64))) := Xr.at_ (by rw [c64_at (by rw [length_up]; omega), g64_up])
      have nN := N0.below Dr hgn
      have n0 : wr.cell? ⟨gn, 0, none⟩ = some (.int .u64 2) := nN.at_ rfl
      have n1 : wr.cell? ⟨gn, 1, none⟩ = some (.int .u64 13) := nN.at_ rfl
      have n2 : wr.cell? ⟨gn, 2, none⟩ = some (.int .u64 22) := nN.at_ rfl
      have n3 : wr.cell? ⟨gn, 3, none⟩ = some (.int .u64 6) := nN.at_ rfl
      have n4 : wr.cell? ⟨gn, 4, none⟩ = some (.int .u64 11) := nN.at_ rfl
      have n5 : wr.cell? ⟨gn, 5, none⟩ = some (.int .u64 25) := nN.at_ rfl
      have sx := Xr.lt
      have sh := Hr.lt
      have sn := nN.lt
      clear hvc nN
      go_wp2_with fail
      go_quiet ((go_at_call 46; first | exact quiet_same (cutlow _) | exact quiet_same2 (cutlow _)))
      go_wp2_with fail
      go_quiet (fail)
      go_wp2_with fail
      refine wp_ext (by kernel_rfl) (by kernel_rfl) ?_
      repeat (go_big_quiet_step (first | (go_at_call 47; exact quiet_ext_same (three32 _ _ _ _ _ (by omega))) | (go_at_call 48; exact quiet_ext (fun W _ => cube_any t (by omega) W))))
      refine wpQuiet_nil ?_
      rintro w5 ⟨p5, hw5⟩
      have Be : Below wr.heap.size wr w5 := by rw [hw5]; exact below_ext wr p5
      clear hw5
      have v0 := (Be.cell hgv2).trans v0
      have v1 := (Be.cell hgv2).trans v1
      have v2 := (Be.cell hgv2).trans v2
      have v3 := (Be.cell hgv2).trans v3
      have v4 := (Be.cell hgv2).trans v4
      have v5 := (Be.cell hgv2).trans v5
      have v6 := (Be.cell hgv2).trans v6
      have v7 := (Be.cell hgv2).trans v7
      have n0 := (Be.cell sn).trans n0
      have n1 := (Be.cell sn).trans n1
      have n2 := (Be.cell sn).trans n2
      clear n3 n4 n5 xt
      go_wp2_with fail
      go_quiet ((go_at_call 47; first | exact quiet_same (three32 _ _ _ _ _ (by omega)) | exact quiet_same2 (three32 _ _ _ _ _ (by omega))))
      go_wp2_with fail
      refine wp_quiet_tail 30 (by kernel_rfl) (by kernel_rfl) ?_
      simp only [List.take_succ_cons, List.take_zero, List.drop_succ_cons, List.drop_zero]
      repeat (go_big_quiet_step ((go_at_call 46; first | exact quiet_same (cutlow _) | exact quiet_same2 (cutlow _))))
      refine wpQuiet_nil ?_
      rintro w6 ⟨nq6, hw6⟩
      have B6 : Below wr.heap.size wr w6 := by rw [hw6]; exact below_drewN (below_drewN Be _) _
      clear hw6 v0 v1 v2 v3 v4 v5 v6 v7 n0 n1 n2 Be
      go_wp2_with (refine wpList_buildSlice rfl _ 103 _ _ rfl Try.underlying104 1 _ infoU64 (by decide) (by decide) (c64 [low (tA32 V t (g32 M t) + tB32 V), (g32 V 0).toUInt64, (g32 V 1).toUInt64, (g32 V 2).toUInt64, low ((g32 V 3).toUInt64 + tA32 V t (g32 M t)), (g32 V 4).toUInt64, (g32 V 5).toUInt64, (g32 V 6).toUInt64]).toArray (by kernel_rfl) ?_)
      go_roundw
      case rel =>
        exact ⟨t + 1, by omega, by go_num, by rw [Hnx.out]; exact (V8.new w6 _ rfl).less (by have := B6.size; omega), (Xr.below B6 sx).alloc _, (Hr.below B6 sh).alloc _, (Dr.trans (B6.mono (by omega))).alloc (by have := B6.size; omega) _⟩
      case measure => simp [intOf]; omega
    · obtain rfl : t = 64 := by omega
      have eR : ((64 : Nat) : Int) = 64 := rfl
      rw [eR]
      clear eR
      go_wp2_with fail
      apply hexit
      · exact Vr
      · exact Xr
      · exact Hr
      · exact Dr

end Go.Proofs.Ytlegpkdighoflaa
