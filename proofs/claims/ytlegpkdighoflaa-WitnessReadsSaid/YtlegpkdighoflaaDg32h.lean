/- The loops of the reference's Digest at 32 bits a word. Printed by gen_dig.py. -/
import Derived.Test.YtlegpkdighoflaaMD
set_option linter.unusedVariables false
set_option linter.unusedSimpArgs false
namespace Go.Proofs.Ytlegpkdighoflaa
open Go Go.RowKit Sh
set_option maxRecDepth 1000000 in
set_option maxHeartbeats 40000000 in
theorem dig32_high {s0 s2 s3 s4 s9 s10 s11 s13 s16 s17 s19 s20 s21 s22 s23 s24 s25 s26 s27 s28 s29 s30 s31 s32 s33 s34 s35 s36 s37 s38 s39 s40 s41 s42 s43 s44 s45 s46 s47 s48 s49 s50 s51 s52 s53 s54 s55 s56 s57 s58 s59 s60 s61 s62 s63 s64 s65 s66 s67 s68 s69 s70 s71 s72 s73 s74 s75 s76 s77 s78 s79 s80 s81 s82 s83 s84 s85 s86 s87 s88 s89 s90 s91 s92 s93 s94 s95 s96 s97 s98 s99 s100 s101 s102 s103 s104 s105 s106 s107 s108 s109 s110 s111 s112 s113 s114 s115 s116 s117 s118 s119 s120 s121 s122 s123 s124 s125 s126 s127 s128 s129 s130 s131 s132 s133 s134 s135 s136 s137 s138 s139 s140 s141 s142 s143 s144 s145 s146 s147 s148 s149 s150 s151 s152 s153 s154 s155 s156 s157 s158 s159 s160 s161 s162 s163 s164 s165 s166 s167 s168 s169 s170 s171 s172 s173 s174 s175 s176 s177 s178 s179 s180 s181 s182 s183 s184 s185 s186 s187 s188 s189 s190 s191 s192 s193 s194 s195 s196 s197 s198 s199 s200 s201 s202 s203 s204 s205 s206 s207 s208 s209 s210 s211 s212 s213 s214 s215 s216 s217 s218 s219 s220 s221 s222 s223 s224 s225 s226 s227 s228 s229 s230 s231 s232 s233 s234 s235 s236 s237 s238 s239 s240 s241 s242 s243 s244 s245 s246 s247 s248 s249 s250 s251 s252 s253 s254 s255 s256 s257 s258 s259 s260 s261 s262 s263 s264 s265 s266 s267 s268 s269 s270 s271 s272 s273 s274 s275 s276 s277 s278 s279 s280 s281 s282 s283 s284 s285 s286 s287 s288 s289 s290 s291 s292 s293 s294 s295 s296 s297 s298 s299 s300 s301 s302 s303 s304 s305 s306 s307 s308 s309 s310 s311 s312 s313 s314 s315 s316 s317 s318 s319 s320 s321 s322 s323 s324 s325 s326 s327 s328 s329 s330 s331 s332 s333 s334 s335 s336 s337 s338 s339 s340 s341 s342 s343 s344 s345 s346 s347 s348 s349 s350 s351 s352 s353 s354 s355 s356 s357 s358 : Value} {Q : Exit → Act → World → Prop} {g o L c gn gh gx i : Nat} {w3 w0 : World} (S : List UInt32) (q : List UInt8)
    (WS : Nat → List UInt32) (Hlen : Hid (∀ t, (WS t).length = t)) (Hlow : Hid (∀ t, t < 16 → (up (WS (t + 1))) = (up (WS t)) ++ [pw 4 q t 4])) (Hhigh : Hid (∀ t, 16 ≤ t → (up (WS (t + 1))) = (up (WS t)) ++ [low ((th32 (g32 (WS t) (t - 2)) 17 19 10 true).toUInt64 + (g32 (WS t) (t - 7)).toUInt64 + (th32 (g32 (WS t) (t - 15)) 7 18 3 true).toUInt64 + (g32 (WS t) (t - 16)).toUInt64)])) (hS : (up (S)).length = 8)
    (hgn : gn < gh) (hgx : gh < gx) (N0 : Bk w3 gn 84 ns32) (X0 : Bk w0 gx 103 (c64 (xs 64 (up (WS 16))))) (H0 : Bk w0 gh 103 (c64 (up (S)))) (D0 : Below gh w3 w0)
    (hexit : ∀ (x134 x135 x136 x137 x138 x139 x140 x141 x142 x143 x144 x145 x146 x147 x148 x149 x150 x151 x152 x153 x154 x155 x156 x157 x158 x159 x160 x161 x162 x163 x164 x165 x166 x167 x168 x169 x170 x171 x172 x173 x174 x175 x176 x177 x178 x179 x180 x181 x182 x183 x184 x185 x186 x187 x188 : Value) (w' : World), Bk w' gx 103 (c64 (xs 64 (up (WS 64)))) → Bk w' gh 103 (c64 (up (S))) → Below gh w3 w' → Q (.exit 12) ⟨(s0 :: .int .u64 32 :: s2 :: s3 :: s4 :: .slice (some ⟨gn, 0, none⟩) 12 12 :: .int .i64 64 :: .int .i64 4 :: .slice (some ⟨g, o, none⟩) L c :: s9 :: s10 :: s11 :: .slice (some ⟨gh, 0, none⟩) 8 8 :: s13 :: .int .i64 (64 * (i : Int)) :: .slice (some ⟨gx, 0, none⟩) 64 64 :: s16 :: s17 :: .int .i64 64 :: s19 :: s20 :: s21 :: s22 :: s23 :: s24 :: s25 :: s26 :: s27 :: s28 :: s29 :: s30 :: s31 :: s32 :: s33 :: s34 :: s35 :: s36 :: s37 :: s38 :: s39 :: s40 :: s41 :: s42 :: s43 :: s44 :: s45 :: s46 :: s47 :: s48 :: s49 :: s50 :: s51 :: s52 :: s53 :: s54 :: s55 :: s56 :: s57 :: s58 :: s59 :: s60 :: s61 :: s62 :: s63 :: s64 :: s65 :: s66 :: s67 :: s68 :: s69 :: s70 :: s71 :: s72 :: s73 :: s74 :: s75 :: s76 :: s77 :: s78 :: s79 :: s80 :: s81 :: s82 :: s83 :: s84 :: s85 :: s86 :: s87 :: s88 :: s89 :: s90 :: s91 :: s92 :: s93 :: s94 :: s95 :: s96 :: s97 :: s98 :: s99 :: s100 :: s101 :: s102 :: s103 :: s104 :: s105 :: s106 :: s107 :: s108 :: s109 :: s110 :: s111 :: s112 :: s113 :: s114 :: s115 :: s116 :: s117 :: s118 :: s119 :: s120 :: s121 :: s122 :: s123 :: s124 :: s125 :: s126 :: s127 :: s128 :: s129 :: s130 :: s131 :: s132 :: s133 :: x134 :: x135 :: x136 :: x137 :: x138 :: x139 :: x140 :: x141 :: x142 :: x143 :: x144 :: x145 :: x146 :: x147 :: x148 :: x149 :: x150 :: x151 :: x152 :: x153 :: x154 :: x155 :: x156 :: x157 :: x158 :: x159 :: x160 :: x161 :: x162 :: x163 :: x164 :: x165 :: x166 :: x167 :: x168 :: x169 :: x170 :: x171 :: x172 :: x173 :: x174 :: x175 :: x176 :: x177 :: x178 :: x179 :: x180 :: x181 :: x182 :: x183 :: x184 :: x185 :: x186 :: x187 :: x188 :: s189 :: s190 :: s191 :: s192 :: s193 :: s194 :: s195 :: s196 :: s197 :: s198 :: s199 :: s200 :: s201 :: s202 :: s203 :: s204 :: s205 :: s206 :: s207 :: s208 :: s209 :: s210 :: s211 :: s212 :: s213 :: s214 :: s215 :: s216 :: s217 :: s218 :: s219 :: s220 :: s221 :: s222 :: s223 :: s224 :: s225 :: s226 :: s227 :: s228 :: s229 :: s230 :: s231 :: s232 :: s233 :: s234 :: s235 :: s236 :: s237 :: s238 :: s239 :: s240 :: s241 :: s242 :: s243 :: s244 :: s245 :: s246 :: s247 :: s248 :: s249 :: s250 :: s251 :: s252 :: s253 :: s254 :: s255 :: s256 :: s257 :: s258 :: s259 :: s260 :: s261 :: s262 :: s263 :: s264 :: s265 :: s266 :: s267 :: s268 :: s269 :: s270 :: s271 :: s272 :: s273 :: s274 :: s275 :: s276 :: s277 :: s278 :: s279 :: s280 :: s281 :: s282 :: s283 :: s284 :: s285 :: s286 :: s287 :: s288 :: s289 :: s290 :: s291 :: s292 :: s293 :: s294 :: s295 :: s296 :: s297 :: s298 :: s299 :: s300 :: s301 :: s302 :: s303 :: s304 :: s305 :: s306 :: s307 :: s308 :: s309 :: s310 :: s311 :: s312 :: s313 :: s314 :: s315 :: s316 :: s317 :: s318 :: s319 :: s320 :: s321 :: s322 :: s323 :: s324 :: s325 :: s326 :: s327 :: s328 :: s329 :: s330 :: s331 :: s332 :: s333 :: s334 :: s335 :: s336 :: s337 :: s338 :: s339 :: s340 :: s341 :: s342 :: s343 :: s344 :: s345 :: s346 :: s347 :: s348 :: s349 :: s350 :: s351 :: s352 :: s353 :: s354 :: s355 :: s356 :: s357 :: s358 :: []).toArray, []⟩ w') :
    Code.wp Try.prog (digLoop 6) Q ⟨(s0 :: .int .u64 32 :: s2 :: s3 :: s4 :: .slice (some ⟨gn, 0, none⟩) 12 12 :: .int .i64 64 :: .int .i64 4 :: .slice (some ⟨g, o, none⟩) L c :: s9 :: s10 :: s11 :: .slice (some ⟨gh, 0, none⟩) 8 8 :: s13 :: .int .i64 (64 * (i : Int)) :: .slice (some ⟨gx, 0, none⟩) 64 64 :: s16 :: s17 :: .int .i64 16 :: s19 :: s20 :: s21 :: s22 :: s23 :: s24 :: s25 :: s26 :: s27 :: s28 :: s29 :: s30 :: s31 :: s32 :: s33 :: s34 :: s35 :: s36 :: s37 :: s38 :: s39 :: s40 :: s41 :: s42 :: s43 :: s44 :: s45 :: s46 :: s47 :: s48 :: s49 :: s50 :: s51 :: s52 :: s53 :: s54 :: s55 :: s56 :: s57 :: s58 :: s59 :: s60 :: s61 :: s62 :: s63 :: s64 :: s65 :: s66 :: s67 :: s68 :: s69 :: s70 :: s71 :: s72 :: s73 :: s74 :: s75 :: s76 :: s77 :: s78 :: s79 :: s80 :: s81 :: s82 :: s83 :: s84 :: s85 :: s86 :: s87 :: s88 :: s89 :: s90 :: s91 :: s92 :: s93 :: s94 :: s95 :: s96 :: s97 :: s98 :: s99 :: s100 :: s101 :: s102 :: s103 :: s104 :: s105 :: s106 :: s107 :: s108 :: s109 :: s110 :: s111 :: s112 :: s113 :: s114 :: s115 :: s116 :: s117 :: s118 :: s119 :: s120 :: s121 :: s122 :: s123 :: s124 :: s125 :: s126 :: s127 :: s128 :: s129 :: s130 :: s131 :: s132 :: s133 :: s134 :: s135 :: s136 :: s137 :: s138 :: s139 :: s140 :: s141 :: s142 :: s143 :: s144 :: s145 :: s146 :: s147 :: s148 :: s149 :: s150 :: s151 :: s152 :: s153 :: s154 :: s155 :: s156 :: s157 :: s158 :: s159 :: s160 :: s161 :: s162 :: s163 :: s164 :: s165 :: s166 :: s167 :: s168 :: s169 :: s170 :: s171 :: s172 :: s173 :: s174 :: s175 :: s176 :: s177 :: s178 :: s179 :: s180 :: s181 :: s182 :: s183 :: s184 :: s185 :: s186 :: s187 :: s188 :: s189 :: s190 :: s191 :: s192 :: s193 :: s194 :: s195 :: s196 :: s197 :: s198 :: s199 :: s200 :: s201 :: s202 :: s203 :: s204 :: s205 :: s206 :: s207 :: s208 :: s209 :: s210 :: s211 :: s212 :: s213 :: s214 :: s215 :: s216 :: s217 :: s218 :: s219 :: s220 :: s221 :: s222 :: s223 :: s224 :: s225 :: s226 :: s227 :: s228 :: s229 :: s230 :: s231 :: s232 :: s233 :: s234 :: s235 :: s236 :: s237 :: s238 :: s239 :: s240 :: s241 :: s242 :: s243 :: s244 :: s245 :: s246 :: s247 :: s248 :: s249 :: s250 :: s251 :: s252 :: s253 :: s254 :: s255 :: s256 :: s257 :: s258 :: s259 :: s260 :: s261 :: s262 :: s263 :: s264 :: s265 :: s266 :: s267 :: s268 :: s269 :: s270 :: s271 :: s272 :: s273 :: s274 :: s275 :: s276 :: s277 :: s278 :: s279 :: s280 :: s281 :: s282 :: s283 :: s284 :: s285 :: s286 :: s287 :: s288 :: s289 :: s290 :: s291 :: s292 :: s293 :: s294 :: s295 :: s296 :: s297 :: s298 :: s299 :: s300 :: s301 :: s302 :: s303 :: s304 :: s305 :: s306 :: s307 :: s308 :: s309 :: s310 :: s311 :: s312 :: s313 :: s314 :: s315 :: s316 :: s317 :: s318 :: s319 :: s320 :: s321 :: s322 :: s323 :: s324 :: s325 :: s326 :: s327 :: s328 :: s329 :: s330 :: s331 :: s332 :: s333 :: s334 :: s335 :: s336 :: s337 :: s338 :: s339 :: s340 :: s341 :: s342 :: s343 :: s344 :: s345 :: s346 :: s347 :: s348 :: s349 :: s350 :: s351 :: s352 :: s353 :: s354 :: s355 :: s356 :: s357 :: s358 :: []).toArray, []⟩ w0 := by
  conv => arg 2; whnf
  go_loopw [18] (fun t wr => ∃ t' : Nat, 16 ≤ t' ∧ t' ≤ 64 ∧ t = .int .i64 (t' : Int) ∧ Bk wr gx 103 (c64 (xs 64 (up (WS t')))) ∧ Bk wr gh 103 (c64 (up (S))) ∧ Below gh w3 wr) (fun t _ => 64 - (intOf t).toNat)
  case atStart => exact ⟨16, by omega, by omega, rfl, X0, H0, D0⟩
  case round =>
    clear X0 H0 D0
    obtain ⟨t, ht16, ht, rfl, Xr, Hr, Dr⟩ := hrel
    have hXl : (up (WS t)).length = t := by rw [length_up]; exact Hlen.out t
    by_cases ht64 : t < 64
    · have hX1 : xs 64 (up (WS (t + 1))) = (xs 64 (up (WS t))).set t (low ((th32 (g32 (WS t) (t - 2)) 17 19 10 true).toUInt64 + (g32 (WS t) (t - 7)).toUInt64 + (th32 (g32 (WS t) (t - 15)) 7 18 3 true).toUInt64 + (g32 (WS t) (t - 16)).toUInt64)) := by rw [Hhigh.out t ht16]; exact (xs_set 64 _ t _ hXl ht64).symm
      have HX1 := Lib.hid hX1
      clear hX1
      have xat : ∀ k, k < t → wr.cell? ⟨gx, k, none⟩ = some (.int .u64 (n64 ((g32 (WS t) k).toUInt64))) := fun k hk => Xr.at_ (by rw [c64_at (by rw [length_xs 64 _ (by omega)]; omega), g64_xs _ _ _ (by omega), g64_up])
      have xt : wr.cell? ⟨gx, t, none⟩ = some (.int .u64 (n64 (g64 (xs 64 (up (WS t))) t))) := Xr.at_ (c64_at (by rw [length_xs 64 _ (by omega)]; omega))
      generalize hWt : WS t = W at *
      clear hWt
      have x2 := xat (t - 2) (by omega)
      have x7 := xat (t - 7) (by omega)
      have x15 := xat (t - 15) (by omega)
      have x16 := xat (t - 16) (by omega)
      have ef := Xr.frozen t
      have nN := N0.below Dr hgn
      have n6 : wr.cell? ⟨gn, 6, none⟩ = some (.int .u64 7) := nN.at_ rfl
      have n7 : wr.cell? ⟨gn, 7, none⟩ = some (.int .u64 18) := nN.at_ rfl
      have n8 : wr.cell? ⟨gn, 8, none⟩ = some (.int .u64 3) := nN.at_ rfl
      have n9 : wr.cell? ⟨gn, 9, none⟩ = some (.int .u64 17) := nN.at_ rfl
      have n10 : wr.cell? ⟨gn, 10, none⟩ = some (.int .u64 19) := nN.at_ rfl
      have n11 : wr.cell? ⟨gn, 11, none⟩ = some (.int .u64 10) := nN.at_ rfl
      have zn := nN.lt
      have zx := Xr.lt
      clear nN xat
      go_wp2_with fail
      refine wp_quiet_tail 50 (by kernel_rfl) (by kernel_rfl) ?_
      simp only [List.take_succ_cons, List.take_zero, List.drop_succ_cons, List.drop_zero]
      repeat (go_big_quiet_step (first | (go_at_call 47; first | exact quiet_same (three32 _ _ _ _ _ (by omega)) | exact quiet_same2 (three32 _ _ _ _ _ (by omega))) | (go_at_call 46; first | exact quiet_same (cutlow _) | exact quiet_same2 (cutlow _))))
      refine wpQuiet_nil ?_
      rintro w' ⟨nq, rfl⟩
      go_wp2_with fail
      go_roundw
      case rel =>
        refine ⟨t + 1, by omega, by omega, by go_num, ?_, (Hr.drewN nq).far (by simp; omega) _, (below_drewN Dr nq).setCell (by simp; omega) _⟩
        rw [HX1.out, ← c64_set]
        exact (Xr.drewN nq).set_ t _
      case measure => simp [intOf]; omega
    · obtain rfl : t = 64 := by omega
      have eR : ((64 : Nat) : Int) = 64 := rfl
      rw [eR]
      clear eR
      go_wp2_with fail
      apply hexit
      · exact Xr
      · exact Hr
      · exact Dr
end Go.Proofs.Ytlegpkdighoflaa
