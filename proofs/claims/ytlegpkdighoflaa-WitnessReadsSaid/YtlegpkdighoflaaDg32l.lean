/- The loops of the reference's Digest at 32 bits a word. Printed by gen_dig.py. -/
import Derived.Test.YtlegpkdighoflaaMD
set_option linter.unusedVariables false
set_option linter.unusedSimpArgs false
namespace Go.Proofs.Ytlegpkdighoflaa
open Go Go.RowKit Sh
set_option maxRecDepth 1000000 in
set_option maxHeartbeats 40000000 in
theorem dig32_low {s0 s2 s3 s4 s9 s10 s11 s13 s17 s18 s19 s20 s21 s22 s23 s24 s25 s26 s27 s28 s29 s30 s31 s32 s33 s34 s35 s36 s37 s38 s39 s40 s41 s42 s43 s44 s45 s46 s47 s48 s49 s50 s51 s52 s53 s54 s55 s56 s57 s58 s59 s60 s61 s62 s63 s64 s65 s66 s67 s68 s69 s70 s71 s72 s73 s74 s75 s76 s77 s78 s79 s80 s81 s82 s83 s84 s85 s86 s87 s88 s89 s90 s91 s92 s93 s94 s95 s96 s97 s98 s99 s100 s101 s102 s103 s104 s105 s106 s107 s108 s109 s110 s111 s112 s113 s114 s115 s116 s117 s118 s119 s120 s121 s122 s123 s124 s125 s126 s127 s128 s129 s130 s131 s132 s133 s134 s135 s136 s137 s138 s139 s140 s141 s142 s143 s144 s145 s146 s147 s148 s149 s150 s151 s152 s153 s154 s155 s156 s157 s158 s159 s160 s161 s162 s163 s164 s165 s166 s167 s168 s169 s170 s171 s172 s173 s174 s175 s176 s177 s178 s179 s180 s181 s182 s183 s184 s185 s186 s187 s188 s189 s190 s191 s192 s193 s194 s195 s196 s197 s198 s199 s200 s201 s202 s203 s204 s205 s206 s207 s208 s209 s210 s211 s212 s213 s214 s215 s216 s217 s218 s219 s220 s221 s222 s223 s224 s225 s226 s227 s228 s229 s230 s231 s232 s233 s234 s235 s236 s237 s238 s239 s240 s241 s242 s243 s244 s245 s246 s247 s248 s249 s250 s251 s252 s253 s254 s255 s256 s257 s258 s259 s260 s261 s262 s263 s264 s265 s266 s267 s268 s269 s270 s271 s272 s273 s274 s275 s276 s277 s278 s279 s280 s281 s282 s283 s284 s285 s286 s287 s288 s289 s290 s291 s292 s293 s294 s295 s296 s297 s298 s299 s300 s301 s302 s303 s304 s305 s306 s307 s308 s309 s310 s311 s312 s313 s314 s315 s316 s317 s318 s319 s320 s321 s322 s323 s324 s325 s326 s327 s328 s329 s330 s331 s332 s333 s334 s335 s336 s337 s338 s339 s340 s341 s342 s343 s344 s345 s346 s347 s348 s349 s350 s351 s352 s353 s354 s355 s356 s357 s358 : Value} {Q : Exit → Act → World → Prop} {g o L c gn gh gx i : Nat} {w3 w0 : World} (S : List UInt32) (q : List UInt8)
    (WS : Nat → List UInt32) (Hlen : Hid (∀ t, (WS t).length = t)) (Hlow : Hid (∀ t, t < 16 → (up (WS (t + 1))) = (up (WS t)) ++ [pw 4 q t 4])) (Hhigh : Hid (∀ t, 16 ≤ t → (up (WS (t + 1))) = (up (WS t)) ++ [low ((th32 (g32 (WS t) (t - 2)) 17 19 10 true).toUInt64 + (g32 (WS t) (t - 7)).toUInt64 + (th32 (g32 (WS t) (t - 15)) 7 18 3 true).toUInt64 + (g32 (WS t) (t - 16)).toUInt64)])) (hgx : gh < gx) (hL : 64 * i + 64 ≤ L) (hLc : L ≤ c) (hc : c ≤ 9223372036854775807)
    (hqc : ∀ W : World, Below gh w3 W → ∀ k, k < 64 → W.cell? ⟨g, o + (64 * i + k), none⟩ = some (.int .u8 (n8 (g8 q k))))
    (X0 : Bk w0 gx 103 (c64 (xs 64 (up (WS 0))))) (H0 : Bk w0 gh 103 (c64 (up (S)))) (D0 : Below gh w3 w0)
    (hexit : ∀ (x17 x105 x106 x107 x108 x109 x110 x111 x112 x113 x114 x115 x116 x117 x118 x119 x120 x121 x122 x123 x124 x125 x126 x127 x128 x129 x130 x131 x132 x133 : Value) (w' : World), Bk w' gx 103 (c64 (xs 64 (up (WS 16)))) → Bk w' gh 103 (c64 (up (S))) → Below gh w3 w' → Q (.exit 8) ⟨(s0 :: .int .u64 32 :: s2 :: s3 :: s4 :: .slice (some ⟨gn, 0, none⟩) 12 12 :: .int .i64 64 :: .int .i64 4 :: .slice (some ⟨g, o, none⟩) L c :: s9 :: s10 :: s11 :: .slice (some ⟨gh, 0, none⟩) 8 8 :: s13 :: .int .i64 (64 * (i : Int)) :: .slice (some ⟨gx, 0, none⟩) 64 64 :: .int .i64 16 :: x17 :: s18 :: s19 :: s20 :: s21 :: s22 :: s23 :: s24 :: s25 :: s26 :: s27 :: s28 :: s29 :: s30 :: s31 :: s32 :: s33 :: s34 :: s35 :: s36 :: s37 :: s38 :: s39 :: s40 :: s41 :: s42 :: s43 :: s44 :: s45 :: s46 :: s47 :: s48 :: s49 :: s50 :: s51 :: s52 :: s53 :: s54 :: s55 :: s56 :: s57 :: s58 :: s59 :: s60 :: s61 :: s62 :: s63 :: s64 :: s65 :: s66 :: s67 :: s68 :: s69 :: s70 :: s71 :: s72 :: s73 :: s74 :: s75 :: s76 :: s77 :: s78 :: s79 :: s80 :: s81 :: s82 :: s83 :: s84 :: s85 :: s86 :: s87 :: s88 :: s89 :: s90 :: s91 :: s92 :: s93 :: s94 :: s95 :: s96 :: s97 :: s98 :: s99 :: s100 :: s101 :: s102 :: s103 :: s104 :: x105 :: x106 :: x107 :: x108 :: x109 :: x110 :: x111 :: x112 :: x113 :: x114 :: x115 :: x116 :: x117 :: x118 :: x119 :: x120 :: x121 :: x122 :: x123 :: x124 :: x125 :: x126 :: x127 :: x128 :: x129 :: x130 :: x131 :: x132 :: x133 :: s134 :: s135 :: s136 :: s137 :: s138 :: s139 :: s140 :: s141 :: s142 :: s143 :: s144 :: s145 :: s146 :: s147 :: s148 :: s149 :: s150 :: s151 :: s152 :: s153 :: s154 :: s155 :: s156 :: s157 :: s158 :: s159 :: s160 :: s161 :: s162 :: s163 :: s164 :: s165 :: s166 :: s167 :: s168 :: s169 :: s170 :: s171 :: s172 :: s173 :: s174 :: s175 :: s176 :: s177 :: s178 :: s179 :: s180 :: s181 :: s182 :: s183 :: s184 :: s185 :: s186 :: s187 :: s188 :: s189 :: s190 :: s191 :: s192 :: s193 :: s194 :: s195 :: s196 :: s197 :: s198 :: s199 :: s200 :: s201 :: s202 :: s203 :: s204 :: s205 :: s206 :: s207 :: s208 :: s209 :: s210 :: s211 :: s212 :: s213 :: s214 :: s215 :: s216 :: s217 :: s218 :: s219 :: s220 :: s221 :: s222 :: s223 :: s224 :: s225 :: s226 :: s227 :: s228 :: s229 :: s230 :: s231 :: s232 :: s233 :: s234 :: s235 :: s236 :: s237 :: s238 :: s239 :: s240 :: s241 :: s242 :: s243 :: s244 :: s245 :: s246 :: s247 :: s248 :: s249 :: s250 :: s251 :: s252 :: s253 :: s254 :: s255 :: s256 :: s257 :: s258 :: s259 :: s260 :: s261 :: s262 :: s263 :: s264 :: s265 :: s266 :: s267 :: s268 :: s269 :: s270 :: s271 :: s272 :: s273 :: s274 :: s275 :: s276 :: s277 :: s278 :: s279 :: s280 :: s281 :: s282 :: s283 :: s284 :: s285 :: s286 :: s287 :: s288 :: s289 :: s290 :: s291 :: s292 :: s293 :: s294 :: s295 :: s296 :: s297 :: s298 :: s299 :: s300 :: s301 :: s302 :: s303 :: s304 :: s305 :: s306 :: s307 :: s308 :: s309 :: s310 :: s311 :: s312 :: s313 :: s314 :: s315 :: s316 :: s317 :: s318 :: s319 :: s320 :: s321 :: s322 :: s323 :: s324 :: s325 :: s326 :: s327 :: s328 :: s329 :: s330 :: s331 :: s332 :: s333 :: s334 :: s335 :: s336 :: s337 :: s338 :: s339 :: s340 :: s341 :: s342 :: s343 :: s344 :: s345 :: s346 :: s347 :: s348 :: s349 :: s350 :: s351 :: s352 :: s353 :: s354 :: s355 :: s356 :: s357 :: s358 :: []).toArray, []⟩ w') :
    Code.wp Try.prog (digLoop 4) Q ⟨(s0 :: .int .u64 32 :: s2 :: s3 :: s4 :: .slice (some ⟨gn, 0, none⟩) 12 12 :: .int .i64 64 :: .int .i64 4 :: .slice (some ⟨g, o, none⟩) L c :: s9 :: s10 :: s11 :: .slice (some ⟨gh, 0, none⟩) 8 8 :: s13 :: .int .i64 (64 * (i : Int)) :: .slice (some ⟨gx, 0, none⟩) 64 64 :: .int .i64 0 :: s17 :: s18 :: s19 :: s20 :: s21 :: s22 :: s23 :: s24 :: s25 :: s26 :: s27 :: s28 :: s29 :: s30 :: s31 :: s32 :: s33 :: s34 :: s35 :: s36 :: s37 :: s38 :: s39 :: s40 :: s41 :: s42 :: s43 :: s44 :: s45 :: s46 :: s47 :: s48 :: s49 :: s50 :: s51 :: s52 :: s53 :: s54 :: s55 :: s56 :: s57 :: s58 :: s59 :: s60 :: s61 :: s62 :: s63 :: s64 :: s65 :: s66 :: s67 :: s68 :: s69 :: s70 :: s71 :: s72 :: s73 :: s74 :: s75 :: s76 :: s77 :: s78 :: s79 :: s80 :: s81 :: s82 :: s83 :: s84 :: s85 :: s86 :: s87 :: s88 :: s89 :: s90 :: s91 :: s92 :: s93 :: s94 :: s95 :: s96 :: s97 :: s98 :: s99 :: s100 :: s101 :: s102 :: s103 :: s104 :: s105 :: s106 :: s107 :: s108 :: s109 :: s110 :: s111 :: s112 :: s113 :: s114 :: s115 :: s116 :: s117 :: s118 :: s119 :: s120 :: s121 :: s122 :: s123 :: s124 :: s125 :: s126 :: s127 :: s128 :: s129 :: s130 :: s131 :: s132 :: s133 :: s134 :: s135 :: s136 :: s137 :: s138 :: s139 :: s140 :: s141 :: s142 :: s143 :: s144 :: s145 :: s146 :: s147 :: s148 :: s149 :: s150 :: s151 :: s152 :: s153 :: s154 :: s155 :: s156 :: s157 :: s158 :: s159 :: s160 :: s161 :: s162 :: s163 :: s164 :: s165 :: s166 :: s167 :: s168 :: s169 :: s170 :: s171 :: s172 :: s173 :: s174 :: s175 :: s176 :: s177 :: s178 :: s179 :: s180 :: s181 :: s182 :: s183 :: s184 :: s185 :: s186 :: s187 :: s188 :: s189 :: s190 :: s191 :: s192 :: s193 :: s194 :: s195 :: s196 :: s197 :: s198 :: s199 :: s200 :: s201 :: s202 :: s203 :: s204 :: s205 :: s206 :: s207 :: s208 :: s209 :: s210 :: s211 :: s212 :: s213 :: s214 :: s215 :: s216 :: s217 :: s218 :: s219 :: s220 :: s221 :: s222 :: s223 :: s224 :: s225 :: s226 :: s227 :: s228 :: s229 :: s230 :: s231 :: s232 :: s233 :: s234 :: s235 :: s236 :: s237 :: s238 :: s239 :: s240 :: s241 :: s242 :: s243 :: s244 :: s245 :: s246 :: s247 :: s248 :: s249 :: s250 :: s251 :: s252 :: s253 :: s254 :: s255 :: s256 :: s257 :: s258 :: s259 :: s260 :: s261 :: s262 :: s263 :: s264 :: s265 :: s266 :: s267 :: s268 :: s269 :: s270 :: s271 :: s272 :: s273 :: s274 :: s275 :: s276 :: s277 :: s278 :: s279 :: s280 :: s281 :: s282 :: s283 :: s284 :: s285 :: s286 :: s287 :: s288 :: s289 :: s290 :: s291 :: s292 :: s293 :: s294 :: s295 :: s296 :: s297 :: s298 :: s299 :: s300 :: s301 :: s302 :: s303 :: s304 :: s305 :: s306 :: s307 :: s308 :: s309 :: s310 :: s311 :: s312 :: s313 :: s314 :: s315 :: s316 :: s317 :: s318 :: s319 :: s320 :: s321 :: s322 :: s323 :: s324 :: s325 :: s326 :: s327 :: s328 :: s329 :: s330 :: s331 :: s332 :: s333 :: s334 :: s335 :: s336 :: s337 :: s338 :: s339 :: s340 :: s341 :: s342 :: s343 :: s344 :: s345 :: s346 :: s347 :: s348 :: s349 :: s350 :: s351 :: s352 :: s353 :: s354 :: s355 :: s356 :: s357 :: s358 :: []).toArray, []⟩ w0 := by
  conv => arg 2; whnf
  go_loopw [16] (fun t wr => ∃ t' : Nat, t' ≤ 16 ∧ t = .int .i64 (t' : Int) ∧ Bk wr gx 103 (c64 (xs 64 (up (WS t')))) ∧ Bk wr gh 103 (c64 (up (S))) ∧ Below gh w3 wr) (fun t _ => 16 - (intOf t).toNat)
  case atStart => exact ⟨0, by omega, rfl, X0, H0, D0⟩
  case round =>
    clear X0 H0 D0
    obtain ⟨t, ht, rfl, Xr, Hr, Dr⟩ := hrel
    have hXl : (up (WS t)).length = t := by rw [length_up]; exact Hlen.out t
    by_cases ht16 : t < 16
    · have hX0 : (xs 64 (up (WS t))).set t (pw 4 q t 0) = xs 64 (up (WS t)) := xs_zero 64 _ t hXl (by omega)
      have hX4 : (xs 64 (up (WS t))).set t (pw 4 q t 4) = xs 64 (up (WS (t + 1))) := by rw [xs_set 64 _ t _ hXl (by omega), Hlow.out t ht16]
      have hXL : (xs 64 (up (WS t))).length = 64 := length_xs 64 _ (by omega)
      have HX0 := Lib.hid hX0
      have HX4 := Lib.hid hX4
      clear hX0 hX4
      go_wp2_with fail
      go_loopw [17] (fun j wr => ∃ j' : Nat, j' ≤ 4 ∧ j = .int .i64 (j' : Int) ∧ Bk wr gx 103 (c64 ((xs 64 (up (WS t))).set t (pw 4 q t j'))) ∧ Bk wr gh 103 (c64 (up (S))) ∧ Below gh w3 wr) (fun j _ => 4 - (intOf j).toNat)
      case atStart => exact ⟨0, by omega, rfl, by rw [HX0.out]; exact Xr, Hr, Dr⟩
      case round =>
        clear Xr Hr Dr
        obtain ⟨b, hb4, rfl, Xr, Hr, Dr⟩ := hrel
        by_cases hb : b < 4
        · have eb : wr.cell? ⟨g, o + (64 * i + t * 4 + b), none⟩ = some (.int .u8 (n8 (g8 q (4 * t + b)))) := by
            rw [show 64 * i + t * 4 + b = 64 * i + (4 * t + b) by omega]
            exact hqc _ Dr _ (by omega)
          have ex : wr.cell? ⟨gx, t, none⟩ = some (.int .u64 (n64 (pw 4 q t b))) := Xr.at_ (by rw [c64_at (by rw [List.length_set]; omega)]; unfold g64; simp [hXL, show t < 64 by omega])
          have ef := Xr.frozen t
          have hbd : 64 * i + t * 4 + b < L := by omega
          go_wp2_with fail
          refine wp_quiet_tail 20 (by kernel_rfl) (by kernel_rfl) ?_
          simp only [List.take_succ_cons, List.take_zero, List.drop_succ_cons, List.drop_zero]
          repeat (go_big_quiet_step (fail))
          refine wpQuiet_nil ?_
          rintro w' ⟨nq, rfl⟩
          go_wp2_with fail
          go_roundw
          case rel =>
            refine ⟨b + 1, by omega, by go_num, ?_, (Hr.drewN nq).far (by simp; omega) _, (below_drewN Dr nq).setCell (by simp; omega) _⟩
            have h1 := (Xr.drewN nq).set_ t (.int .u64 (n64 (pw 4 q t (b + 1))))
            rw [c64_set, List.set_set] at h1
            exact h1
          case measure => simp [intOf]; omega
        · obtain rfl : b = 4 := by omega
          rw [HX4.out] at Xr
          go_wp2_with fail
          go_roundw
          case rel => exact ⟨t + 1, by omega, by go_num, Xr, Hr, Dr⟩
          case measure => simp [intOf]; omega
    · obtain rfl : t = 16 := by omega
      have eR : ((16 : Nat) : Int) = 16 := rfl
      rw [eR]
      clear eR
      go_wp2_with fail
      apply hexit
      · exact Xr
      · exact Hr
      · exact Dr

end Go.Proofs.Ytlegpkdighoflaa
