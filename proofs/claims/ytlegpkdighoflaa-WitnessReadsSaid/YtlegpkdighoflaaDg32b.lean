/- The loops of the reference's Digest at 32 bits a word. Printed by gen_dig.py. -/
import Derived.Test.YtlegpkdighoflaaMD
import Derived.Test.YtlegpkdighoflaaDg32l
import Derived.Test.YtlegpkdighoflaaDg32h
import Derived.Test.YtlegpkdighoflaaDg32r
import Derived.Test.YtlegpkdighoflaaDg32a
set_option linter.unusedVariables false
set_option linter.unusedSimpArgs false
namespace Go.Proofs.Ytlegpkdighoflaa
open Go Go.RowKit Sh
set_option maxRecDepth 1000000 in
set_option maxHeartbeats 40000000 in
theorem dig32_blocks {s0 s2 s3 s4 s9 s10 s11 s13 s15 s16 s17 s18 s19 s20 s21 s22 s23 s24 s25 s26 s27 s28 s29 s30 s31 s32 s33 s34 s35 s36 s37 s38 s39 s40 s41 s42 s43 s44 s45 s46 s47 s48 s49 s50 s51 s52 s53 s54 s55 s56 s57 s58 s59 s60 s61 s62 s63 s64 s65 s66 s67 s68 s69 s70 s71 s72 s73 s74 s75 s76 s77 s78 s79 s80 s81 s82 s83 s84 s85 s86 s87 s88 s89 s90 s91 s92 s93 s94 s95 s96 s97 s98 s99 s100 s101 s102 s103 s104 s105 s106 s107 s108 s109 s110 s111 s112 s113 s114 s115 s116 s117 s118 s119 s120 s121 s122 s123 s124 s125 s126 s127 s128 s129 s130 s131 s132 s133 s134 s135 s136 s137 s138 s139 s140 s141 s142 s143 s144 s145 s146 s147 s148 s149 s150 s151 s152 s153 s154 s155 s156 s157 s158 s159 s160 s161 s162 s163 s164 s165 s166 s167 s168 s169 s170 s171 s172 s173 s174 s175 s176 s177 s178 s179 s180 s181 s182 s183 s184 s185 s186 s187 s188 s189 s190 s191 s192 s193 s194 s195 s196 s197 s198 s199 s200 s201 s202 s203 s204 s205 s206 s207 s208 s209 s210 s211 s212 s213 s214 s215 s216 s217 s218 s219 s220 s221 s222 s223 s224 s225 s226 s227 s228 s229 s230 s231 s232 s233 s234 s235 s236 s237 s238 s239 s240 s241 s242 s243 s244 s245 s246 s247 s248 s249 s250 s251 s252 s253 s254 s255 s256 s257 s258 s259 s260 s261 s262 s263 s264 s265 s266 s267 s268 s269 s270 s271 s272 s273 s274 s275 s276 s277 s278 s279 s280 s281 s282 s283 s284 s285 s286 s287 s288 s289 s290 s291 s292 s293 s294 s295 s296 s297 s298 s299 s300 s301 s302 s303 s304 s305 s306 s307 s308 s309 s310 s311 s312 s313 s314 s315 s316 s317 s318 s319 s320 s321 s322 s323 s324 s325 s326 s327 s328 s329 s330 s331 s332 s333 s334 s335 s336 s337 s338 s339 s340 s341 s342 s343 s344 s345 s346 s347 s348 s349 s350 s351 s352 s353 s354 s355 s356 s357 s358 : Value} {Q : Exit → Act → World → Prop} {A4 : Option Addr} {L c gn gh : Nat} {w3 w0 : World} (p : List UInt8)
    (hp : p.length = L) (hmod : p.length % 64 = 0) (hLc : L ≤ c) (hc : c ≤ 9223372036854775807) (hrdp : Rd w3 0 gh A4 (p.map v8)) (hpl : L ≤ 2000000000000) (hgn : gn < gh) (N0 : Bk w3 gn 84 ns32) (H0 : Bk w0 gh 103 (c64 (up (state32 p 0)))) (D0 : Below gh w3 w0)
    (hexit : ∀ (x14 x15 x16 x17 x18 x19 x20 x21 x22 x23 x24 x25 x95 x96 x97 x98 x99 x100 x101 x102 x103 x104 x105 x106 x107 x108 x109 x110 x111 x112 x113 x114 x115 x116 x117 x118 x119 x120 x121 x122 x123 x124 x125 x126 x127 x128 x129 x130 x131 x132 x133 x134 x135 x136 x137 x138 x139 x140 x141 x142 x143 x144 x145 x146 x147 x148 x149 x150 x151 x152 x153 x154 x155 x156 x157 x158 x159 x160 x161 x162 x163 x164 x165 x166 x167 x168 x169 x170 x171 x172 x173 x174 x175 x176 x177 x178 x179 x180 x181 x182 x183 x184 x185 x186 x187 x188 x189 x190 x191 x192 x193 x194 x195 x196 x197 x198 x199 x200 x201 x202 x203 x204 x205 x206 x207 x208 x209 x210 x211 x212 x213 x214 x215 x216 x217 x218 x219 x220 x221 x222 x223 x224 x225 x226 x227 x228 x229 x230 x231 x232 x233 x234 x235 x236 x237 x238 x239 x240 x241 x242 x243 x244 x245 x246 x247 x248 x249 x250 x251 x252 x253 x254 x255 x256 x257 x258 x259 x260 x261 x262 x263 x264 x265 x266 x267 x268 x269 x270 x271 x272 x273 x274 x275 x276 x277 x278 x279 x280 x281 x282 x283 x284 x285 x286 x287 x288 x289 x290 x291 x292 x293 x294 x295 x296 x297 x298 x299 x300 x301 x302 x303 x304 x305 x306 x307 x308 x309 x310 x311 x312 x313 x314 x315 x316 x317 x318 x319 x320 x321 x322 x323 x324 x325 x326 x327 x328 x329 x330 x331 x332 x333 x334 x335 : Value) (w' : World), (∃ i, 64 * i = L ∧ Bk w' gh 103 (c64 (up (state32 p i)))) → Below gh w3 w' → Q (.exit 6) ⟨(s0 :: .int .u64 32 :: s2 :: s3 :: s4 :: .slice (some ⟨gn, 0, none⟩) 12 12 :: .int .i64 64 :: .int .i64 4 :: .slice A4 L c :: s9 :: s10 :: s11 :: .slice (some ⟨gh, 0, none⟩) 8 8 :: s13 :: x14 :: x15 :: x16 :: x17 :: x18 :: x19 :: x20 :: x21 :: x22 :: x23 :: x24 :: x25 :: s26 :: s27 :: s28 :: s29 :: s30 :: s31 :: s32 :: s33 :: s34 :: s35 :: s36 :: s37 :: s38 :: s39 :: s40 :: s41 :: s42 :: s43 :: s44 :: s45 :: s46 :: s47 :: s48 :: s49 :: s50 :: s51 :: s52 :: s53 :: s54 :: s55 :: s56 :: s57 :: s58 :: s59 :: s60 :: s61 :: s62 :: s63 :: s64 :: s65 :: s66 :: s67 :: s68 :: s69 :: s70 :: s71 :: s72 :: s73 :: s74 :: s75 :: s76 :: s77 :: s78 :: s79 :: s80 :: s81 :: s82 :: s83 :: s84 :: s85 :: s86 :: s87 :: s88 :: s89 :: s90 :: s91 :: s92 :: s93 :: s94 :: x95 :: x96 :: x97 :: x98 :: x99 :: x100 :: x101 :: x102 :: x103 :: x104 :: x105 :: x106 :: x107 :: x108 :: x109 :: x110 :: x111 :: x112 :: x113 :: x114 :: x115 :: x116 :: x117 :: x118 :: x119 :: x120 :: x121 :: x122 :: x123 :: x124 :: x125 :: x126 :: x127 :: x128 :: x129 :: x130 :: x131 :: x132 :: x133 :: x134 :: x135 :: x136 :: x137 :: x138 :: x139 :: x140 :: x141 :: x142 :: x143 :: x144 :: x145 :: x146 :: x147 :: x148 :: x149 :: x150 :: x151 :: x152 :: x153 :: x154 :: x155 :: x156 :: x157 :: x158 :: x159 :: x160 :: x161 :: x162 :: x163 :: x164 :: x165 :: x166 :: x167 :: x168 :: x169 :: x170 :: x171 :: x172 :: x173 :: x174 :: x175 :: x176 :: x177 :: x178 :: x179 :: x180 :: x181 :: x182 :: x183 :: x184 :: x185 :: x186 :: x187 :: x188 :: x189 :: x190 :: x191 :: x192 :: x193 :: x194 :: x195 :: x196 :: x197 :: x198 :: x199 :: x200 :: x201 :: x202 :: x203 :: x204 :: x205 :: x206 :: x207 :: x208 :: x209 :: x210 :: x211 :: x212 :: x213 :: x214 :: x215 :: x216 :: x217 :: x218 :: x219 :: x220 :: x221 :: x222 :: x223 :: x224 :: x225 :: x226 :: x227 :: x228 :: x229 :: x230 :: x231 :: x232 :: x233 :: x234 :: x235 :: x236 :: x237 :: x238 :: x239 :: x240 :: x241 :: x242 :: x243 :: x244 :: x245 :: x246 :: x247 :: x248 :: x249 :: x250 :: x251 :: x252 :: x253 :: x254 :: x255 :: x256 :: x257 :: x258 :: x259 :: x260 :: x261 :: x262 :: x263 :: x264 :: x265 :: x266 :: x267 :: x268 :: x269 :: x270 :: x271 :: x272 :: x273 :: x274 :: x275 :: x276 :: x277 :: x278 :: x279 :: x280 :: x281 :: x282 :: x283 :: x284 :: x285 :: x286 :: x287 :: x288 :: x289 :: x290 :: x291 :: x292 :: x293 :: x294 :: x295 :: x296 :: x297 :: x298 :: x299 :: x300 :: x301 :: x302 :: x303 :: x304 :: x305 :: x306 :: x307 :: x308 :: x309 :: x310 :: x311 :: x312 :: x313 :: x314 :: x315 :: x316 :: x317 :: x318 :: x319 :: x320 :: x321 :: x322 :: x323 :: x324 :: x325 :: x326 :: x327 :: x328 :: x329 :: x330 :: x331 :: x332 :: x333 :: x334 :: x335 :: s336 :: s337 :: s338 :: s339 :: s340 :: s341 :: s342 :: s343 :: s344 :: s345 :: s346 :: s347 :: s348 :: s349 :: s350 :: s351 :: s352 :: s353 :: s354 :: s355 :: s356 :: s357 :: s358 :: []).toArray, []⟩ w') :
    Code.wp Try.prog (digLoop 3) Q ⟨(s0 :: .int .u64 32 :: s2 :: s3 :: s4 :: .slice (some ⟨gn, 0, none⟩) 12 12 :: .int .i64 64 :: .int .i64 4 :: .slice A4 L c :: s9 :: s10 :: s11 :: .slice (some ⟨gh, 0, none⟩) 8 8 :: s13 :: .int .i64 0 :: s15 :: s16 :: s17 :: s18 :: s19 :: s20 :: s21 :: s22 :: s23 :: s24 :: s25 :: s26 :: s27 :: s28 :: s29 :: s30 :: s31 :: s32 :: s33 :: s34 :: s35 :: s36 :: s37 :: s38 :: s39 :: s40 :: s41 :: s42 :: s43 :: s44 :: s45 :: s46 :: s47 :: s48 :: s49 :: s50 :: s51 :: s52 :: s53 :: s54 :: s55 :: s56 :: s57 :: s58 :: s59 :: s60 :: s61 :: s62 :: s63 :: s64 :: s65 :: s66 :: s67 :: s68 :: s69 :: s70 :: s71 :: s72 :: s73 :: s74 :: s75 :: s76 :: s77 :: s78 :: s79 :: s80 :: s81 :: s82 :: s83 :: s84 :: s85 :: s86 :: s87 :: s88 :: s89 :: s90 :: s91 :: s92 :: s93 :: s94 :: s95 :: s96 :: s97 :: s98 :: s99 :: s100 :: s101 :: s102 :: s103 :: s104 :: s105 :: s106 :: s107 :: s108 :: s109 :: s110 :: s111 :: s112 :: s113 :: s114 :: s115 :: s116 :: s117 :: s118 :: s119 :: s120 :: s121 :: s122 :: s123 :: s124 :: s125 :: s126 :: s127 :: s128 :: s129 :: s130 :: s131 :: s132 :: s133 :: s134 :: s135 :: s136 :: s137 :: s138 :: s139 :: s140 :: s141 :: s142 :: s143 :: s144 :: s145 :: s146 :: s147 :: s148 :: s149 :: s150 :: s151 :: s152 :: s153 :: s154 :: s155 :: s156 :: s157 :: s158 :: s159 :: s160 :: s161 :: s162 :: s163 :: s164 :: s165 :: s166 :: s167 :: s168 :: s169 :: s170 :: s171 :: s172 :: s173 :: s174 :: s175 :: s176 :: s177 :: s178 :: s179 :: s180 :: s181 :: s182 :: s183 :: s184 :: s185 :: s186 :: s187 :: s188 :: s189 :: s190 :: s191 :: s192 :: s193 :: s194 :: s195 :: s196 :: s197 :: s198 :: s199 :: s200 :: s201 :: s202 :: s203 :: s204 :: s205 :: s206 :: s207 :: s208 :: s209 :: s210 :: s211 :: s212 :: s213 :: s214 :: s215 :: s216 :: s217 :: s218 :: s219 :: s220 :: s221 :: s222 :: s223 :: s224 :: s225 :: s226 :: s227 :: s228 :: s229 :: s230 :: s231 :: s232 :: s233 :: s234 :: s235 :: s236 :: s237 :: s238 :: s239 :: s240 :: s241 :: s242 :: s243 :: s244 :: s245 :: s246 :: s247 :: s248 :: s249 :: s250 :: s251 :: s252 :: s253 :: s254 :: s255 :: s256 :: s257 :: s258 :: s259 :: s260 :: s261 :: s262 :: s263 :: s264 :: s265 :: s266 :: s267 :: s268 :: s269 :: s270 :: s271 :: s272 :: s273 :: s274 :: s275 :: s276 :: s277 :: s278 :: s279 :: s280 :: s281 :: s282 :: s283 :: s284 :: s285 :: s286 :: s287 :: s288 :: s289 :: s290 :: s291 :: s292 :: s293 :: s294 :: s295 :: s296 :: s297 :: s298 :: s299 :: s300 :: s301 :: s302 :: s303 :: s304 :: s305 :: s306 :: s307 :: s308 :: s309 :: s310 :: s311 :: s312 :: s313 :: s314 :: s315 :: s316 :: s317 :: s318 :: s319 :: s320 :: s321 :: s322 :: s323 :: s324 :: s325 :: s326 :: s327 :: s328 :: s329 :: s330 :: s331 :: s332 :: s333 :: s334 :: s335 :: s336 :: s337 :: s338 :: s339 :: s340 :: s341 :: s342 :: s343 :: s344 :: s345 :: s346 :: s347 :: s348 :: s349 :: s350 :: s351 :: s352 :: s353 :: s354 :: s355 :: s356 :: s357 :: s358 :: []).toArray, []⟩ w0 := by
  conv => arg 2; whnf
  go_loopw [14] (fun t wr => ∃ i : Nat, 64 * i ≤ L ∧ t = .int .i64 (64 * (i : Int)) ∧ Bk wr gh 103 (c64 (up (state32 p i))) ∧ Below gh w3 wr) (fun t _ => L - (intOf t).toNat)
  case atStart => exact ⟨0, by omega, rfl, H0, D0⟩
  case round =>
    clear H0 D0
    obtain ⟨i, hi, rfl, Hr, Dr⟩ := hrel
    by_cases hlt : 64 * i < L
    · obtain ⟨g, o, rfl, hgl, hg, hcell⟩ := hrdp.some (by rw [List.length_map]; omega)
      have hqc : ∀ W : World, Below gh w3 W → ∀ k, k < 64 → W.cell? ⟨g, o + (64 * i + k), none⟩ = some (.int .u8 (n8 (g8 (p.drop (64 * i)) k))) := fun W hW k hk => by
        rw [hW.cell hg, cell8 hcell (by omega)]
        unfold g8
        rw [List.getD_eq_getElem?_getD, List.getD_eq_getElem?_getD, List.getElem?_drop]
      have hql : 64 ≤ (p.drop (64 * i)).length := by rw [List.length_drop]; omega
      have hS : (up (state32 p i)).length = 8 := by rw [length_up]; exact length_state32 p i
      have hnext : state32 p (i + 1) = block32 (state32 p i) (p.drop (64 * i)) := rfl
      have Hnext := Lib.hid hnext
      clear hnext hcell
      generalize hq : p.drop (64 * i) = q at *
      clear hq
      generalize hSS : state32 p i = S at *
      clear hSS
      obtain ⟨WS, HWS, Hlen, Hlow, Hhigh⟩ : ∃ WS : Nat → List UInt32, Hid (WS = W32 q) ∧ Hid (∀ t, (WS t).length = t) ∧ Hid (∀ t, t < 16 → (up (WS (t + 1))) = (up (WS t)) ++ [pw 4 q t 4]) ∧ Hid (∀ t, 16 ≤ t → (up (WS (t + 1))) = (up (WS t)) ++ [low ((th32 (g32 (WS t) (t - 2)) 17 19 10 true).toUInt64 + (g32 (WS t) (t - 7)).toUInt64 + (th32 (g32 (WS t) (t - 15)) 7 18 3 true).toUInt64 + (g32 (WS t) (t - 16)).toUInt64)]) :=
        ⟨W32 q, Lib.hid rfl, Lib.hid fun t => length_W32 q t, Lib.hid fun t h => W32_low q t h, Lib.hid fun t h => W32_high q t h⟩
      go_wp2_with (refine wpList_make64 rfl _ _ rfl 64 _ _ rfl rfl (by decide) ?_)
      obtain ⟨wx, hwx⟩ : ∃ x, x = wr.alloc (Obj.cells (c64 (z64 64)).toArray 103) := ⟨_, rfl⟩
      rw [← hwx]
      have Xx : Bk wx wr.heap.size 103 (c64 (xs 64 (up (WS 0)))) := by rw [hwx, List.eq_nil_of_length_eq_zero (Hlen.out 0)]; exact Bk.new _ _ _
      have Hx : Bk wx gh 103 (c64 (up (S))) := by rw [hwx]; exact Hr.alloc _
      have Dx : Below gh w3 wx := by rw [hwx]; exact Dr.alloc (by have := Hr.lt; omega) _
      have zx := Hr.lt
      generalize hgx : wr.heap.size = gx at *
      clear hwx Hr Dr hgx
      go_wp2_with fail
      refine dig32_low S q WS Hlen Hlow Hhigh zx (by omega) hLc hc hqc Xx Hx Dx ?_
      clear Xx Hx Dx
      intros
      rename_i wl Xl Hl Dl
      go_wp2_with fail
      refine dig32_high S q WS Hlen Hlow Hhigh hS hgn zx N0 Xl Hl Dl ?_
      clear Xl Hl Dl
      intros
      rename_i wh Xr Hr Dr
      have hMl : (WS 64).length = 64 := Hlen.out 64
      rw [xs_full 64 _ (by rw [length_up]; exact hMl)] at Xr
      obtain ⟨M, hM⟩ : ∃ M, M = WS 64 := ⟨_, rfl⟩
      rw [← hM] at Xr hMl
      have HM := Lib.hid hM
      clear hM
      obtain ⟨TS, HTS, HT0, HTn, HTl⟩ : ∃ TS : Nat → List UInt32, Hid (TS = turns32 S M) ∧ Hid (TS 0 = S) ∧ Hid (∀ t, TS (t + 1) = round32 (TS t) (K32 t) (g32 M t)) ∧ Hid (∀ t, (TS t).length = 8) :=
        ⟨turns32 S M, Lib.hid rfl, Lib.hid rfl, Lib.hid fun t => rfl, Lib.hid fun t => length_turns32 S M (by rw [← length_up]; exact hS) t⟩
      have hgx := Xr.lt
      go_wp2_with (at_builtin; refine app64 rfl _ _ rfl rfl gh 8 8 (up (S)) rfl hS.symm Hr (by omega) ?_; intro vv wv2 hvs hvb hvz)
      have Vr : V8 wv2 (gx + 1) vv (up (TS 0)) := by rw [HT0.out]; exact (V8.of_sl hvs hS).less (by omega)
      have Xv := Xr.below hvb hgx
      have Hv := Hr.below hvb Hr.lt
      have Dv := Dr.trans (hvb.mono (by have := Hr.lt; omega))
      clear hvs hvb hvz Xr Hr Dr hgx
      refine dig32_round S TS M hMl HTn HTl hS hgn zx N0 Vr Xv Hv Dv ?_
      clear Vr Xv Hv Dv
      intros
      rename_i wt Vr Xr Hr Dr
      have hblk : block32 S q = Sh.add32 S (TS 64) := by rw [HTS.out, HM.out, HWS.out]; rfl
      have Hblk := Lib.hid hblk
      clear hblk
      have hVl := HTl.out 64
      generalize TS 64 = V at *
      obtain ⟨AD, hAD⟩ : ∃ AD, AD = Sh.add32 S V := ⟨_, rfl⟩
      have hSl : S.length = 8 := by rw [← length_up]; exact hS
      have hADl : (up (AD)).length = 8 := by rw [hAD, length_up]; simp [Sh.add32, hSl, hVl]
      have Hadd : Hid (∀ k, k < 8 → (((up (AD))).take k ++ ((up (S))).drop k).set k (low ((g32 S k).toUInt64 + (g32 V k).toUInt64)) = (((up (AD))).take (k + 1) ++ ((up (S))).drop (k + 1))) := Lib.hid fun k hk => by rw [hAD]; exact add_up32 S V hSl hVl k hk
      rw [← hAD] at Hblk
      clear hAD Xr hVl
      go_wp2_with fail
      refine dig32_add S V AD hS hADl Hadd zx Vr Hr Dr ?_
      clear Vr Hr Dr
      intros
      rename_i wa Hr Dr
      have hfin : (up (AD)) = (up (state32 p (i + 1))) := by rw [Hnext.out, Hblk.out]
      rw [hfin] at Hr
      clear hfin
      go_wp2_with fail
      go_roundw
      case rel => exact ⟨i + 1, by omega, by go_num, Hr, Dr⟩
      case measure => simp [intOf]; omega
    · go_wp2_with fail
      apply hexit
      · exact ⟨i, by omega, Hr⟩
      · exact Dr

end Go.Proofs.Ytlegpkdighoflaa
