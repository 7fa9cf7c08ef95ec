/- A part of the proof of DirPlays. -/
import Derived.Test.YtlegpkdighoflaaGreatRah
import Derived.Test.YtlegpkdighoflaaGreatRaj
set_option linter.unusedVariables false
set_option linter.unusedSimpArgs false
set_option maxRecDepth 100000
set_option maxHeartbeats 40000000
namespace Go.Proofs.YtlegpkdighoflaaGreat
open Go Go.RowKit Sh
set_option maxRecDepth 1000000 in
theorem C5y {s0 s2 s3 s4 s9 s10 s11 s13 s14 s16 s17 s18 s20 s21 s22 s23 s24 s25 s26 s27 s28 s29 s30 s31 s32 s33 s34 s35 s36 s37 s38 s39 s40 s41 s42 s43 s44 s45 s46 s47 s48 s49 s50 s51 s52 s53 s54 s55 s56 s57 s58 s59 s60 s61 s62 s63 s64 s65 s66 s67 s68 s69 s70 s71 s72 s73 s74 s75 s76 s77 s78 s79 s80 s81 s82 s83 s84 s85 s86 s87 s88 s89 s90 s91 s92 s93 s94 s95 s96 s97 s98 s99 s100 s101 s102 s103 s104 s105 s106 s107 s108 s109 s110 s111 s112 s113 s114 s115 s116 s117 s118 s119 s120 s121 s122 s123 s124 s125 s126 s127 s128 s129 s130 s131 s132 s133 s134 s135 s136 s137 s138 s139 s140 s141 s142 s143 s144 s145 s146 s147 s148 s149 s150 s151 s152 s153 s154 s155 s156 s157 s158 s159 s160 s161 s162 s163 s164 s165 s166 s167 s168 s169 s170 s171 s172 s173 s174 s175 s176 s177 s178 s179 s180 s181 s182 s183 s184 s185 s186 s187 s188 s189 s190 s191 s192 s193 s194 s195 s196 s197 s198 s199 s200 s201 s202 s203 s204 s205 s206 s207 s208 s209 s210 s211 s212 s213 s214 s215 s216 s217 s218 s219 s220 s221 s222 s223 s224 s225 s226 s227 s228 s229 s230 s231 s232 s233 s234 s235 s236 s237 s238 s239 s240 s241 s242 s243 s244 s245 s246 s247 s248 s249 s250 s251 s252 s253 s254 s255 s256 s257 s258 s259 s260 s261 s262 s263 s264 s265 s266 s267 s268 s269 s270 s271 s272 s273 s274 s275 s276 s277 s278 s279 s280 s281 s282 s283 s284 s285 s286 s287 s288 s289 s290 s291 s292 s293 s294 s295 s296 s297 s298 s299 s300 s301 s302 s303 s304 s305 s306 s307 s308 s309 s310 s311 s312 s313 s314 s315 s316 s319 s320 s321 s322 s323 s324 s325 s326 s327 s328 s329 s330 s331 s332 s333 s334 s335 s336 s337 s338 s339 s340 s341 s342 s343 s344 s345 s346 s347 s348 s349 s350 s351 s352 s353 s354 s355 s356 s357 s358:Value} {Q:Exit→Act→World→Prop} {g o L c gn gh gx:Nat} {w3 w0:World} {v0:Value} (S V AD:List UInt32)
 (hS:(up (S)).length=8) (hAD:(up (AD)).length=8) (Hadd:Hid (∀k,k<8→(((up (AD))).take k++((up (S))).drop k).set k (low ((Z1 S k).toUInt64+(Z1 V k).toUInt64))=(((up (AD))).take (k+1)++((up (S))).drop (k+1)))) (hgx:gh<gx) (V0:V8 w0 (gx+1) v0 (up (V))) (H0:Bk w0 gh 117 (C9 (up (S)))) (D0:Below gh w3 w0)
 (hexit:∀(x25 x319 x320 x321 x322 x323 x324 x325 x326 x327 x328 x329 x330 x331 x332 x333 x334 x335:Value) (w':World),Bk w' gh 117 (C9 (up (AD)))→Below gh w3 w'→Q (.exit 16) ⟨(s0 :: .int .u64 32::s2::s3::s4 :: .slice (some ⟨gn,0,none⟩) 12 12 :: .int .i64 64 :: .int .i64 4 :: .slice (some ⟨g,o,none⟩) L c::s9::s10::s11 :: .slice (some ⟨gh,0,none⟩) 8 8::s13::s14 :: .slice (some ⟨gx,0,none⟩) 64 64::s16::s17::s18::v0::s20::s21::s22::s23::s24::x25::s26::s27::s28::s29::s30::s31::s32::s33::s34::s35::s36::s37::s38::s39::s40::s41::s42::s43::s44::s45::s46::s47::s48::s49::s50::s51::s52::s53::s54::s55::s56::s57::s58::s59::s60::s61::s62::s63::s64::s65::s66::s67::s68::s69::s70::s71::s72::s73::s74::s75::s76::s77::s78::s79::s80::s81::s82::s83::s84::s85::s86::s87::s88::s89::s90::s91::s92::s93::s94::s95::s96::s97::s98::s99::s100::s101::s102::s103::s104::s105::s106::s107::s108::s109::s110::s111::s112::s113::s114::s115::s116::s117::s118::s119::s120::s121::s122::s123::s124::s125::s126::s127::s128::s129::s130::s131::s132::s133::s134::s135::s136::s137::s138::s139::s140::s141::s142::s143::s144::s145::s146::s147::s148::s149::s150::s151::s152::s153::s154::s155::s156::s157::s158::s159::s160::s161::s162::s163::s164::s165::s166::s167::s168::s169::s170::s171::s172::s173::s174::s175::s176::s177::s178::s179::s180::s181::s182::s183::s184::s185::s186::s187::s188::s189::s190::s191::s192::s193::s194::s195::s196::s197::s198::s199::s200::s201::s202::s203::s204::s205::s206::s207::s208::s209::s210::s211::s212::s213::s214::s215::s216::s217::s218::s219::s220::s221::s222::s223::s224::s225::s226::s227::s228::s229::s230::s231::s232::s233::s234::s235::s236::s237::s238::s239::s240::s241::s242::s243::s244::s245::s246::s247::s248::s249::s250::s251::s252::s253::s254::s255::s256::s257::s258::s259::s260::s261::s262::s263::s264::s265::s266::s267::s268::s269::s270::s271::s272::s273::s274::s275::s276::s277::s278::s279::s280::s281::s282::s283::s284::s285::s286::s287::s288::s289::s290::s291::s292::s293::s294::s295::s296::s297::s298::s299::s300::s301::s302::s303::s304::s305::s306::s307::s308::s309::s310::s311::s312::s313::s314::s315::s316 :: .int .i64 8 :: .int .i64 8::x319::x320::x321::x322::x323::x324::x325::x326::x327::x328::x329::x330::x331::x332::x333::x334::x335::s336::s337::s338::s339::s340::s341::s342::s343::s344::s345::s346::s347::s348::s349::s350::s351::s352::s353::s354::s355::s356::s357::s358::[]).toArray,[]⟩ w') :
 Code.wp Tryz.prog (Ui 8) Q ⟨(s0 :: .int .u64 32::s2::s3::s4 :: .slice (some ⟨gn,0,none⟩) 12 12 :: .int .i64 64 :: .int .i64 4 :: .slice (some ⟨g,o,none⟩) L c::s9::s10::s11 :: .slice (some ⟨gh,0,none⟩) 8 8::s13::s14 :: .slice (some ⟨gx,0,none⟩) 64 64::s16::s17::s18::v0::s20::s21::s22::s23::s24::s25::s26::s27::s28::s29::s30::s31::s32::s33::s34::s35::s36::s37::s38::s39::s40::s41::s42::s43::s44::s45::s46::s47::s48::s49::s50::s51::s52::s53::s54::s55::s56::s57::s58::s59::s60::s61::s62::s63::s64::s65::s66::s67::s68::s69::s70::s71::s72::s73::s74::s75::s76::s77::s78::s79::s80::s81::s82::s83::s84::s85::s86::s87::s88::s89::s90::s91::s92::s93::s94::s95::s96::s97::s98::s99::s100::s101::s102::s103::s104::s105::s106::s107::s108::s109::s110::s111::s112::s113::s114::s115::s116::s117::s118::s119::s120::s121::s122::s123::s124::s125::s126::s127::s128::s129::s130::s131::s132::s133::s134::s135::s136::s137::s138::s139::s140::s141::s142::s143::s144::s145::s146::s147::s148::s149::s150::s151::s152::s153::s154::s155::s156::s157::s158::s159::s160::s161::s162::s163::s164::s165::s166::s167::s168::s169::s170::s171::s172::s173::s174::s175::s176::s177::s178::s179::s180::s181::s182::s183::s184::s185::s186::s187::s188::s189::s190::s191::s192::s193::s194::s195::s196::s197::s198::s199::s200::s201::s202::s203::s204::s205::s206::s207::s208::s209::s210::s211::s212::s213::s214::s215::s216::s217::s218::s219::s220::s221::s222::s223::s224::s225::s226::s227::s228::s229::s230::s231::s232::s233::s234::s235::s236::s237::s238::s239::s240::s241::s242::s243::s244::s245::s246::s247::s248::s249::s250::s251::s252::s253::s254::s255::s256::s257::s258::s259::s260::s261::s262::s263::s264::s265::s266::s267::s268::s269::s270::s271::s272::s273::s274::s275::s276::s277::s278::s279::s280::s281::s282::s283::s284::s285::s286::s287::s288::s289::s290::s291::s292::s293::s294::s295::s296::s297::s298::s299::s300::s301::s302::s303::s304::s305::s306::s307::s308::s309::s310::s311::s312::s313::s314::s315::s316 :: .int .i64 8 :: .int .i64 0::s319::s320::s321::s322::s323::s324::s325::s326::s327::s328::s329::s330::s331::s332::s333::s334::s335::s336::s337::s338::s339::s340::s341::s342::s343::s344::s345::s346::s347::s348::s349::s350::s351::s352::s353::s354::s355::s356::s357::s358::[]).toArray,[]⟩ w0:=by
 conv=>arg 2;whnf
 have Hj:Bk w0 gh 117 (C9 (((up (AD))).take 0++((up (S))).drop 0)):=by simpa using H0
 clear H0;go_loopw [318] (fun t wr=>∃k:Nat,k≤8∧t=.int .i64 (k:Int)∧Bk wr gh 117 (C9 (((up (AD))).take k++((up (S))).drop k))∧V8 wr (gx+1) v0 (up (V))∧Below gh w3 wr) (fun t _=>8-(intOf t).toNat)
 case atStart=>exact ⟨0,by omega,rfl,Hj,V0,D0⟩
 case round=>
  clear Hj V0 D0;obtain⟨k,hk,rfl,Hr,Vr,Dr⟩:=hrel;by_cases hk8:k<8
  ·have aC:k<(((up (AD))).take k++((up (S))).drop k).length:=by simp[hAD,hS];omega
   have eh:wr.cell? ⟨gh,k,none⟩=some (.int .u64 (F0 ((Z1 S k).toUInt64))):=Hr.at_ (by rw[J6 aC,D6b _ _ _ (by omega),Zm]);have ef:=Hr.frozen k;have aE:=Vr;obtain⟨cv,gv,ov,rfl,aH,aI,aF,aG,aD⟩:=Vr;have ev:=aD k hk8;rw[Zm]at ev;clear aD aC;go_wp2_with fail;refine Af 14 (by kernel_rfl) (by kernel_rfl) ?_;simp only[List.take_succ_cons,List.take_zero,List.drop_succ_cons,List.drop_zero];repeat (go_big_quiet_step ((go_at_call 120;first | exact Cr (Su _) | exact Bm (Su _))))
   refine wpQuiet_nil ?_;rintro w6 ⟨aB,rfl⟩;go_wp2_with fail;go_roundw;case rel=>
    refine ⟨k+1,by omega,by go_num,?_,(aE.drewN aB).far (by simp;omega) _,(K9 Dr aB).setCell (by simp) _⟩;rw[←Hadd.out k hk8,←Cz];exact (Hr.drewN aB).set_ k _
   case measure=>simp[intOf];omega
  ·obtain rfl:k=8:=by omega
   have aA:(((up (AD))).take 8++((up (S))).drop 8)=(up (AD)):=by rw[List.take_of_length_le (by omega),List.drop_of_length_le (by omega),List.append_nil]
   rw[aA]at Hr;have eR:((8:Nat):Int)=8:=rfl;rw[eR];clear eR aA;go_wp2_with fail;apply hexit
   ·exact Hr
   ·exact Dr
def A1g (v:UInt64) (k:Nat):List UInt8:=(List.range 8).map fun j=>if 8-k≤j then g8 (P9 v) j else 0
@[simp] theorem E0s (v : UInt64) (k : Nat) : (A1g v k).length = 8 := by simp [A1g]
def Rp (v:UInt64):Nat→UInt64
 | 0=>v
 | k+1=>Rp v k / 256
theorem B4r (v:UInt64):∀k,(Rp v k).toNat=v.toNat / 256 ^ k
 | 0=>by simp[Rp]
 | k+1=>by
  show (Rp v k / 256).toNat=_;rw[UInt64.toNat_div,B4r v k,Nat.pow_succ,←Nat.div_div_eq_div_mul];rfl
theorem C3r (v:UInt64):A1g v 0=z8 8:=by
 rfl
theorem C4a (v:UInt64):A1g v 8=P9 v:=by
 simp[A1g,P9,g8,List.range_succ]
theorem D5c (v:UInt64) (j:Nat) (hj:j<8):(Rp v (7-j) % 256).toUInt8=g8 (P9 v) j:=by
 apply UInt8.toNat_inj.1;have e:∀k:Nat,k<8→((Rp v k % 256).toUInt8).toNat=v.toNat / 256 ^ k % 256:=fun k hk=>by
  rw[UInt64.toNat_toUInt8,UInt64.toNat_mod,B4r];have:(256:UInt64).toNat=256:=rfl;rw[this];omega
 rw[e _ (by omega)];have s:∀(k:Nat) (z:UInt64),k<64→z.toNat=k→((v >>> z).toUInt8).toNat=v.toNat / 2 ^ k % 256:=fun k z hk hz=>by
  rw[UInt64.toNat_toUInt8,UInt64.toNat_shiftRight,hz,Nat.mod_eq_of_lt hk,Nat.shiftRight_eq_div_pow]
 match j,hj with
 | 0,_=>exact (s 56 56 (by decide) rfl).symm
 | 1,_=>exact (s 48 48 (by decide) rfl).symm
 | 2,_=>exact (s 40 40 (by decide) rfl).symm
 | 3,_=>exact (s 32 32 (by decide) rfl).symm
 | 4,_=>exact (s 24 24 (by decide) rfl).symm
 | 5,_=>exact (s 16 16 (by decide) rfl).symm
 | 6,_=>exact (s 8 8 (by decide) rfl).symm
 | 7,_=>show v.toNat / 256 ^ 0 % 256=(v.toUInt8).toNat;rw[UInt64.toNat_toUInt8];simp
theorem C5f (v:UInt64) (j:Nat) (hj:j<8):(A1g v (7-j)).set j (Rp v (7-j) % 256).toUInt8=A1g v (7-j+1):=by
 rw[D5c v j hj];apply List.ext_getElem?;intro i;unfold A1g;rw[List.getElem?_set];by_cases h:j=i
 ·subst h;rw[if_pos rfl,if_pos (by simp;omega),List.getElem?_map,List.getElem?_range (by omega)];simp only[Option.map_some];rw[if_pos (by omega)]
 ·rw[if_neg h,List.getElem?_map,List.getElem?_map];by_cases hi:i<8
  ·rw[List.getElem?_range hi];simp only[Option.map_some];congr 1;by_cases h2:8-(7-j)≤i
   ·rw[if_pos h2,if_pos (by omega)]
   ·rw[if_neg h2,if_neg (by omega)]
  ·rw[List.getElem?_eq_none (by simp;omega)];rfl
theorem C5i (v:UInt64) (k:Nat):Rp v (k+1)=Rp v k / 256:=rfl
attribute [irreducible] A1g Rp
theorem B1n (v:UInt64) (w:World):Calls Tryz.prog 59 #[.int .u64 (F0 v)] w fun e w'=>∃u,e=.returned u∧M9 w' w.heap.size u (P9 v)∧Below w.heap.size w w':=by
 obtain⟨W0,aB⟩:=E9 (w.alloc (Obj.cells (c8 (z8 8)).toArray 5));have B0:=BA' aB;have K0:Bk W0 w.heap.size 5 (c8 (A1g v 0)):=by rw[aB,C3r];exact Bk.new w _ _
 have S0:Rp v 0=v:=by unfold Rp;rfl
 go_enter Tryz.func59,Tryz.ntmps59;go_wp2_with (refine Yo rfl _ _ rfl 8 _ _ rfl rfl (by decide) ?_);rw[←aB];clear aB;go_loopw [0,4] (fun x i wr=>∃j:Nat,j≤8∧x=.int .u64 (F0 (Rp v (8-j)))∧i=.int .i64 ((j:Int)-1)∧Bk wr w.heap.size 5 (c8 (A1g v (8-j)))∧Below w.heap.size w wr) (fun _ i _=>(intOf i+1).toNat)
 case atStart=>exact ⟨8,by omega,by rw[show 8-8=0 from rfl,S0],rfl,K0,B0⟩
 case round=>
  clear K0 B0 S0;obtain⟨j,hj,rfl,rfl,K,B⟩:=hrel;cases j with
  | zero=>
   have e1:decide (0≤((0:Nat):Int)-1)=false:=by decide
   have e2:8-0=8:=rfl;rw[e2,C4a]at K;go_wp2_with fail;go_ret;exact ⟨_,rfl,⟨rfl,.inr ⟨w.heap.size,8,(c8 (P9 v)).toArray,rfl,Nat.le_refl _,K,Nat.le_refl _,by decide,rfl,rfl⟩⟩,B⟩
  | succ j=>
   have e0:(((j+1:Nat):Int)-1)=(j:Int):=by omega
   have e1:8-(j+1)=7-j:=by omega
   have e2:7-j+1=8-j:=by omega
   rw[e0];rw[e1]at K ⊢;have aA:=C5f v j (by omega);rw[e2]at aA;have hq:Rp v (8-j)=Rp v (7-j) / 256:=by rw[←e2,C5i]
   have hr:=C6s (Rp v (7-j));have hd:=C5a (Rp v (7-j));have hc:wr.cell? ⟨w.heap.size,j,none⟩=some (.int .u8 (n8 (g8 (A1g v (7-j)) j))):=K.at_ (Eu (by simp;omega));have hf:=K.frozen j;have aC:decide (0≤(j:Int))=true:=decide_eq_true (by omega);go_wp2_with fail;go_roundw;case rel=>exact ⟨j,by omega,by rw[hq],by go_num,by rw[←aA];exact (by rw[←Gx];exact K.set_ j _),B.setCell (Nat.le_refl _) _⟩
   case measure=>simp[intOf]
end Go.Proofs.YtlegpkdighoflaaGreat
