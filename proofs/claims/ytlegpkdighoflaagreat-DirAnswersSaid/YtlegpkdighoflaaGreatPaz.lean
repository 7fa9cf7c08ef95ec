/- A part of the proof of DirAnswers. -/
import Derived.Outline
import Derived.Test.YtlegpkdighoflaaGreatPay
set_option linter.unusedVariables false
set_option linter.unusedSimpArgs false
set_option maxRecDepth 100000
set_option maxHeartbeats 40000000
namespace Go.Proofs.YtlegpkdighoflaaGreat
open Go Go.RowKit Sh
set_option maxRecDepth 1000000 in
theorem B8g {s0 s2 s3 s4 s5 s6 s8 s9 s10 s11 s13 s14 s15 s16 s17 s18 s19 s20 s21 s22 s23 s24 s25 s27 s28 s29 s30 s31 s32 s33 s34 s35 s36 s37 s38 s39 s40 s41 s42 s43 s44 s45 s46 s47 s48 s49 s50 s51 s52 s53 s54 s55 s56 s57 s58 s59 s60 s61 s62 s63 s64 s65 s66 s67 s68 s69 s70 s71 s72 s73 s74 s75 s76 s77 s78 s79 s80 s81 s82 s83 s84 s85 s86 s87 s88 s89 s90 s91 s92 s93 s94 s95 s96 s97 s98 s99 s100 s101 s102 s103 s104 s105 s106 s107 s108 s109 s110 s111 s112 s113 s114 s115 s116 s117 s118 s119 s120 s121 s122 s123 s124 s125 s126 s127 s128 s129 s130 s131 s132 s133 s134 s135 s136 s137 s138 s139 s140 s141 s142 s143 s144 s145 s146 s147 s148 s149 s150 s151 s152 s153 s154 s155 s156 s157 s158 s159 s160 s161 s162 s163 s164 s165 s166 s167 s168 s169 s170 s171 s172 s173 s174 s175 s176 s177 s178 s179 s180 s181 s182 s183 s184 s185 s186 s187 s188 s189 s190 s191 s192 s193 s194 s195 s196 s197 s198 s199 s200 s201 s202 s203 s204 s205 s206 s207 s208 s209 s210 s211 s212 s213 s214 s215 s216 s217 s218 s219 s220 s221 s222 s223 s224 s225 s226 s227 s228 s229 s230 s231 s232 s233 s234 s235 s236 s237 s238 s239 s240 s241 s242 s243 s244 s245 s246 s247 s248 s249 s250 s251 s252 s253 s254 s255 s256 s257 s258 s259 s260 s261 s262 s263 s264 s265 s266 s267 s268 s269 s270 s271 s272 s273 s274 s275 s276 s277 s278 s279 s280 s281 s282 s283 s284 s285 s286 s287 s288 s289 s290 s291 s292 s293 s294 s295 s296 s297 s298 s299 s300 s301 s302 s303 s304 s305 s306 s307 s308 s309 s310 s311 s312 s313 s314 s315 s316 s317 s318 s319 s320 s321 s322 s323 s324 s325 s326 s327 s328 s329 s330 s331 s332 s333 s334 s335 s339 s340 s341 s342 s343 s344 s345 s346 s347 s348 s349 s350 s351 s352 s353 s354 s355 s356 s357 s358:Value} {Q:Exit→Act→World→Prop} {gh:Nat} {w0:World} (S:List UInt32)
 (hSl:S.length=8) (H0:Bk w0 gh 117 (C9 (up (S))))
 (hexit:∀(x26 x28 x29 x339 x340 x341 x342 x343 x344 x345 x346 x347 x348 x349 x350 x351 x352 x353 x354 x355 x356 x357:Value) (w':World),P9 w' w0.heap.size x26 (Ds S)→Below w0.heap.size w0 w'→Q (.exit 18) ⟨(s0 :: .int .u64 32::s2::s3::s4::s5::s6 :: .int .i64 4::s8::s9::s10::s11 :: .slice (some ⟨gh,0,none⟩) 8 8::s13::s14::s15::s16::s17::s18::s19::s20::s21::s22::s23::s24::s25::x26::s27::x28::x29::s30::s31::s32::s33::s34::s35::s36::s37::s38::s39::s40::s41::s42::s43::s44::s45::s46::s47::s48::s49::s50::s51::s52::s53::s54::s55::s56::s57::s58::s59::s60::s61::s62::s63::s64::s65::s66::s67::s68::s69::s70::s71::s72::s73::s74::s75::s76::s77::s78::s79::s80::s81::s82::s83::s84::s85::s86::s87::s88::s89::s90::s91::s92::s93::s94::s95::s96::s97::s98::s99::s100::s101::s102::s103::s104::s105::s106::s107::s108::s109::s110::s111::s112::s113::s114::s115::s116::s117::s118::s119::s120::s121::s122::s123::s124::s125::s126::s127::s128::s129::s130::s131::s132::s133::s134::s135::s136::s137::s138::s139::s140::s141::s142::s143::s144::s145::s146::s147::s148::s149::s150::s151::s152::s153::s154::s155::s156::s157::s158::s159::s160::s161::s162::s163::s164::s165::s166::s167::s168::s169::s170::s171::s172::s173::s174::s175::s176::s177::s178::s179::s180::s181::s182::s183::s184::s185::s186::s187::s188::s189::s190::s191::s192::s193::s194::s195::s196::s197::s198::s199::s200::s201::s202::s203::s204::s205::s206::s207::s208::s209::s210::s211::s212::s213::s214::s215::s216::s217::s218::s219::s220::s221::s222::s223::s224::s225::s226::s227::s228::s229::s230::s231::s232::s233::s234::s235::s236::s237::s238::s239::s240::s241::s242::s243::s244::s245::s246::s247::s248::s249::s250::s251::s252::s253::s254::s255::s256::s257::s258::s259::s260::s261::s262::s263::s264::s265::s266::s267::s268::s269::s270::s271::s272::s273::s274::s275::s276::s277::s278::s279::s280::s281::s282::s283::s284::s285::s286::s287::s288::s289::s290::s291::s292::s293::s294::s295::s296::s297::s298::s299::s300::s301::s302::s303::s304::s305::s306::s307::s308::s309::s310::s311::s312::s313::s314::s315::s316::s317::s318::s319::s320::s321::s322::s323::s324::s325::s326::s327::s328::s329::s330::s331::s332::s333::s334::s335 :: .slice (some ⟨gh,0,none⟩) 8 8 :: .int .i64 8 :: .int .i64 8::x339::x340::x341::x342::x343::x344::x345::x346::x347::x348::x349::x350::x351::x352::x353::x354::x355::x356::x357::s358::[]).toArray,[]⟩ w') :
 Code.wp Tryz.prog (Sc 9) Q ⟨(s0 :: .int .u64 32::s2::s3::s4::s5::s6 :: .int .i64 4::s8::s9::s10::s11 :: .slice (some ⟨gh,0,none⟩) 8 8::s13::s14::s15::s16::s17::s18::s19::s20::s21::s22::s23::s24::s25 :: .slice none 0 0::s27::s28::s29::s30::s31::s32::s33::s34::s35::s36::s37::s38::s39::s40::s41::s42::s43::s44::s45::s46::s47::s48::s49::s50::s51::s52::s53::s54::s55::s56::s57::s58::s59::s60::s61::s62::s63::s64::s65::s66::s67::s68::s69::s70::s71::s72::s73::s74::s75::s76::s77::s78::s79::s80::s81::s82::s83::s84::s85::s86::s87::s88::s89::s90::s91::s92::s93::s94::s95::s96::s97::s98::s99::s100::s101::s102::s103::s104::s105::s106::s107::s108::s109::s110::s111::s112::s113::s114::s115::s116::s117::s118::s119::s120::s121::s122::s123::s124::s125::s126::s127::s128::s129::s130::s131::s132::s133::s134::s135::s136::s137::s138::s139::s140::s141::s142::s143::s144::s145::s146::s147::s148::s149::s150::s151::s152::s153::s154::s155::s156::s157::s158::s159::s160::s161::s162::s163::s164::s165::s166::s167::s168::s169::s170::s171::s172::s173::s174::s175::s176::s177::s178::s179::s180::s181::s182::s183::s184::s185::s186::s187::s188::s189::s190::s191::s192::s193::s194::s195::s196::s197::s198::s199::s200::s201::s202::s203::s204::s205::s206::s207::s208::s209::s210::s211::s212::s213::s214::s215::s216::s217::s218::s219::s220::s221::s222::s223::s224::s225::s226::s227::s228::s229::s230::s231::s232::s233::s234::s235::s236::s237::s238::s239::s240::s241::s242::s243::s244::s245::s246::s247::s248::s249::s250::s251::s252::s253::s254::s255::s256::s257::s258::s259::s260::s261::s262::s263::s264::s265::s266::s267::s268::s269::s270::s271::s272::s273::s274::s275::s276::s277::s278::s279::s280::s281::s282::s283::s284::s285::s286::s287::s288::s289::s290::s291::s292::s293::s294::s295::s296::s297::s298::s299::s300::s301::s302::s303::s304::s305::s306::s307::s308::s309::s310::s311::s312::s313::s314::s315::s316::s317::s318::s319::s320::s321::s322::s323::s324::s325::s326::s327::s328::s329::s330::s331::s332::s333::s334::s335 :: .slice (some ⟨gh,0,none⟩) 8 8 :: .int .i64 8 :: .int .i64 0::s339::s340::s341::s342::s343::s344::s345::s346::s347::s348::s349::s350::s351::s352::s353::s354::s355::s356::s357::s358::[]).toArray,[]⟩ w0:=by
 conv=>arg 2;whnf
 have aE:=Ja S;rw[hSl]at aE;have zS:=H0.lt;go_loopw [26,338] (fun u t wr=>∃k:Nat,k≤8∧t=.int .i64 (k:Int)∧P9 wr w0.heap.size u ((Ds S).take (4*k+0))∧Below w0.heap.size w0 wr) (fun _ t _=>8-(intOf t).toNat)
 case atStart=>exact ⟨0,by omega,rfl,P9.nil _ _,Below.refl _ _⟩
 case round=>
  obtain⟨k,hk,rfl,Or,Er⟩:=hrel;by_cases hk8:k<8
  ·have eh:wr.cell? ⟨gh,k,none⟩=some (.int .u64 (J4 ((Ad S k).toUInt64))):=(Er.cell zS).trans (H0.at_ (by rw[J6 (by rw[Gw];omega),Wv]));have aA:=Lib.hid hk8;have aJ:decide ((k:Int)<8)=true:=decide_eq_true (by omega);go_wp2_with fail;clear hk8;obtain⟨wp,rfl⟩:∃wp:World,wp=wr:=⟨_,rfl⟩;go_loopw [26,29] (fun u t wr=>∃j:Nat,j≤4∧t=.int .i64 ((j:Int)-1)∧P9 wr w0.heap.size u ((Ds S).take (4*k+(4-j)))∧Below w0.heap.size w0 wr) (fun _ t _=>(intOf t+1).toNat)
   case atStart=>exact ⟨4,by omega,rfl,Or,Er⟩
   case round=>
    clear Or Er eh;obtain⟨j,hj,rfl,Or,Er⟩:=hrel;have aF:((Ds S).take (4*k+(4-j))).length≤64:=by rw[List.length_take];omega
    by_cases hj0:0<j
    ·obtain⟨s,rfl⟩:∃s,j=s+1:=⟨j-1,by omega⟩;have e1:(((s+1:Nat):Int)-1)=(s:Int):=by omega
     rw[e1];have aG:s<4:=by omega
     have aK:s<8:=by omega
     have aD:(Ds S).take (4*k+(4-(s+1)))++[(sh8 ((Ad S k).toUInt64) s).toUInt8]=(Ds S).take (4*k+(4-s)):=by rw[show 4-(s+1)=3-s by omega,show 4-s=3-s+1 by omega];exact B4s S k (3-s) (by have:=aA.out;omega) (by omega) _ (B8v _ s aG)
     have aB:=Lib.hid aD;clear aD e1;go_wp2_with (at_builtin;refine Hh _ w0.heap.size _ _ rfl _ _ rfl rfl Or _ _ rfl rfl (by omega) Er.size ?_;intro A2 c2 w7 aL aM aH aI;generalize (List.take (4*k+(4-(s+1))) (Ds S)++[(sh8 ((Ad S k).toUInt64) s).toUInt8]).length=L7 at *);go_roundw;case rel=>exact ⟨s,by omega,by go_num,by rw[←aB.out];exact aH,Er.trans aI⟩
     case measure=>simp[intOf]
    ·obtain rfl:j=0:=by omega
     go_wp2_with fail;go_roundw;case rel=>exact ⟨k+1,by have:=aA.out;omega,by go_num,Or,Er⟩
     case measure=>have:=aA.out;simp[intOf];omega
  ·obtain rfl:k=8:=by omega
   have aC:(Ds S).take (4*8+0)=Ds S:=List.take_of_length_le (by omega);rw[aC]at Or;have eR:((8:Nat):Int)=8:=rfl;rw[eR];clear eR;go_wp2_with fail;apply hexit
   ·exact Or
   ·exact Er
set_option maxRecDepth 1000000 in
theorem C2g (v:Value) (l:List UInt8) (w:World) (hb:By w 0 w.heap.size v l) (hsz:l.length≤1099511627776) :
 Calls Tryz.prog 87 #[v,.int .u64 32] w fun e w'=>∃u,e=.returned u∧P9 w' w.heap.size u (Gd l)∧Below w.heap.size w w':=by
 have hn:=hsz;have hw:IntKind.u64.wrap (l.length:Int)=J4 (UInt64.ofNat l.length):=by rw[Gq];unfold J4;simp
 have aE:pz l (Yo 64 l.length)++fl 8 (UInt64.ofNat l.length*8) 0=pad 64 l:=by
  have e:fl 8 (UInt64.ofNat l.length*8) 0=U0 (8*UInt64.ofNat l.length):=by rw[UInt64.mul_comm];exact C3l _
  rw[e];simp[pad,pz]
 have aF:=Lib.hid aE;have bS:=Lib.hid hsz;clear aE hsz;obtain⟨A0,c0,rfl,hc0,hcm0,-⟩:=id hb.open_;generalize hml:l.length=n at *;have aA:=Lib.hid hml;clear hml;have bI:True:=trivial;have bJ:True:=trivial;go_enter Tryz.func87,Tryz.ntmps87;have N1:Bk (w.alloc (Obj.cells A3a.toArray 60)) w.heap.size 60 A3a:=by exact Bk.new _ _ _
 have B1:Below w.heap.size w (w.alloc (Obj.cells A3a.toArray 60)):=Aw _ _;have b1:=(hb.below B1).more B1.size;have E1:P9 ((w.alloc (Obj.cells A3a.toArray 60)).alloc (.cells #[] 5)) (w.heap.size+1) (.slice (some ⟨w.heap.size+1,0,none⟩) 0 0) []:=by simpa using P9.empty (w.alloc (Obj.cells A3a.toArray 60)) (w.heap.size+1) (by simp)
 go_wp2_with (first | (refine Ge rfl _ 60 _ _ rfl Tryz.underlying196 1 _ C5x (by decide) (by decide) A3a.toArray (by kernel_rfl) ?_) | (at_builtin;refine Hh _ (w.heap.size+1) _ ([]++l) rfl _ _ rfl rfl aX 128 128 rfl rfl (by simp[aA.out];omega) z1 ?_;intro A2 c2 w3 aG aH aC aK) | (at_builtin;refine Pu _ (w.heap.size+1) _ [] rfl _ _ rfl rfl E1 _ rfl l 0 _ (b1.alloc (Nat.le_refl _) _) (by simp[aA.out];omega) (by simp) ?_;intro A1 c1 w2 aY aO aX aL bK aP;clear bK aP;have z1:w.heap.size+1≤w2.heap.size:=by (have:=aL.size;simp at this;omega)));have B3:Below w.heap.size w w3:=((B1.alloc (by simp) _).trans (aL.mono (by omega))).trans (aK.mono (by omega));have N3:Bk w3 w.heap.size 60 A3a:=((N1.alloc _).below aL (by omega)).below aK (by omega);have z3:=aK.size;rw[List.nil_append,←A5r]at aG aC;clear b1 E1 hb aY aO aX aL aK N1 B1 hc0 hcm0;generalize hz:Yo 64 n=z at *;have aZ:z=(64-(n+1+8) % 64) % 64:=by rw[←hz];rfl
 have bA:=Lib.hid aZ;have bT:z<64:=by omega
 clear hz aZ;have bB:=X7 l 0;rw[aA.out]at bB;rw[bB]at aG aC;have zb:w.heap.size+1≤w3.heap.size:=by omega
 go_loopw [8] (fun b wr=>∃(j:Nat) (A:Option Addr) (c:Nat),j≤z∧b=.slice A (n+1+j) c∧n+1+j≤c∧c≤9223372036854775807∧P9 wr (w.heap.size+1) (.slice A (n+1+j) c) (pz l j)∧Below w.heap.size w wr∧Bk wr w.heap.size 60 A3a∧w.heap.size+1≤wr.heap.size) (fun b _=>n+1+z-A3i b)
 case atStart=>exact ⟨0,A2,c2,Nat.zero_le _,by simp[aA.out],aG,aH,aC,B3,N3,zb⟩
 case round=>
  clear aC aG aH B3 N3 z3 z1 zb;obtain⟨j,A,c,hj,rfl,aY,aG,ho,hb,hN,zr⟩:=hrel;by_cases hlt:j<z
  ·have bC:((n:Int)+1+j+8) % 64≠0:=by have:=bA.out;omega
   go_wp2_with (at_builtin;refine Hh _ (w.heap.size+1) _ (pz l j) rfl _ _ rfl rfl ho 0 0 rfl rfl (by rw[X7,aA.out];omega) zr ?_;intro A2 c2 w2 bD bL aC aQ);have he:(pz l j++[0]).length=n+1+(j+1):=by rw[←Rt,X7,aA.out]
   rw[he]at bD aC;rw[←Rt]at aC;go_roundw;case rel=>exact ⟨j+1,A2,c2,by omega,by rw[show (pz l j).length+1=n+1+(j+1) from by rw[X7,aA.out];omega],bD,bL,aC,hb.trans (aQ.mono (by omega)),hN.below aQ (by omega),by have:=aQ.size;omega⟩
   case measure=>simp[A3i,X7,aA.out];omega
  ·obtain rfl:j=z:=by omega
   have bC:((n:Int)+1+j+8) % 64=0:=by have:=bA.out;omega
   go_wp2_with (refine Vc rfl _ _ rfl 8 _ _ rfl rfl (by decide) ?_);obtain⟨wv,aD⟩:=F9 (wr.alloc (Obj.cells (c8 (z8 8)).toArray 5));rw[←aD];have aI:(Value.slice A (n+1+j) c).ownBlock≠some wr.heap.size:=by
    intro e;have:=(ho.lt _ e).2;omega
   have zv:wr.heap.size<wv.heap.size:=by rw[aD];simp
   have ov:P9 wv (w.heap.size+1) (.slice A (n+1+j) c) (pz l j):=by rw[aD];exact ho.alloc _
   have Bv:Below w.heap.size w wv:=by rw[aD];exact hb.alloc (by omega) _
   have Nv:=Ac aD hN;have Lv:Bk wv wr.heap.size 5 (c8 (fl 8 (UInt64.ofNat n*8) 8)):=by rw[aD,C8g];exact Bk.new _ _ _
   generalize wr.heap.size=gl at *;generalize UInt64.ofNat n*8=N at *;clear aD ho hb hN bC hlt;go_wp2_with fail;go_loopw [10,11] (fun t i wr=>∃r:Nat,r≤8∧i=.int .i64 ((r:Int)-1)∧t=.int .u64 (J4 (sd N (8-r)))∧Bk wr gl 5 (c8 (fl 8 N r))∧wv.grownBy wr (some gl)∧Below w.heap.size w wr) (fun t i _=>(intOf i+1).toNat)
   case atStart=>exact ⟨8,by omega,rfl,rfl,Lv,World.grownBy.refl _ _,Bv⟩
   case round=>
    clear Lv Bv;obtain⟨r,hr,rfl,rfl,Lr,hg,Br⟩:=hrel;by_cases h0:0<r
    ·obtain⟨s,rfl⟩:∃s,r=s+1:=⟨r-1,by omega⟩;have e1:(((s+1:Nat):Int)-1)=(s:Int):=by omega
     rw[e1];have hs:wr.cell? ⟨gl,s,none⟩=some (.int .u8 (n8 (g8 (fl 8 N (s+1)) s))):=Lr.at_ (Eb (by rw[Rx _ _ _ hr];omega));have hf:=Lr.frozen s;have aB:=D2x 8 N (s+1) (by omega) hr;have aR:sd N (8-(s+1)) / 256=sd N (8-s):=by
      have e:8-s=8-(s+1)+1:=by omega
      rw[e];rfl
     have e8:8-(s+1)=7-s:=by omega
     rw[e8]at aB aR;rw[Nat.add_sub_cancel]at aB;have aS:=Lib.hid aB;have bM:=Lib.hid aR;clear aB aR;go_wp2_with fail;go_roundw;case rel=>
      refine ⟨s,by omega,by go_num,by rw[bM.out],?_,B7f hg _ _,Br.setCell (by simp;omega) _⟩;have h1:=Lr.set_ s (.int .u8 (n8 (sd N (7-s) % 256).toUInt8));rw[Fp,aS.out]at h1;exact h1
     case measure=>simp[intOf]
    ·obtain rfl:r=0:=by omega
     have ow:=ov.kept hg (.inr aI);have nw:=Nv.grown hg (by simp;omega);have lw:=hg.size;have by8:=Lr.by8 8 (Rx 8 N 0 (by omega)).symm (by rw[Rx 8 N 0 (by omega)];decide);have aT:=Rx 8 N 0 (by omega);clear hg ov Nv;go_wp2_with (first | (refine Nf rfl _ _ rfl 8 _ _ rfl rfl (by decide) ?_) | (at_builtin;refine Pu _ (w.heap.size+1) _ (pz l j) rfl _ _ rfl rfl ow _ rfl (fl 8 N 0) 0 _ by8 (by rw[X7,aA.out,aT];omega) (by omega) ?_;intro A3 c3 w3 bN aJ bE aM bO aU;have bP:(pz l j++fl 8 N 0).length=n+1+j+8:=(by rw[List.length_append,X7,aA.out,aT]);generalize hp:pz l j++fl 8 N 0=p at *;clear hp bO aU by8));have N4:=nw.below aM (by omega);have B4:=Br.trans (aM.mono (by omega));have z4:w.heap.size<w3.heap.size:=by have:=aM.size;omega
     have bF:Z2.length=8:=by decide +kernel
     clear aM aT lw nw ow Lr Br;have P4:=bE.by_;obtain⟨w4,aN⟩:=F9 (w3.alloc (Obj.cells (C9 (J2 8)).toArray 117));rw[←aN];have H4:=KN' aN;have D4:=BA' aN;generalize hgh:w3.heap.size=gh at *;have zg:w.heap.size<gh:=z4;have eW:IntKind.u64.wrap (64-(32:Int))=32:=by decide
     clear aN z4 zv zr aI hgh;go_wp2_with fail;go_loopw [83] (fun t wr=>∃k:Nat,k≤8∧t=.int .i64 k∧Bk wr gh 117 (C9 (A0y.take k++(J2 8).drop k))∧Below gh w3 wr) (fun t _=>8-(intOf t).toNat)
     case atStart=>exact ⟨0,by omega,rfl,H4,D4⟩
     case round=>
      clear H4 D4;obtain⟨k,hk,rfl,Hr,Dr⟩:=hrel;by_cases hlt:k<8
      ·go_wp2_with fail;refine (B2a k hlt _).mono ?_;rintro e w5 ⟨rfl,aV⟩;have H5:=Hr.bl aV;have D5:=Dr.trans (aV.mono (by have:=Hr.lt;omega));have bU:w5.cell? ⟨gh,k,none⟩=some (.int .u64 (J4 (E9 (A0y.take k++(J2 8).drop k) k))):=H5.at_ (J6 (by simp[A0y,bF];omega));have bV:=H5.frozen k;clear Hr Dr aV;go_wp2_with fail;go_roundw;case rel=>exact ⟨k+1,by omega,by go_num,by have:=H5.set_ k (.int .u64 (J4 (E9 Z2 k >>> 32)));rwa [Af,C2w k hlt]at this,D5.setCell (by simp) _⟩
       case measure=>simp[intOf];omega
      ·obtain rfl:k=8:=by omega
       have bG:((8:Nat):Int)=8:=rfl;rw[bG];clear bG;have h8:A0y.take 8++(J2 8).drop 8=(up (Q6 p 0)):=by show _=up (Z2.map fun (r:UInt64)=>(r >>> 32).toUInt32);rw[←C7h,List.take_of_length_le (by simp[A0y,bF]),List.drop_of_length_le (by simp),List.append_nil]
       rw[h8]at Hr;clear h8;go_wp2_with fail;obtain⟨A4,c4,e4,-,-,hrdp⟩:=P4.open_;injection e4 with e4 _ e5;subst e4;subst e5;have aW:p.length % 64=0:=by rw[aF.out];exact (A6g l).1
       refine A5v p bP aW (by omega) aJ (hrdp.less (Nat.zero_le _)) (by omega) zg N4 Hr Dr ?_;clear Hr Dr;intros
       rename_i wa hblk Dr
       obtain⟨i,hi,Hr⟩:=hblk;have bH:Ds (Q6 p i)=Gd l:=by
        unfold Gd;rw[←aF.out,show p.length=64*i by omega,Nat.mul_div_cancel_left _ (by decide)]
       have bQ:=Lib.hid bH;have bR:=Gk p i;have BS:=B4.trans (Dr.mono (by omega));generalize Q6 p i=S at *;clear bH hi hrdp aJ bN P4 bE;go_wp2_with fail;refine B8g S bR Hr ?_;intros
       rename_i wo Or Er
       rw[bQ.out]at Or;go_wp2_with fail;go_ret;exact ⟨_,rfl,Or.less BS.size,BS.trans (Er.mono BS.size)⟩
theorem Tn (v:Value) (ls:List (List UInt8)) (w:World) (hp:N8 w w.heap.size v ls) (hsz:ls.flatten.length≤1099511627776) :
 Calls Tryz.prog 58 #[v] w fun e w'=>e=.returned (A8 (Gd ls.flatten))∧Below w.heap.size w w':=by
 obtain⟨vs,⟨A,c,rfl,hc,aT,aH⟩,aI,aJ⟩:=hp;have aU:vs.length≤9223372036854775807:=by unfold maxLen at aT;omega
 rw[aI]at aU hc;rw[aI];go_enter Tryz.func58,Tryz.ntmps58;go_wp2_with fail;obtain⟨w0,aG⟩:=F9 (w.alloc (Obj.cells (c8 (z8 32)).toArray 23));rw[←aG];have B0:=BA' aG;have R0:=KN' aG;have z0:=R0.lt;clear aG;go_loopw [3,11] (fun u i wr=>∃k:Nat,k≤ls.length∧i=.int .i64 k∧P9 wr w0.heap.size u (cat ls k)∧Below w0.heap.size w0 wr) (fun _ i _=>ls.length-(intOf i).toNat)
 case atStart=>exact ⟨0,Nat.zero_le _,rfl,P9.nil _ _,Below.refl _ _⟩
 case round=>
  obtain⟨k,hk,rfl,ho,hb⟩:=hrel;by_cases hlt:k<ls.length
  ·obtain⟨g,o,rfl,_,hg,aA⟩:=aH.some (by omega);obtain⟨Ak,ck,hx,bE,bF,aO⟩:=N8.at_ aI aJ hlt;have aP:=B0.trans (hb.mono B0.size);have bG:wr.cell? ⟨g,o+k,none⟩=_:=(aP.cell (by exact hg)).trans (aA k _ hx);have aK:=A2m ls k hlt;have aV:=A6v ls (k+1);rw[aK,List.length_append]at aV;have HF:=Lib.hid aK;have aL:=aO.below aP;clear aK hx aA aJ aH aO;go_wp2_with (at_builtin;refine Pu _ w0.heap.size _ _ rfl _ _ rfl rfl ho _ rfl (gl ls k) 0 w.heap.size aL (by omega) hb.size ?_;intro A2 c2 w2 bH bI aQ aW bJ aX);go_roundw;case rel=>exact ⟨k+1,by omega,by go_num,by rw[List.length_append]at aQ;rw[HF.out];exact aQ,hb.trans aW⟩
   case measure=>simp[intOf];omega
  ·obtain rfl:k=ls.length:=by omega
   rw[B6j]at ho;clear aH aJ;generalize hm:ls.flatten=m at *;have Hm:=Lib.hid hm;clear hm;have Rr:=R0.below hb z0;have BB:=B0.trans (hb.mono B0.size);go_wp2_with fail;obtain⟨w1,aB⟩:=F9 (wr.alloc (Obj.cells (c8 (z8 32)).toArray 23));rw[←aB];have H1:=KN' aB;have R1:=Ac aB Rr;have B1:=Lk aB BB;have y1:By w1 0 w1.heap.size u3 m:=by rw[aB];exact ((ho.by_.less (Nat.zero_le _)).below (Aw _ _)).more (by simp)
   have zh:=H1.lt;have zg:w.heap.size<wr.heap.size:=by have:=hb.size;omega
   generalize wr.heap.size=gh at *;clear aB ho hb BB Rr;refine (C2g _ m w1 y1 hsz).mono ?_;rintro e w2 ⟨u,rfl,hu,h2⟩;have aC:=Dc m;obtain⟨gu,ou,cu,rfl,aD,aY,aZ,bA,aM⟩:=hu.by_.row (by omega);rw[aC]at aM aD ⊢;obtain⟨bK,aR⟩:=Oh aM;have H2:=H1.below h2 zh;have R2:=R1.bl h2;have B2:=B1.trans (h2.mono B1.size);have HM:Hid (Gd m=Gd m):=Lib.hid rfl;generalize hX:Gd m=X at *;have HX:=Lib.hid hX;clear hX HM hu h2 aM;have Hj:Bk w2 gh 23 (c8 (X.take 0++(z8 32).drop 0)):=by simpa using H2
   clear H2 H1 R1;go_wp2_with fail;go_loopw [22] (fun t wr=>∃k:Nat,k≤32∧t=.int .i64 (k:Int)∧Bk wr gh 23 (c8 (X.take k++(z8 32).drop k))∧Bk wr w.heap.size 23 (c8 (z8 32))∧Below w.heap.size w wr∧(∀j,j<32→wr.cell? ⟨gu,ou+j,none⟩=some (.int .u8 (n8 (g8 X j))))) (fun t _=>32-(intOf t).toNat)
   case atStart=>exact ⟨0,by omega,rfl,Hj,R2,B2,fun j hj=>by have:=aR j _ (Eb (by omega));rwa [Am]at this⟩
   case round=>
    clear Hj R2 B2 aR;obtain⟨k,hk,rfl,Hr,Rr,Br,aD⟩:=hrel;by_cases hk32:k<32
    ·have ex:=aD k hk32;have aS:k<(X.take k++(z8 32).drop k).length:=by simp[aC];omega
     have eh:=Hr.at_ (Eb aS);have ef:=Hr.frozen k;have aE:(X.take k++(z8 32).drop k).set k (g8 X k)=X.take (k+1)++(z8 32).drop (k+1):=Kc _ _ _ _ (by simp[aC]) (by omega) (by unfold g8;rw[List.getElem?_eq_getElem (by omega)];simp[show k<X.length by omega]);have aN:=Lib.hid aE;have bB:=Lib.hid aD;clear aE aD aS;go_wp2_with fail;go_roundw;case rel=>
      refine ⟨k+1,by omega,by go_num,?_,Rr.far (by simp;omega) _,Br.setCell (by simp;omega) _,fun j hj=>?_⟩
      ·rw[←aN.out,←Fp];exact Hr.set_ k _
      ·have:=bB.out j hj;rw[World.cell?_of_block (Below.heap_setCell _ _ _ _ (by simp;omega))];exact this
     case measure=>simp[intOf];omega
    ·obtain rfl:k=32:=by omega
     have aF:X.take 32++(z8 32).drop 32=X:=by rw[List.take_of_length_le (by omega),List.drop_of_length_le (by simp),List.append_nil]
     rw[aF]at Hr;have bC:J1 wr ⟨gh,0,none⟩ 32=some (c8 X):=by have:=Hr.rows;rwa [J0,aC]at this
     have bD:=Gy 32 Rr (by simp);clear aD aF Hr;go_wp2_with fail;refine bodyPost_ret (E5 rfl _ _ _ _ _ _ rfl (Rr.puts (vs:=c8 X) (by simp[aC])) Tryz.underlying23 rfl (by simp[P6,aC])) rfl ⟨?_,C5 Br (by simp) _⟩;rw[←HX.out,Hm.out];rfl
end Go.Proofs.YtlegpkdighoflaaGreat
