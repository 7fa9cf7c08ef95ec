/- A part of the proof of DirOrder. -/
import Derived.Test.YtlegpkdighoflaaGreatQbg
set_option linter.unusedVariables false
set_option linter.unusedSimpArgs false
set_option maxRecDepth 100000
set_option maxHeartbeats 40000000
namespace Go.Proofs.YtlegpkdighoflaaGreat
open Go Go.RowKit Sh
section
structure AV where
 who:Int
 ver:Int
 key:Int
 wrong:Bool
 cut:Bool
def AV.cells (a:AV):List Value:=[.int .i64 a.who,.int .i64 a.ver,.int .i64 a.key,.bool a.wrong,.bool a.cut]
theorem A7z:Tryz.prog.underlying 80=some (.struct (U1 Tryz.prog 80)):=by kernel_rfl
theorem B8u:(Tryz.prog.info? 80).map (·.size)=some 5:=by kernel_rfl
theorem B7a:((Tryz.prog.info? 80).bind (·.zero))=some (.agg (AV.cells ⟨0,0,0,false,false⟩).toArray):=by kernel_rfl
section
variable (w : World) (ρ : Operand → Value) (dst : Option Tmp) (ty : TypeId) (pos : String) (after : Array Edge) (guard : Option (Nat × Bool))
theorem B4m:RL' 80 5:=LL' A7z B8u
end
def RI (v:Value):Option (DataW Value×List MemPlace):=match v with | .int .i64 _=>some (.held v,[]) | _=>none
theorem C6m {v:Value} {y:DataW Value×List MemPlace} (h:RI v=some y):∃x,v=.int .i64 x:=by
 unfold RI at h;split at h
 ·exact ⟨_,rfl⟩
 ·cases h
theorem Qm:Maps.Keyed Tryz.prog 3:=Maps.int_keyed Tryz.underlying3
def C5n (w:World) (b n:Nat):Prop:=∃D:DataW Value,w.ownsMap Tryz.prog 3 RI b n D
theorem C5n.row {w:World} {b n:Nat} (h:C5n w b n):∀r,some b=some r→∃o:Obj,w.heap[r]?=some o∧o.isCells=false:=by
 obtain⟨D,⟨es,aA,hb,_⟩⟩:=h;intro r e;injection e with e;subst e;exact ⟨_,hb,rfl⟩
def OwnU (w:World) (base:Nat) (v:Value) (us:List UV):Prop:=(∀u∈us,u.Ok)∧w.ownsRow base 63 129 v us.length (us.flatMap Dt)
theorem C6v {w:World} {base sz n:Nat} {T:TypeId} {v:Value} {xs:List Value} (h:w.ownsRow base T sz v n xs):(v=.slice none 0 0∧n=0)∨∃g tl c,v=.slice (some ⟨g,0,none⟩) n c∧Bk w g T (xs++tl)∧g<w.heap.size:=by
 rcases h.2 with h1 | ⟨g,cap,cur,hv,hg,hh,h1,h2,h3,h4⟩
 ·exact .inl h1
 ·refine .inr ⟨g,cur.toList.drop (n*sz),cap,hv,?_,(Array.getElem?_eq_some_iff.1 hh).1⟩;unfold Bk;rw[hh,←h4,List.take_append_drop]
theorem OwnU.us {w:World} {base:Nat} {v:Value} {us:List UV} (h:OwnU w base v us):US w w.heap.size v us:=by
 rcases C6v h.2 with ⟨h1,h2⟩ | ⟨g,tl,c,h1,h2,h3⟩
 ·exact .inl ⟨List.eq_nil_of_length_eq_zero h2,h1⟩
 ·exact .inr ⟨g,tl,c,h1,⟨h.1,h2⟩,h3⟩
theorem A8q:(Tryz.prog.info? 63).map (fun i=>(i.zero,i.size,i.bytes))=some (some (Vs (Un 129)),129,136):=by kernel_rfl
@[go_sem ↓ high] theorem E2f (w : World) (ρ : Operand → Value) (dst : Option Tmp) (ty : TypeId) (pos : String) (after : Array Edge) (guard : Option (Nat × Bool)) (x : Operand) :
 (execOp ρ { dst,op:=.buildSlice 39 1 #[(0,x)],type:=ty,pos,after,guard }).run Tryz.prog w=Le 129 63 w (N8 Tryz.prog ρ { dst,op:=.buildSlice 39 1 #[(0,x)],type:=ty,pos,after,guard } w) (ρ x):=
 Ug w ρ dst ty pos after guard 39 63 129 136 (Vs (Un 129)) x Tryz.underlying39 A8q (by simp[Vs,Dt,Un,Value.cells]) (by decide) (by decide)
@[go_sem] theorem D3c (n : Nat) (e : TypeId) (w : World) (raw : Result Next) (u : UV) (h : u.length = n) : Le n e w raw (Vs u) = .ok (.value (.slice (some ⟨w.heap.size, 0, none⟩) 1 1)) (w.alloc (.cells (Dt u).toArray e)) := by
 unfold Vs;rw[B0v,if_pos (by rw[List.size_toArray];exact h)]
end
section
set_option maxRecDepth 100000
set_option maxHeartbeats 0
def eu8:Ev:=⟨[96,239,4,35,184,130,92,5,108,53,80,194,83,247,184,173,76,227,202,95,220,244,249,149,253,239,24,33,228,206,188,66],[166,114,80,100,218,29,98,240,87,26,14,169,76,112,143,41,231,59,76,63,31,221,54,48,89,132,207,131,240,22,90,7],[123,11,58,63,106,65,41,111,230,216,169,198,95,231,108,228,151,59,80,132,181,94,163,103,60,227,7,129,83,159,133,58],[119,105,116,97,110,1,0,0,0,0,0,0,0,40,0,0,0,0,0,0,0,1,8,0,0,0,0,0,0,0,0,0,0,0,0,0,0,0,0,0,0,0,0,0,0,0,0,0,0,0,0,0,0,0],[93,17,86,182,24,171,246,220,59,15,12,126,149,64,160,50,82,227,93,120,226,134,100,156,21,233,91,204,0,233,133,150],[135,206,103,171,243,146,126,41,42,184,230,141,62,154,15,199,135,82,177,194,90,208,106,227,53,117,38,33,189,38,23,9],[124,37,86,216,193,120,3,25,57,193,127,118,126,124,128,107,4,220,4,219,130,112,204,63,101,3,252,46,20,143,14,9],[203,103,113,107,10,20,94,107,216,60,109,61,81,58,48,221,198,36,135,113,16,80,212,63,22,68,106,129,28,133,120,15],[2989988777871003271,14343852931657676842,16387139282373005959,655034864552539445],[1802417049831875964,7746328241673060665,4597173026961021956,652616312865686373],⟨353399559818107,1118019633597925,352867526488989,455420375161538,1029529249779838⟩,⟨766240381882958,1193382067841333,1317944384999599,602488997104106,522484842878659⟩,⟨⟨766240381882958,1193382067841333,1317944384999599,602488997104106,522484842878659⟩,⟨353399559818107,1118019633597925,352867526488989,455420375161538,1029529249779838⟩,⟨1,0,0,0,0⟩,⟨1806551245383705,1003079527773512,1546416386928339,1785840027999721,766139044282816⟩⟩,⟨⟨1485559431802271,1058417745843914,933855428685648,1649310816581141,1729314970806588⟩,⟨353399559818107,1118019633597925,352867526488989,455420375161538,1029529249779838⟩,⟨1,0,0,0,0⟩,⟨445248568301524,1248720285911735,705383426756908,465959785685526,1485660769402431⟩⟩⟩
theorem E2a:Og (Bp 8 3) 1 (h1 8)=⟨eu8.B,1,h1 8,eu8.F++eu8.SB⟩∧U8 (Og (Bp 8 3) 1 (h1 8))=true:=Ev.upd (by decide +kernel) (by decide +kernel) (by decide +kernel) (by decide +kernel) (by decide +kernel) (by decide +kernel)
end
end Go.Proofs.YtlegpkdighoflaaGreat
