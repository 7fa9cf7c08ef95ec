/- A part of the proof of DirOrder. -/
import Derived.Test.YtlegpkdighoflaaGreatQbc
set_option linter.unusedVariables false
set_option linter.unusedSimpArgs false
set_option maxRecDepth 100000
set_option maxHeartbeats 40000000
namespace Go.Proofs.YtlegpkdighoflaaGreat
open Go Go.RowKit Sh
section
def UH (w:World) (b:Nat) (us:List UV) (tl:List Value):Prop:=(∀u∈us,u.Ok)∧Bk w b 63 (us.flatMap Dt++tl)
theorem E0p:∀ {us:List UV},(∀u∈us,u.Ok)→(us.flatMap Dt).length=us.length*129:=by
 intro us;induction us with
 | nil=>intro _;rfl
 | cons u us ih=>
  intro h;have hu:(Dt u).length=129:=(h u (by simp)).len;rw[List.flatMap_cons,List.length_append,ih (fun x hx=>h x (by simp[hx])),hu,List.length_cons];omega
theorem uat:∀ {us:List UV},(∀u∈us,u.Ok)→∀ {i:Nat} {u:UV},us[i]?=some u→((us.flatMap Dt).drop (i*129)).take 129=Dt u:=by
 intro us;induction us with
 | nil=>intro _ i u h;simp at h
 | cons x us ih=>
  intro h i u hi;have hx:(Dt x).length=129:=(h x (by simp)).len;cases i with
  | zero=>
   obtain rfl:x=u:=by simpa using hi
   rw[List.flatMap_cons,Nat.zero_mul,List.drop_zero,List.take_append_of_le_length (by omega),List.take_of_length_le (by omega)]
  | succ i=>
   have:=ih (fun y hy=>h y (by simp[hy])) (i:=i) (u:=u) (by simpa using hi);rw[List.flatMap_cons,List.drop_append,List.drop_eq_nil_of_le (by omega),hx];have e:(i+1)*129-129=i*129:=by omega
   rw[e,List.nil_append,this]
section
variable {w w' : World} {b : Nat} {us : List UV} {tl : List Value}
theorem UH.below {B:Nat} (h:UH w b us tl) (hb:Below B w w') (hg:b<B):UH w' b us tl:=⟨h.1,h.2.below hb hg⟩
theorem UH.row (h:UH w b us tl) {i:Nat} {u:UV} (hk:us[i]?=some u):I6 w ⟨b,i*129,none⟩ 129=some (Dt u):=by
 have hi:i<us.length:=(List.getElem?_eq_some_iff.1 hk).1;have hl:=E0p h.1;rw[h.2.row (by rw[List.length_append,hl];omega)];congr 1;have aA:=uat h.1 hk;rw[List.drop_append_of_le_length (by omega),List.take_append_of_le_length (by rw[List.length_drop];omega)];exact aA
end
end
section
set_option maxRecDepth 100000
set_option maxHeartbeats 0
def eu6:Ev:=⟨[72,55,23,160,128,104,122,58,207,12,151,181,203,74,20,136,93,92,164,119,247,177,56,42,219,198,179,86,110,190,113,92],[203,16,192,68,229,245,19,17,68,6,58,190,158,31,252,137,224,125,1,214,233,73,17,107,125,147,180,108,247,32,202,29],[128,57,220,5,109,28,74,85,126,161,142,212,240,233,103,193,206,36,194,98,81,116,103,23,2,225,68,186,146,19,79,212],[119,105,116,97,110,1,0,0,0,0,0,0,0,40,0,0,0,0,0,0,0,1,6,0,0,0,0,0,0,0,0,0,0,0,0,0,0,0,0,0,0,0,0,0,0,0,0,0,0,0,0,0,0,0],[133,237,24,119,12,109,76,14,109,18,202,77,16,67,198,50,169,231,73,130,129,20,135,112,41,202,32,125,3,14,36,80],[189,21,137,52,77,30,114,153,70,199,124,254,249,85,116,54,181,199,84,118,100,245,154,36,232,229,119,76,66,243,64,13],[107,162,141,218,213,216,105,84,253,142,90,2,92,157,42,9,61,51,63,173,180,74,192,239,85,79,212,77,163,5,114,13],[180,234,239,224,36,169,126,172,161,68,2,212,157,218,41,90,249,214,205,95,59,234,28,104,17,254,128,42,157,191,221,6],[11056933352090703293,3923855707551352646,2637690343609649077,955030587078862312],[6082631184746914411,660513313865240317,17275890310454391613,968843068781645653],⟨594204528753024,1718063492745897,853853373570983,141887259945137,1483177720521806⟩,⟨1543974886786882,1878919642543001,717360693600231,279611795902998,245200418970410⟩,⟨⟨707824926898347,372880171142246,1534439120085016,1972188017782249,2006599394714837⟩,⟨594204528753024,1718063492745897,853853373570983,141887259945137,1483177720521806⟩,⟨1,0,0,0,0⟩,⟨1872657067350342,1449699142520187,1838800545111307,2189926428128563,2174270549378557⟩⟩,⟨⟨1543974886786882,1878919642543001,717360693600231,279611795902998,245200418970410⟩,⟨594204528753024,1718063492745897,853853373570983,141887259945137,1483177720521806⟩,⟨1,0,0,0,0⟩,⟨379142746334887,802100671165060,412999268573940,61873385556684,77529264306690⟩⟩⟩
theorem E0r:Og (Bp 6 3) 1 (h1 6)=⟨eu6.B,1,h1 6,eu6.F++eu6.SB⟩∧U8 (Og (Bp 6 3) 1 (h1 6))=true:=Ev.upd (by decide +kernel) (by decide +kernel) (by decide +kernel) (by decide +kernel) (by decide +kernel) (by decide +kernel)
end
end Go.Proofs.YtlegpkdighoflaaGreat
