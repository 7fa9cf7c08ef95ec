/- A part of the proof of DirPlays. -/
import Derived.Test.YtlegpkdighoflaaGreatRbd
set_option linter.unusedVariables false
set_option linter.unusedSimpArgs false
set_option maxRecDepth 100000
set_option maxHeartbeats 40000000
namespace Go.Proofs.YtlegpkdighoflaaGreat
open Go Go.RowKit Sh
section
def UH (w:World) (b:Nat) (us:List UV) (tl:List Value):Prop:=(∀u∈us,u.Ok)∧Bk w b 63 (us.flatMap Ch++tl)
theorem F7j:∀ {us:List UV},(∀u∈us,u.Ok)→(us.flatMap Ch).length=us.length*129:=by
 intro us;induction us with
 | nil=>intro _;rfl
 | cons u us ih=>
  intro h;have hu:(Ch u).length=129:=(h u (by simp)).len;rw[List.flatMap_cons,List.length_append,ih (fun x hx=>h x (by simp[hx])),hu,List.length_cons];omega
theorem uat:∀ {us:List UV},(∀u∈us,u.Ok)→∀ {i:Nat} {u:UV},us[i]?=some u→((us.flatMap Ch).drop (i*129)).take 129=Ch u:=by
 intro us;induction us with
 | nil=>intro _ i u h;simp at h
 | cons x us ih=>
  intro h i u hi;have hx:(Ch x).length=129:=(h x (by simp)).len;cases i with
  | zero=>
   obtain rfl:x=u:=by simpa using hi
   rw[List.flatMap_cons,Nat.zero_mul,List.drop_zero,List.take_append_of_le_length (by omega),List.take_of_length_le (by omega)]
  | succ i=>
   have:=ih (fun y hy=>h y (by simp[hy])) (i:=i) (u:=u) (by simpa using hi);rw[List.flatMap_cons,List.drop_append,List.drop_eq_nil_of_le (by omega),hx];have e:(i+1)*129-129=i*129:=by omega
   rw[e,List.nil_append,this]
section
variable {w w' : World} {b : Nat} {us : List UV} {tl : List Value}
theorem UH.below {B:Nat} (h:UH w b us tl) (hb:Below B w w') (hg:b<B):UH w' b us tl:=⟨h.1,h.2.below hb hg⟩
theorem UH.row (h:UH w b us tl) {i:Nat} {u:UV} (hk:us[i]?=some u):C8 w ⟨b,i*129,none⟩ 129=some (Ch u):=by
 have hi:i<us.length:=(List.getElem?_eq_some_iff.1 hk).1;have hl:=F7j h.1;rw[h.2.row (by rw[List.length_append,hl];omega)];congr 1;have aA:=uat h.1 hk;rw[List.drop_append_of_le_length (by omega),List.take_append_of_le_length (by rw[List.length_drop];omega)];exact aA
end
end
end Go.Proofs.YtlegpkdighoflaaGreat
