/- A part of the proof of DirAnswers. -/
import Derived.Outline
import Derived.Test.YtlegpkdighoflaaGreatPbd
set_option linter.unusedVariables false
set_option linter.unusedSimpArgs false
set_option maxRecDepth 100000
set_option maxHeartbeats 40000000
namespace Go.Proofs.YtlegpkdighoflaaGreat
open Go Go.RowKit Sh
section
def Pt.Ok:Nat→(Nat→Bool)→Pt→Prop
 | _,_,.e=>True
 | d,P,.lf k v=>k.length=32∧v.length=32∧∀i,i<d→P7 k i=P i
 | d,P,.nd l r=>d<256∧l.Ok (d+1) (Yv P d false)∧r.Ok (d+1) (Yv P d true)
 | _,_,.hd h=>h.length=32
theorem Pt.Ok.wf:∀ {p:Pt} {d:Nat} {P:Nat→Bool},p.Ok d P→p.Wf
 | .e,_,_,_=>trivial
 | .lf _ _,_,_,h=>⟨h.1,h.2.1⟩
 | .nd _ _,_,_,h=>⟨h.2.1.wf,h.2.2.wf⟩
 | .hd _,_,_,h=>h
theorem Pt.Ok.dp:∀ {p:Pt} {d:Nat} {P:Nat→Bool},p.Ok d P→p.Dp d
 | .e,_,_,_=>trivial
 | .lf _ _,_,_,h=>trivial
 | .nd _ _,_,_,h=>⟨h.1,h.2.1.dp,h.2.2.dp⟩
 | .hd _,_,_,h=>trivial
section
variable (k v : List UInt8) (hk : k.length = 32) (hv : v.length = 32) (d : Nat) (w : World)
include hk hv
end
theorem Pt.form:∀p:Pt,p.val=.nilIface∨∃t x,p.val=.iface t x
 | .e=>.inl rfl
 | .lf _ _=>.inr ⟨_,_,rfl⟩
 | .nd _ _=>.inr ⟨_,_,rfl⟩
 | .hd _=>.inr ⟨_,_,rfl⟩
end
def Tr.cut:Tr→List (List UInt8)→Nat→Pt
 | .e,_,_=>.e
 | .lf k v,ks,_=>if ks.isEmpty then .hd (Tr.lf k v).root else .lf k v
 | .nd l r,ks,d=>if ks.isEmpty then .hd (Tr.nd l r).root else .nd (l.cut (ks.filter fun x=>!P7 x d) (d+1)) (r.cut (ks.filter fun x=>P7 x d) (d+1))
def Ml:Pt→Tr→Prop
 | .e,.e=>True
 | .lf k v,.lf k' v'=>k=k'∧v=v'
 | .nd l r,.nd l' r'=>Ml l l'∧Ml r r'
 | .hd h,t=>h=t.root
 | _,_=>False
def Pt.knows (k:List UInt8):Nat→Pt→Prop
 | _,.hd _=>False
 | d,.nd l r=>if P7 k d then r.knows k (d+1) else l.knows k (d+1)
 | _,_=>True
theorem Ml.root:∀ {p:Pt} {t:Tr},Ml p t→p.root=t.root
 | .e,.e,_=>rfl
 | .lf _ _,.lf _ _,h=>by obtain⟨rfl,rfl⟩:=h;rfl
 | .nd _ _,.nd _ _,h=>by simp only[Pt.root,Tr.root];rw[Ml.root h.1,Ml.root h.2]
 | .hd h,t,e=>by cases t<;>exact e
 | .e,.lf _ _,h=>h.elim
 | .e,.nd _ _,h=>h.elim
 | .lf _ _,.e,h=>h.elim
 | .lf _ _,.nd _ _,h=>h.elim
 | .nd _ _,.e,h=>h.elim
 | .nd _ _,.lf _ _,h=>h.elim
theorem Ml.ok:∀ {p:Pt} {t:Tr} {d:Nat} {P:Nat→Bool},Ml p t→Ok d P t→p.Ok d P
 | .e,.e,_,_,_,_=>trivial
 | .lf _ _,.lf _ _,_,_,h,ok=>by obtain⟨rfl,rfl⟩:=h;exact ok
 | .nd _ _,.nd _ _,_,_,h,ok=>⟨ok.1,Ml.ok h.1 ok.2.2.1,Ml.ok h.2 ok.2.2.2⟩
 | .hd h,t,_,_,e,_=>by have e':h=t.root:=Ml.root (p:=.hd h) e;subst e';exact t.root_length
 | .e,.lf _ _,_,_,h,_=>h.elim
 | .e,.nd _ _,_,_,h,_=>h.elim
 | .lf _ _,.e,_,_,h,_=>h.elim
 | .lf _ _,.nd _ _,_,_,h,_=>h.elim
 | .nd _ _,.e,_,_,h,_=>h.elim
 | .nd _ _,.lf _ _,_,_,h,_=>h.elim
theorem Ux:∀(t:Tr) (ks:List (List UInt8)) (d:Nat),Ml (t.cut ks d) t
 | .e,_,_=>trivial
 | .lf k v,ks,d=>by
  by_cases h:ks.isEmpty=true<;>simp only[Tr.cut,h,if_true,if_false,Bool.false_eq_true]
  ·exact rfl
  ·exact ⟨rfl,rfl⟩
 | .nd l r,ks,d=>by
  by_cases h:ks.isEmpty=true<;>simp only[Tr.cut,h,if_true,if_false,Bool.false_eq_true]
  ·exact rfl
  ·exact ⟨Ux l _ _,Ux r _ _⟩
theorem Xd {k:List UInt8}:∀(t:Tr) (ks:List (List UInt8)) (d:Nat),k∈ks→(t.cut ks d).knows k d
 | .e,_,_,_=>trivial
 | .lf _ _,ks,d,hk=>by
  have h:ks.isEmpty=false:=by cases ks with | nil=>cases hk | cons _ _=>rfl
  simp only[Tr.cut,h,if_false,Bool.false_eq_true];trivial
 | .nd l r,ks,d,hk=>by
  have h:ks.isEmpty=false:=by cases ks with | nil=>cases hk | cons _ _=>rfl
  simp only[Tr.cut,h,if_false,Bool.false_eq_true,Pt.knows];by_cases hb:P7 k d=true
  ·simp only[hb,if_true];exact Xd r _ _ (List.mem_filter.2 ⟨hk,hb⟩)
  ·simp only[hb,if_false,Bool.false_eq_true];exact Xd l _ _ (List.mem_filter.2 ⟨hk,by simpa using hb⟩)
def Uz:Option (List UInt8)→List UInt8×Bool×Nat
 | some v=>(v,true,0)
 | none=>(z8 32,false,0)
theorem C8d (k:List UInt8) (d:Nat) (l r:Tr):(Tr.nd l r).look k d=if P7 k d then r.look k (d+1) else l.look k (d+1):=by
 unfold Tr.look;by_cases hb:P7 k d=true<;>simp only[Tr.lead,hb,if_true,if_false,Bool.false_eq_true]
theorem A2q {k:List UInt8}:∀ {p:Pt} {t:Tr} {d:Nat},Ml p t→p.knows k d→p.get k d=Uz (t.look k d)
 | .e,.e,_,_,_=>rfl
 | .lf k' v,.lf _ _,_,h,_=>by
  obtain⟨rfl,rfl⟩:=h;simp only[Pt.get,Tr.look,Tr.lead];by_cases e:k'=k<;>simp[e,Uz]
 | .nd l r,.nd l' r',d,h,hk=>by
  rw[C8d];simp only[Pt.get,Pt.knows]at hk ⊢;by_cases hb:P7 k d=true
  ·simp only[hb,if_true]at hk ⊢;exact A2q h.2 hk
  ·simp only[hb,if_false,Bool.false_eq_true]at hk ⊢;exact A2q h.1 hk
 | .hd h,_,_,_,hk=>hk.elim
 | .e,.lf _ _,_,h,_=>h.elim
 | .e,.nd _ _,_,h,_=>h.elim
 | .lf _ _,.e,_,h,_=>h.elim
 | .lf _ _,.nd _ _,_,h,_=>h.elim
 | .nd _ _,.e,_,h,_=>h.elim
 | .nd _ _,.lf _ _,_,h,_=>h.elim
def Pt.isE:Pt→Bool | .e=>true | _=>false
def Pt.isLf:Pt→Bool | .lf _ _=>true | _=>false
def ill (l r:Pt):Bool:=l.isE&&(r.isE||r.isLf)||r.isE&&l.isLf
def Pt.Tight:Pt→Prop
 | .nd l r=>ill l r=false∧l.Tight∧r.Tight
 | _=>True
theorem Ml.tight:∀ {p:Pt} {t:Tr} {d:Nat} {P:Nat→Bool},Ml p t→Ok d P t→p.Tight
 | .e,.e,_,_,_,_=>trivial
 | .lf _ _,.lf _ _,_,_,h,ok=>trivial
 | .nd l r,.nd l' r',_,_,h,ok=>by
  refine ⟨?_,Ml.tight h.1 ok.2.2.1,Ml.tight h.2 ok.2.2.2⟩;have hlen:=ok.2.1;have h1:=h.1;have h2:=h.2;clear h ok;cases l<;>cases r<;>cases l'<;>cases r'<;>first | rfl | exact h1.elim | exact h2.elim | (simp[Tr.len]at hlen)
 | .hd h,t,_,_,e,_=>trivial
 | .e,.lf _ _,_,_,h,_=>h.elim
 | .e,.nd _ _,_,_,h,_=>h.elim
 | .lf _ _,.e,_,_,h,_=>h.elim
 | .lf _ _,.nd _ _,_,_,h,_=>h.elim
 | .nd _ _,.e,_,_,h,_=>h.elim
 | .nd _ _,.lf _ _,_,_,h,_=>h.elim
theorem Ml.size:∀ {p:Pt} {t:Tr} {d:Nat} {P:Nat→Bool},Ml p t→Ok d P t→d≤256→p.bytes.length≤33+t.len*(65+17*(256-d))
 | .e,.e,_,_,_,_,_=>by simp[Pt.bytes];omega
 | .lf _ _,.lf _ _,_,_,h,ok,_=>by
  obtain⟨rfl,rfl⟩:=h;simp only[Pt.bytes,List.length_append,List.length_cons,List.length_nil,ok.1,ok.2.1,Tr.len];omega
 | .nd l r,.nd l' r',d,_,h,ok,_=>by
  have h1:=Ml.size h.1 ok.2.2.1 (by have:=ok.1;omega);have h2:=Ml.size h.2 ok.2.2.2 (by have:=ok.1;omega);have h3:=ok.2.1;have h4:=ok.1;simp only[Pt.bytes,List.length_append,List.length_cons,List.length_nil,Tr.len];obtain⟨c,hc⟩:=F9 (65+17*(256-(d+1)));have aA:65+17*(256-d)=c+17:=by omega
  rw[←hc]at h1 h2;rw[aA,Nat.mul_add,Nat.add_mul];omega
 | .hd h,t,_,_,e,_,_=>by
  have e':=Ml.root (p:=.hd h) e;subst e';simp only[Pt.bytes,List.length_append,List.length_cons,List.length_nil,t.root_length];omega
 | .e,.lf _ _,_,_,h,_,_=>h.elim
 | .e,.nd _ _,_,_,h,_,_=>h.elim
 | .lf _ _,.e,_,_,h,_,_=>h.elim
 | .lf _ _,.nd _ _,_,_,h,_,_=>h.elim
 | .nd _ _,.e,_,_,h,_,_=>h.elim
 | .nd _ _,.lf _ _,_,_,h,_,_=>h.elim
def chk (way:List Bool) (key:List UInt8):Bool:=(List.range way.length).all fun i=>P7 key i==way.getD i false
def rd1 (rec:List Bool→List UInt8→Except Nat (Pt×List UInt8)) (way:List Bool):List UInt8→Except Nat (Pt×List UInt8)
 | []=>.error 10
 | k::b=>
  if k=0 then .ok (.e,b)
  else if k=1 then if b.length<64 then .error 10 else if chk way (b.take 32) then .ok (.lf (b.take 32) ((b.drop 32).take 32),b.drop 64) else .error 13
  else if k=2 then match rec (way++[false]) b with
   | .error e=>.error e
   | .ok (l,b1)=>match rec (way++[true]) b1 with
    | .error e=>.error e
    | .ok (r,b2)=>if ill l r then .error 13 else .ok (.nd l r,b2)
  else if k=3 then if b.length<32 then .error 10 else .ok (.hd (b.take 32),b.drop 32)
  else .error 13
def rd:Nat→List Bool→List UInt8→Except Nat (Pt×List UInt8)
 | 0=>rd1 fun _ _=>.error 13
 | f+1=>rd1 (rd f)
def Pe (way:List Bool):Nat→Bool:=fun i=>way.getD i false
theorem Zr {way:List Bool} {key:List UInt8}:chk way key=true↔∀i,i<way.length→P7 key i=Pe way i:=by simp[chk,Pe]
theorem A4e {d:Nat} {P Q:Nat→Bool} (b:Bool) (h:∀i,i<d→P i=Q i):∀i,i<d+1→Yv P d b i=Yv Q d b i:=fun i hi=>by
 unfold Yv;split
 ·rfl
 ·exact h i (by omega)
theorem Pt.Ok.congr:∀ {p:Pt} {d:Nat} {P Q:Nat→Bool},p.Ok d P→(∀i,i<d→P i=Q i)→p.Ok d Q
 | .e,_,_,_,_,_=>trivial
 | .lf _ _,_,_,_,h,he=>⟨h.1,h.2.1,fun i hi=>(h.2.2 i hi).trans (he i hi)⟩
 | .nd _ _,d,P,Q,h,he=>⟨h.1,h.2.1.congr (A4e false he),h.2.2.congr (A4e true he)⟩
 | .hd _,_,_,_,h,_=>h
theorem Sr (way:List Bool) (b:Bool) (i:Nat) (hi:i<way.length+1):Pe (way++[b]) i=Yv (Pe way) way.length b i:=by
 unfold Pe Yv;split
 ·rename_i e;subst e;simp[List.getD_eq_getElem?_getD]
 ·rename_i e
  have:i<way.length:=by omega
  simp[List.getD_eq_getElem?_getD,List.getElem?_append_left this]
theorem C0y:∀(f:Nat) (way:List Bool) (b:List UInt8) (p:Pt) (rest:List UInt8),f+way.length=256→rd f way b=.ok (p,rest)→b=p.bytes++rest∧p.Ok way.length (Pe way)∧p.Tight:=by
 intro f;induction f with
 | zero=>
  intro way b p rest hf h;cases b with
  | nil=>cases h
  | cons k b=>
   simp only[rd,rd1]at h;split at h
   ·injection h with h;injection h with h1 h2;subst h1 h2;rename_i e;subst e;exact ⟨rfl,trivial,trivial⟩
   split at h
   ·split at h
    ·cases h
    split at h
    ·rename_i hl hc
     injection h with h;injection h with h1 h2;subst h1 h2;rename_i e0 e;subst e;refine ⟨?_,⟨by simp;omega,by simp;omega,Zr.1 hc⟩,trivial⟩;have e1:b.drop 64=(b.drop 32).drop 32:=by rw[List.drop_drop]
     simp only[Pt.bytes,List.cons_append,List.nil_append,List.append_assoc];rw[e1,List.take_append_drop,List.take_append_drop]
    ·cases h
   split at h
   ·cases h
   split at h
   ·split at h
    ·cases h
    ·rename_i hl
     injection h with h;injection h with h1 h2;subst h1 h2;rename_i e;subst e;refine ⟨?_,(by simp[Pt.Ok];omega),trivial⟩;simp only[Pt.bytes,List.cons_append,List.nil_append];rw[List.take_append_drop]
   ·cases h
 | succ f ih=>
  intro way b p rest hf h;cases b with
  | nil=>cases h
  | cons k b=>
   simp only[rd,rd1]at h;split at h
   ·injection h with h;injection h with h1 h2;subst h1 h2;rename_i e;subst e;exact ⟨rfl,trivial,trivial⟩
   split at h
   ·split at h
    ·cases h
    split at h
    ·rename_i hl hc
     injection h with h;injection h with h1 h2;subst h1 h2;rename_i e0 e;subst e;refine ⟨?_,⟨by simp;omega,by simp;omega,Zr.1 hc⟩,trivial⟩;have e1:b.drop 64=(b.drop 32).drop 32:=by rw[List.drop_drop]
     simp only[Pt.bytes,List.cons_append,List.nil_append,List.append_assoc];rw[e1,List.take_append_drop,List.take_append_drop]
    ·cases h
   split at h
   ·rename_i e;subst e
    split at h
    ·cases h
    ·rename_i l b1 h1
     split at h
     ·cases h
     ·rename_i r b2 h2
      split at h
      ·cases h
      ·rename_i hi
       injection h with h;injection h with h3 h4;subst h3 h4;obtain⟨e1,o1,t1⟩:=ih _ _ _ _ (by simp;omega) h1;obtain⟨e2,o2,t2⟩:=ih _ _ _ _ (by simp;omega) h2;simp only[List.length_append,List.length_cons,List.length_nil,Nat.zero_add]at o1 o2;refine ⟨by rw[e1,e2];simp[Pt.bytes],⟨by omega,o1.congr fun i hi=>Sr _ _ i hi,o2.congr fun i hi=>Sr _ _ i hi⟩,by simpa using hi,t1,t2⟩
   split at h
   ·split at h
    ·cases h
    ·rename_i hl
     injection h with h;injection h with h1 h2;subst h1 h2;rename_i e;subst e;refine ⟨?_,(by simp[Pt.Ok];omega),trivial⟩;simp only[Pt.bytes,List.cons_append,List.nil_append];rw[List.take_append_drop]
   ·cases h
theorem B1e {rec:List Bool→List UInt8→Except Nat (Pt×List UInt8)} {way:List Bool} {k v rest:List UInt8} (hk:k.length=32) (hv:v.length=32) (h:chk way k=true):rd1 rec way ((Pt.lf k v).bytes++rest)=.ok (.lf k v,rest):=by
 have e0:(Pt.lf k v).bytes++rest=1::(k++(v++rest)):=by simp[Pt.bytes]
 rw[e0];have e1:(k++(v++rest)).take 32=k:=by rw[←hk,List.take_left]
 have e2:(k++(v++rest)).drop 32=v++rest:=by rw[←hk,List.drop_left]
 have e3:(v++rest).take 32=v:=by rw[←hv,List.take_left]
 have e4:(k++(v++rest)).drop 64=rest:=by rw[show (64:Nat)=32+32 from rfl,←List.drop_drop,e2,←hv,List.drop_left]
 have e5:¬ (k++(v++rest)).length<64:=by simp[hk,hv];omega
 simp only[rd1,e1,e2,e3,e4,e5,h,if_false,if_true];rfl
theorem A2c {rec:List Bool→List UInt8→Except Nat (Pt×List UInt8)} {way:List Bool} {h rest:List UInt8} (hh:h.length=32):rd1 rec way ((Pt.hd h).bytes++rest)=.ok (.hd h,rest):=by
 have e0:(Pt.hd h).bytes++rest=3::(h++rest):=by simp[Pt.bytes]
 rw[e0];have e1:(h++rest).take 32=h:=by rw[←hh,List.take_left]
 have e2:(h++rest).drop 32=rest:=by rw[←hh,List.drop_left]
 have e5:¬ (h++rest).length<32:=by simp[hh]
 simp only[rd1,e1,e2,e5,if_false,if_true];rfl
theorem B0h:∀(f:Nat) (way:List Bool) (p:Pt) (rest:List UInt8),f+way.length=256→p.Ok way.length (Pe way)→p.Tight→rd f way (p.bytes++rest)=.ok (p,rest):=by
 intro f;induction f with
 | zero=>
  intro way p rest hf ok ht;cases p with
  | e=>rfl
  | lf k v=>exact B1e ok.1 ok.2.1 (Zr.2 ok.2.2)
  | hd h=>exact A2c ok
  | nd l r=>exact absurd ok.1 (by omega)
 | succ f ih=>
  intro way p rest hf ok ht;cases p with
  | e=>rfl
  | lf k v=>exact B1e ok.1 ok.2.1 (Zr.2 ok.2.2)
  | hd h=>exact A2c ok
  | nd l r=>
   have h1:=ih (way++[false]) l (r.bytes++rest) (by simp;omega) (by simp only[List.length_append,List.length_cons,List.length_nil,Nat.zero_add];exact ok.2.1.congr fun i hi=>(Sr _ _ i hi).symm) ht.2.1;have h2:=ih (way++[true]) r rest (by simp;omega) (by simp only[List.length_append,List.length_cons,List.length_nil,Nat.zero_add];exact ok.2.2.congr fun i hi=>(Sr _ _ i hi).symm) ht.2.2;have e0:(Pt.nd l r).bytes++rest=2::(l.bytes++(r.bytes++rest)):=by simp[Pt.bytes]
   rw[e0];simp only[rd,rd1,h1,h2,ht.1];rfl
theorem C5n {f:Nat} {way:List Bool} {b:List UInt8} {e:Nat}:rd f way b=.error e→e=10∨e=13:=by
 induction f generalizing way b e with
 | zero=>
  intro h;cases b with
  | nil=>injection h with h;exact .inl h.symm
  | cons k b=>
   simp only[rd,rd1]at h;repeat' (split at h)
   all_goals first | cases h;done | (injection h with h;subst h;first | exact .inl rfl | exact .inr rfl)
 | succ f ih=>
  intro h;cases b with
  | nil=>injection h with h;exact .inl h.symm
  | cons k b=>
   simp only[rd,rd1]at h;split at h
   ·cases h
   split at h
   ·split at h
    ·injection h with h;exact .inl h.symm
    ·split at h
     ·cases h
     ·injection h with h;exact .inr h.symm
   split at h
   ·split at h
    ·rename_i h1;injection h with h;subst h;exact ih h1
    ·split at h
     ·rename_i h1;injection h with h;subst h;exact ih h1
     ·split at h
      ·injection h with h;exact .inr h.symm
      ·cases h
   split at h
   ·split at h
    ·injection h with h;exact .inl h.symm
    ·cases h
   ·injection h with h;exact .inr h.symm
section
def RH (w:World) (g:Nat) (L:List (List UInt8)) (tl:List Value):Prop:=(∀k∈L,k.length=32)∧Bk w g 23 (c8 L.flatten++tl)
section
variable {w w' : World} {g : Nat} {L : List (List UInt8)} {tl : List Value}
theorem RH.lt (h:RH w g L tl):g<w.heap.size:=h.2.lt
theorem RH.below {B:Nat} (h:RH w g L tl) (hb:Below B w w') (hg:g<B):RH w' g L tl:=⟨h.1,h.2.below hb hg⟩
theorem RH.row (h:RH w g L tl) {i:Nat} {k:List UInt8} (hk:L[i]?=some k):J1 w ⟨g,i*32,none⟩ 32=some (c8 k):=by
 have hi:i<L.length:=(List.getElem?_eq_some_iff.1 hk).1;have hl:=Bt h.1;rw[h.2.row (by simp[hl];omega)];congr 1;have aA:=B0l h.1 hk;rw[List.drop_append_of_le_length (by simp[hl];omega),List.take_append_of_le_length (by simp[hl];omega)];rw[←aA];simp[c8,List.map_drop,List.map_take]
theorem RH.can (h:RH w g L tl) {i:Nat} (hi:i<L.length):T5 w ⟨g,i*32,none⟩ 32=true:=h.2.can (by simp[Bt h.1];omega)
theorem RH.can_to (h:RH w g L tl) {i n:Nat} (hi:i+n≤L.length):T5 w ⟨g,i*32,none⟩ (n*32)=true:=h.2.can (by simp[Bt h.1];omega)
theorem B9i:∀ {L:List (List UInt8)} (_:∀k∈L,k.length=32) {i:Nat} (x:List UInt8),x.length=32→i<L.length→L.flatten.take (i*32)++x++L.flatten.drop (i*32+32)=(L.set i x).flatten:=by
 intro L;induction L with
 | nil=>intro _ i x _ hi;simp at hi
 | cons q L ih=>
  intro h i x hx hi;have hq:=h q (by simp);cases i with
  | zero=>simp[←hq,List.drop_left]
  | succ i=>
   have:=ih (fun k hk=>h k (by simp[hk])) (i:=i) x hx (by simpa using hi);simp only[List.flatten_cons,List.set_cons_succ];rw[←this];have e1:(i+1)*32=q.length+i*32:=by omega
   have e2:(i+1)*32+32=q.length+(i*32+32):=by omega
   rw[e2,e1,List.take_append,List.drop_append];simp[List.take_of_length_le,List.drop_eq_nil_of_le]
theorem RH.set (h:RH w g L tl) {i:Nat} {x:List UInt8} (hx:x.length=32) (hi:i<L.length):RH (D8 w ⟨g,i*32,none⟩ (c8 x)) g (L.set i x) tl:=by
 refine ⟨fun k hk=>?_,?_⟩
 ·rcases List.mem_or_eq_of_mem_set hk with h1 | rfl
  ·exact h.1 k h1
  ·exact hx
 ·have hl:=Bt h.1;have:=h.2.put (o:=i*32) (vs:=c8 x) (by simp[hl,hx];omega);have e:(c8 L.flatten++tl).take (i*32)++c8 x++(c8 L.flatten++tl).drop (i*32+(c8 x).length)=c8 (L.set i x).flatten++tl:=by rw[←B9i h.1 x hx hi,J0,hx,List.take_append_of_le_length (by simp[hl];omega),List.drop_append_of_le_length (by simp[hl];omega)];simp[c8,List.map_drop,List.map_take]
  rw[e]at this;exact this
theorem Cb (w:World) (g o:Nat) (vs:List Value):w.grownBy (D8 w ⟨g,o,none⟩ vs) (some g):=by
 have h:=C5 (a:=⟨g,o,none⟩) (Below.refl 0 w) (Nat.zero_le _) vs;exact ⟨h.os,h.tape,h.output,h.size,fun k hk hne=>Dm _ _ _ _ _ (fun e=>hne (by rw[e]))⟩
theorem c8z (n:Nat):c8 (z8 n)=List.replicate n (v8 0):=by simp[c8,z8]
theorem RH.clear (h:RH w g L tl) {i n:Nat} (hi:i+n=L.length):∃L',L'.take i=L.take i∧L'.length=L.length∧RH (D8 w ⟨g,i*32,none⟩ (c8 (z8 (n*32)))) g L' tl:=by
 induction n generalizing w L i with
 | zero=>exact ⟨L,rfl,rfl,by simpa [z8,c8,D8,World.setCells] using h⟩
 | succ n ih=>
  have h1:=h.set (i:=i) (x:=z8 32) (by simp) (by omega);obtain⟨L',e1,e2,h2⟩:=ih h1 (i:=i+1) (by simp;omega);refine ⟨L',?_,by simpa using e2,?_⟩
  ·have:=congrArg (List.take i) e1;rw[List.take_take,List.take_take]at this;simpa [List.take_set_of_le] using this
  ·have e:D8 w ⟨g,i*32,none⟩ (c8 (z8 ((n+1)*32)))=D8 (D8 w ⟨g,i*32,none⟩ (c8 (z8 32))) ⟨g,(i+1)*32,none⟩ (c8 (z8 (n*32))):=by
    have hz:c8 (z8 ((n+1)*32))=c8 (z8 32)++c8 (z8 (n*32)):=by rw[c8z,c8z,c8z,show (n+1)*32=32+n*32 by omega];exact (List.replicate_append_replicate).symm
    have hs:∀(a b:List Value) (o:Nat) (w:World),w.setCells g o (a++b)=(w.setCells g o a).setCells g (o+a.length) b:=by
     intro a;induction a with
     | nil=>intro b o w;rfl
     | cons v a ih=>intro b o w;simp only[List.cons_append,World.setCells,ih,List.length_cons];rw[show o+1+a.length=o+(a.length+1) by omega]
    unfold D8;rw[hz,hs];simp[Nat.add_mul]
   rw[e];exact h2
end
theorem A3h {w:World} {g o n c:Nat} (ty:TypeId) (h:T5 w ⟨g,o,none⟩ (n*32)=true):(Builtin.clear_ #[42] ty #[.slice (some ⟨g,o,none⟩) n c]).run Tryz.prog w=.ok (.tuple #[]) (D8 w ⟨g,o,none⟩ (c8 (z8 (n*32)))):=by
 have hc:=Wt.1 h;obtain⟨z,aA⟩:=F9 (A8 (z8 32));have aB:z.cells=(List.replicate 32 (v8 0)).toArray:=by rw[aA];exact congrArg List.toArray (c8z 32)
 have hz:(Builtin.zeroCells z.cells n).toList=c8 (z8 (n*32)):=by
  rw[c8z];apply List.ext_getElem
  ·simp[Builtin.zeroCells,aB]
  ·intro i h1 h2;have aD:i % 32<32:=Nat.mod_lt _ (by omega);simp[Builtin.zeroCells,aB,getElem!_pos,aD,-List.reduceReplicate]
 have aC:=run_storeCells_cells (P:=Tryz.prog) g o (c8 (z8 (n*32))) 0 w (fun j hj=>by simpa using (hc j (by simpa using hj)).1) (fun j hj=>by simpa using (hc j (by simpa using hj)).2) (by intro u hu;obtain⟨x,_,rfl⟩:=List.mem_map.1 hu;rfl);simp only[Nat.add_zero]at aC;cases n with
 | zero=>simp[Builtin.clear_,run_underlying Tryz.underlying42,z8,c8,D8,World.setCells]
 | succ n=>
  have aE:∀w,(zeroValue 23).run Tryz.prog w=.ok z w:=fun w=>by rw[aA];kernel_rfl
  simp[Builtin.clear_,run_underlying Tryz.underlying42,aE,hz,aC,D8]
section
variable (c : Nat) (la : Value) (p : List UInt8 → Bool) (eg : ∀ args w, (callFunc c args).run Tryz.prog w = .ok (.enter c args) w) (base : Nat) (w0 : World) (HP : ∀ W x, x.length = 32 → Below base w0 W → Calls Tryz.prog c #[A8 x, la] W fun e w' => e = .returned (.bool (p x)) ∧ Below W.heap.size W w')
include eg HP
theorem C9r (g cap:Nat) (ks:List (List UInt8)) (tl:List Value) (hn:ks.length≤1099511627776) (w:World) (hbs:base≤w.heap.size) (h0:Below base w0 w) (hR:RH w g ks tl) :
 Calls Tryz.prog 118 #[.slice (some ⟨g,0,none⟩) ks.length cap,.func (.func c) #[] #[la]] w fun e w'=>∃r:Int,e=.returned (.int .i64 r)∧Below w.heap.size w w'∧
  ((r=-1∧∀k∈ks,p k=false)∨∃(i:Nat) (k:List UInt8),r=(i:Int)∧ks[i]?=some k∧p k=true∧∀k∈ks.take i,p k=false):=by
 have aB:=Lib.hid HP;clear HP;go_enter Tryz.func118,Tryz.ntmps118;go_wp2_with fail;go_loopw [8] (fun t wr=>∃i:Nat,i≤ks.length∧t=.int .i64 (i:Int)∧(∀k∈ks.take i,p k=false)∧Below w.heap.size w wr) (fun t _=>ks.length-(intOf t).toNat)
 case atStart=>exact ⟨0,by omega,rfl,by simp,Below.refl _ _⟩
 case round=>
  obtain⟨i,hi,rfl,he,hb⟩:=hrel;by_cases hlt:i<ks.length
  ·obtain⟨k,hk⟩:∃k,ks[i]?=some k:=⟨_,List.getElem?_eq_getElem hlt⟩;have aC:=(hR.below hb hR.lt).row hk;have aD:=hR.1 k (List.mem_of_getElem? hk);have aA:=aB.out wr k aD (h0.trans (hb.mono hbs));have HK:=Lib.hid hk;have HE:=Lib.hid he;clear hk he;cases hq:p k with
   | true=>
    rw[hq]at aA;go_wp2_with (go_at_fn c;refine aA.mono ?_;rintro e w' ⟨rfl,hb'⟩);go_ret;exact ⟨_,rfl,hb.trans (hb'.mono hb.size),.inr ⟨i,k,rfl,HK.out,hq,HE.out⟩⟩
   | false=>
    rw[hq]at aA;go_wp2_with (go_at_fn c;refine aA.mono ?_;rintro e w' ⟨rfl,hb'⟩);go_roundw;case rel=>
     refine ⟨i+1,by omega,by go_num,fun x hx=>?_,hb.trans (hb'.mono hb.size)⟩;rw[Ii HK.out]at hx;rcases List.mem_append.1 hx with hx | hx
     ·exact HE.out x hx
     ·simp at hx;subst hx;exact hq
    case measure=>simp[intOf];omega
  ·obtain rfl:i=ks.length:=by omega
   go_wp2_with fail;go_ret;exact ⟨_,rfl,hb,.inl ⟨rfl,by simpa using he⟩⟩
theorem B5l (g cap:Nat) (ks:List (List UInt8)) (tl:List Value) (hn:ks.length≤1099511627776) (hc1:ks.length≤cap) (hc2:cap≤9223372036854775807) (w:World) (hbs:base≤g) (h0:Below base w0 w) (hR:RH w g ks tl) :
 Calls Tryz.prog 84 #[.slice (some ⟨g,0,none⟩) ks.length cap,.func (.func c) #[] #[la]] w fun e w'=>∃(m:Nat) (L:List (List UInt8)),e=.returned (.slice (some ⟨g,0,none⟩) m cap)∧m=(ks.filter fun k=>!p k).length∧w.grownBy w' (some g)∧RH w' g L tl∧L.length=ks.length∧L.take m=ks.filter fun k=>!p k:=by
 have aP:=hR.lt;have aG:=C9r c la p eg base w0 HP g cap ks tl hn w (by omega) h0 hR;have aX:=Lib.hid HP;have HI:=Lib.hid aG;clear HP aG;go_enter Tryz.func84,Tryz.ntmps84;go_wp2_with fail;refine HI.out.mono ?_;rintro e w1 ⟨r,rfl,aC,hr⟩;clear HI;rcases hr with ⟨rfl,hall⟩ | ⟨i0,k0,rfl,hk0,hp0,hpre⟩
 ·have e:(ks.filter fun k=>!p k)=ks:=List.filter_eq_self.2 fun k hk=>by simp[hall k hk]
  have aJ:w.grownBy w1 (some g):=⟨aC.os,aC.tape,aC.output,aC.size,fun k hk _=>aC.block k hk⟩;go_wp2_with fail;go_ret;exact ⟨ks.length,ks,rfl,by rw[e],aJ,hR.below aC aP,rfl,by rw[e];simp⟩
 ·have aY:i0<ks.length:=(List.getElem?_eq_some_iff.1 hk0).1;have aL:((i0:Int) == -1)=false:=beq_eq_false_iff_ne.2 (by omega);have aQ:Hid (ks.take i0=(ks.take (i0+1)).filter fun k=>!p k):=Lib.hid (by
   rw[Ii hk0,List.filter_append];have:(ks.take i0).filter (fun k=>!p k)=ks.take i0:=List.filter_eq_self.2 fun k hk=>by simp[hpre k hk]
   rw[this];simp[hp0])
  have aR:=hR.below aC aP;have aH:w.grownBy w1 (some g):=⟨aC.os,aC.tape,aC.output,aC.size,fun k hk _=>aC.block k hk⟩;clear hk0 hp0 hpre;go_wp2_with fail;go_loopw [5,6] (fun t5 t6 wr=>∃(i j:Nat) (L:List (List UInt8)),t5=.int .i64 (i:Int)∧t6=.int .i64 (j:Int)∧i<j∧j≤ks.length∧Hid (L.take i=(ks.take j).filter fun k=>!p k)∧Hid (L.drop j=ks.drop j)∧L.length=ks.length∧RH wr g L tl∧w.grownBy wr (some g)) (fun _ t6 _=>ks.length-(intOf t6).toNat)
  case atStart=>exact ⟨i0,i0+1,ks,rfl,by go_num,by omega,by omega,aQ,Lib.hid rfl,rfl,aR,aH⟩
  case round=>
   clear aQ aR aH aC aY aL;obtain⟨i,j,L,rfl,rfl,bE,bF,hT,hD,aS,aE,aM⟩:=hrel;by_cases hlt:j<ks.length
   ·obtain⟨x,hx⟩:∃x,L[j]?=some x:=⟨_,List.getElem?_eq_getElem (by omega)⟩;have aT:Hid (ks[j]?=some x):=Lib.hid (by have:=congrArg (·[0]?) hD.out;simpa [List.getElem?_drop,hx] using this.symm);have aN:=aE.row hx;have aI:=aE.1 x (List.mem_of_getElem? hx);have aD:=aE.can (i:=i) (by omega);have aZ:=aE.lt;obtain⟨wb,aF⟩:=F9 (D8 (wr.alloc (Obj.cells (c8 (z8 32)).toArray 23)) ⟨wr.heap.size,0,none⟩ (c8 x));have KX:Bk wb wr.heap.size 23 (c8 x):=by rw[aF];exact Bk.fresh wr _ (by simp[aI])
    have BX:Below wr.heap.size wr wb:=by rw[aF];exact C5 (Aw _ _) (Nat.le_refl _) _
    have bA:Below base w0 wr:=h0.grown aM (by omega) (fun k hk=>by injection hk with hk;omega);have aA:=aX.out wb x aI (bA.trans (BX.mono (by omega)));have HX:=Lib.hid hx;clear hx;have aK:=aE.below BX aZ;have aU:J1 (D8 (wr.alloc (Obj.cells (c8 (z8 32)).toArray 23)) ⟨wr.heap.size,0,none⟩ (c8 x)) ⟨wr.heap.size,0,none⟩ 32=some (c8 x):=by rw[←aF];have:=KX.rows;rwa [J0,aI]at this
    have aJ:w.grownBy wb (some g):=aM.trans ⟨BX.os,BX.tape,BX.output,BX.size,fun k hk _=>BX.block k hk⟩;have aV:Hid (L.drop (j+1)=ks.drop (j+1)):=Lib.hid (by have:=congrArg (List.drop 1) hD.out;simpa [List.drop_drop,Nat.add_comm] using this);cases hq:p x with
    | true=>
     rw[hq]at aA;go_wp2_with fail;rw[←aF];clear aF aU;refine aA.mono ?_;rintro e w' ⟨rfl,aB⟩;go_wp2_with fail;go_roundw;case rel=>exact ⟨i,j+1,L,rfl,by go_num,by omega,by omega,Lib.hid (by rw[Ii aT.out,List.filter_append,hT.out];simp[hq]),aV,aS,aK.below aB aK.lt,aJ.trans ⟨aB.os,aB.tape,aB.output,aB.size,fun k hk _=>aB.block k hk⟩⟩
     case measure=>simp[intOf];omega
    | false=>
     rw[hq]at aA;go_wp2_with fail;rw[←aF];clear aF aU;refine aA.mono ?_;rintro e w' ⟨rfl,aB⟩;have aO:=aK.below aB aK.lt;have bG:J1 w' ⟨wr.heap.size,0,none⟩ 32=some (c8 x):=by have:=(KX.bl aB).rows;rwa [J0,aI]at this
     have bH:=aO.can (i:=i) (by omega);have bB:w.grownBy w' (some g):=aJ.trans ⟨aB.os,aB.tape,aB.output,aB.size,fun k hk _=>aB.block k hk⟩;have bC:=aO.lt;clear aD aN;go_wp2_with fail;go_roundw;case rel=>
      refine ⟨i+1,j+1,L.set i x,by go_num,by go_num,by omega,by omega,Lib.hid ?_,Lib.hid ?_,by simp[aS],aO.set aI (by omega),bB.trans (Cb _ _ _ _)⟩
      ·rw[Ii aT.out,List.filter_append,←hT.out,Ii (q:=x) (by simp[show i<L.length by omega]),List.take_set_of_le (Nat.le_refl _)];simp[hq]
      ·rw[List.drop_set_of_lt (by omega)];exact aV.out
     case measure=>simp[intOf];omega
   ·obtain rfl:j=ks.length:=by omega
    have aD:=aE.can_to (i:=i) (n:=ks.length-i) (by omega);have bI:∀ty,(Builtin.clear_ #[42] ty #[.slice (some ⟨g,i*32,none⟩) (ks.length-i) (cap-i)]).run Tryz.prog wr=_:=fun ty=>A3h ty aD;obtain⟨L',e1,e2,bD⟩:=aE.clear (i:=i) (n:=ks.length-i) (by omega);have aW:=Lib.hid (show L'.take i=ks.filter fun k=>!p k by rw[e1,hT.out,List.take_length]);clear aD;go_wp2_with fail;go_ret;refine ⟨i,L',rfl,?_,aM.trans (Cb _ _ _ _),bD,by omega,aW.out⟩;rw[←aW.out];simp;omega
end
theorem RH.of_own {w:World} {base:Nat} {A:Option Addr} {n c:Nat} {ks:List (List UInt8)} (h:w.ownsRow base 23 32 (.slice A n c) n (c8 ks.flatten)) (hk:∀k∈ks,k.length=32) (hn:n=ks.length) (hp:0<n):∃g tl,A=some ⟨g,0,none⟩∧base≤g∧RH w g ks tl∧n≤c∧c≤9223372036854775807:=by
 rcases h.2 with ⟨hv,h0⟩ | ⟨g,cap,cur,hv,hbg,hh,hr,hm,hsz,ht⟩
 ·omega
 ·injection hv with h1 h2 h3;subst h1 h3;refine ⟨g,cur.toList.drop (n*32),rfl,hbg,⟨hk,?_⟩,hr,by unfold maxLen at hm;exact hm⟩;have e:c8 ks.flatten++cur.toList.drop (n*32)=cur.toList:=by rw[←ht,List.take_append_drop]
  rw[e];exact hh
theorem A3u (v:Value) (ks:List (List UInt8)) (w:World) (hv:Hs w 0 w.heap.size v ks) (hne:0<ks.length) (hn:ks.length≤1099511627) :
 Calls Tryz.prog 46 #[v] w fun e w'=>∃(g cap:Nat) (tl:List Value),e=.returned (.slice (some ⟨g,0,none⟩) ks.length cap)∧w.heap.size≤g∧RH w' g ks tl∧ks.length≤cap∧cap≤9223372036854775807∧Below w.heap.size w w':=by
 obtain⟨A,c,aD,aN,aO⟩:=hv.form;obtain⟨aA,A',c',aE,_,_,aF⟩:=hv;have hA:A=A':=by rw[aD]at aE;injection aE
 subst hA;subst aD;have aP:A.isNone=false:=by
  rcases aF with h | ⟨g,o,h,_⟩
  ·have:=congrArg List.length h;rw[J0,Bt aA]at this;simp at this;omega
  ·rw[h];rfl
 have hl:=Bt aA;have aB:Rd (w.alloc (.cells #[] 23)) 0 w.heap.size A (c8 ks.flatten):=aF.below (Aw _ _);have aQ:∀(w:World) (a:Option Addr) (n c n' c':Nat),(binOp .eql 42 (.slice a n c) (.slice none n' c')).run Tryz.prog w=.ok (.bool a.isNone) w:=fun w a n c n' c'=>Lib.run_eql_slice_nil w _ _ a n c n' c' Tryz.underlying42;go_enter Tryz.func46,Tryz.ntmps46;go_wp2_with (at_builtin;refine B7y 42 (A8 (z8 32)) 32 Tryz.underlying42 Xy (by simp[A8,Value.cells]) (by decide) (by decide) rfl _ _ rfl rfl (n:=0) (base:=w.heap.size) (World.ownsRow_made w #[] 0 (Nat.le_refl _) (Nat.zero_le _) (by simp)) A ks.length c rfl (c8 ks.flatten) (by simp[hl]) 0 _ aB (by intro u hu;obtain⟨x,_,rfl⟩:=List.mem_map.1 hu;rfl) (by omega) (by simp) ?_;intro A' c' w' aG aH aC aI aR aJ);go_ret;obtain⟨g,tl,rfl,aK,hR,aL,aM⟩:=RH.of_own (by simpa using aC) aA rfl (by omega);exact ⟨g,c',tl,by simp,aK,hR,aL,aM,(Aw _ _).trans aI⟩
end
section
theorem C9y {W:World} {base:Nat} {T:TypeId} {v:Value} {n:Nat} {ks:List (List UInt8)} (h:W.ownsRow base T 32 v n (c8 ks.flatten)) (hn:ks.length=n) (hk:∀k∈ks,k.length=32):Hs W base W.heap.size v ks:=by
 obtain⟨A,c,rfl,h1,h2⟩:=Cj h;subst hn;exact ⟨hk,A,c,rfl,h1,by unfold maxLen;exact h2,B2l h⟩
theorem Hs.less {w:World} {lo lo' B:Nat} {v:Value} {l:List (List UInt8)} (h:Hs w lo B v l) (hB:lo'≤lo):Hs w lo' B v l:=let ⟨h0,A,c,h1,h2,h3,h4⟩:=h;⟨h0,A,c,h1,h2,h3,h4.less hB⟩
theorem P9.build (w:World) (l:List UInt8) (hl:l.length≤1000000):P9 (w.alloc (.cells (l.map v8).toArray 5)) w.heap.size (.slice (some ⟨w.heap.size,0,none⟩) l.length l.length) l:=
 ⟨by simp,.inr ⟨w.heap.size,l.length,(l.map v8).toArray,rfl,Nat.le_refl _,heap_alloc_new w _,Nat.le_refl _,by simp only[maxLen];omega,by simp,by simp[List.take_of_length_le]⟩⟩
def Tr.cutB (t:Tr) (ks:List (List UInt8)) (d:Nat):List UInt8:=(t.cut ks d).bytes
theorem B4l (d:Nat) (v k:Value) (ks:List (List UInt8)) (w:World) (hv:Ps w 0 w.heap.size v (Tr.pairs .e)) :
 Calls Tryz.prog 14 #[v,k,.int .i64 (d:Int)] w fun e w'=>∃u,e=.returned u∧By w' 0 w'.heap.size u (Tr.cutB .e ks d)∧Below w.heap.size w w':=by
 obtain⟨A,c,rfl,aA,aB⟩:=hv.form;go_enter Tryz.func14,Tryz.ntmps14;go_wp2_with fail;go_ret;exact ⟨_,rfl,(By.build w 5 (0,0) [0] (by simp)).more (by simp),Aw _ _⟩
theorem Tc (t:Tr) (hp:0<t.len) (hlen:t.len≤274877906944) (d:Nat) (P:Nat→Bool) (ok:Ok d P t) (hd:d≤256) (v k:Value) (w:World) (hv:Ps w 0 w.heap.size v t.pairs) (hk:Hs w 0 w.heap.size k []) :
 Calls Tryz.prog 14 #[v,k,.int .i64 (d:Int)] w fun e w'=>∃u,e=.returned u∧By w' 0 w'.heap.size u (t.cutB [] d)∧Below w.heap.size w w':=by
 have ec:t.cutB [] d=[3]++t.root:=by unfold Tr.cutB;cases t with | e=>simp[Tr.len]at hp | lf _ _=>rfl | nd _ _=>rfl
 rw[ec];clear ec;have aC:=t.root_length;have aA:=B0a t d d P v w rfl ok hd hlen hv;obtain⟨A,c,aJ,aN,aO⟩:=hv.form;obtain⟨A2,c2,aK,aP,aQ⟩:=hk.form;have aR:((t.pairs.length:Int)==0)=false:=beq_eq_false_iff_ne.2 (by rw[←Tr.len_pairs];omega);subst aJ aK;generalize t.root=r at *;go_enter Tryz.func14,Tryz.ntmps14;go_wp2_with fail;refine aA.mono ?_;rintro e w1 ⟨rfl,aG⟩;obtain⟨W2,aB⟩:=F9 (D8 (w1.alloc (Obj.cells (c8 (z8 32)).toArray 23)) ⟨w1.heap.size,0,none⟩ (c8 r));have b2:Below w1.heap.size w1 W2:=by rw[aB];exact C5 (Aw _ _) (Nat.le_refl _) _
 have R2:Bk W2 w1.heap.size 23 (c8 r):=by rw[aB];exact Bk.fresh w1 _ (by simp[aC])
 have z2:W2.heap.size=w1.heap.size+1:=by rw[aB];simp
 have B2:=K9 aG b2;obtain⟨W3,aD⟩:=F9 (W2.alloc (Obj.cells #[.int .u8 3] 5));have b3:=BA' aD;have O3:P9 W3 W2.heap.size (.slice (some ⟨W2.heap.size,0,none⟩) 1 1) [3]:=by rw[aD];exact P9.build W2 [3] (by simp)
 have R3:=R2.bl b3;have Y3:=R3.whole 32 aC (by omega);have B3:=K9 B2 b3;rw[z2]at O3;have zz:=b3.size;go_wp2_with (at_builtin;rw[←aB,←aD];refine Pu _ _ _ _ rfl _ _ rfl rfl O3 _ rfl r 0 _ Y3 (by simp[aC]) (by omega) ?_;intro A4 c4 w4 aE aF aH aL aS aM;obtain⟨u4,aI⟩:∃u,u=Value.slice A4 ([3]++r).length c4:=⟨_,rfl⟩;rw[←aI]at aH aM ⊢;clear aI aE aF);go_ret;exact ⟨_,rfl,by simpa using (aH.by_).less (Nat.zero_le _),B3.trans (aL.mono (by have:=aG.size;omega))⟩
theorem B0g (kk x:List UInt8) (d:Nat) (P:Nat→Bool) (ok:Ok d P (.lf kk x)) (v k:Value) (ks:List (List UInt8)) (hne:0<ks.length) (w:World) (hv:Ps w 0 w.heap.size v (Tr.lf kk x).pairs) (hk:Hs w 0 w.heap.size k ks) :
 Calls Tryz.prog 14 #[v,k,.int .i64 (d:Int)] w fun e w'=>∃u,e=.returned u∧By w' 0 w'.heap.size u (Tr.cutB (.lf kk x) ks d)∧Below w.heap.size w w':=by
 have ec:Tr.cutB (.lf kk x) ks d=([1]++kk)++x:=by unfold Tr.cutB;cases ks with | nil=>simp at hne | cons _ _=>rfl
 rw[ec];clear ec;have aH:=ok.1;have hx:=ok.2.1;obtain⟨A,c,aI,aP,aU⟩:=hv.form;have aA:=hv.sub;obtain⟨A2,c2,aQ,aV,aW⟩:=hk.form;have aX:((ks.length:Int)==0)=false:=beq_eq_false_iff_ne.2 (by omega);have e1:(Tr.lf kk x).pairs.length=1:=rfl;rw[e1]at aI aP aA;subst aI aQ;obtain⟨g,o,c',hs⟩:=aA;rcases hs with ⟨hrow,_,hg,hA,_,_⟩ | hs
 ·injection hA with hA _ hA3;subst hA hA3;obtain⟨_,aJ,aK⟩:=hrow 0 (kk,x) rfl;simp only[Nat.zero_mul,Nat.add_zero]at aJ aK;clear hrow;obtain⟨W1,aB⟩:=F9 (w.alloc (Obj.cells #[.int .u8 1] 5));have b1:=BA' aB;have O1:P9 W1 w.heap.size (.slice (some ⟨w.heap.size,0,none⟩) 1 1) [1]:=by rw[aB];exact P9.build w [1] (by simp)
  have Yk:=By.of_row ((Q4 b1 hg).trans aJ) (Nat.lt_of_lt_of_le hg b1.size) (by omega);go_enter Tryz.func14,Tryz.ntmps14;have zz:=b1.size;have aY:g<w.heap.size:=hg;go_wp2_with (first
   | (at_builtin;rw[←aB];refine Pu _ w.heap.size _ _ rfl _ _ rfl rfl O1 _ rfl kk 0 _ Yk (by simp[aH]) (by omega) ?_;intro A4 c4 w4 aD aE aL aC aZ aR;obtain⟨u4,aM⟩:∃u,u=Value.slice A4 ([1]++kk).length c4:=⟨_,rfl⟩;rw[←aM]at aL aR ⊢;clear aM aD aE;have Yx:=By.of_row ((Q4 aC hg).trans ((Q4 b1 hg).trans aK)) (Nat.lt_of_lt_of_le hg (Nat.le_trans b1.size aC.size)) (by omega);have bA:=aC.size;clear aB)
   | (at_builtin;refine Pu _ w.heap.size _ _ rfl _ _ rfl rfl aL _ rfl x 0 _ Yx (by simp[aH,hx]) (by omega) ?_;intro A5 c5 w5 aF aG aN aS bB aT;obtain⟨u5,aO⟩:∃u,u=Value.slice A5 (([1]++kk)++x).length c5:=⟨_,rfl⟩;rw[←aO]at aN aT ⊢;clear aO aF aG))
  go_ret;exact ⟨_,rfl,by simpa using (aN.by_).less (Nat.zero_le _),(b1.trans aC).trans aS⟩
 ·cases hs
def C5m (l r:Tr) (b:Bool):Tr:=if b then r else l
def Mn (ks:List (List UInt8)) (d:Nat) (b:Bool):List (List UInt8):=ks.filter fun x=>P7 x d==b
def A6y (l r:Tr) (ks:List (List UInt8)) (d:Nat) (b:Bool):List UInt8:=(C5m l r b).cutB (Mn ks d b) (d+1)
def A0w (l r:Tr) (ks:List (List UInt8)) (d:Nat):Nat→List UInt8
 | 0=>[2]
 | 1=>[2]++A6y l r ks d false
 | _=>([2]++A6y l r ks d false)++A6y l r ks d true
theorem C1m {ks:List (List UInt8)} {d:Nat} {b:Bool} {k:List UInt8} (h:P7 k d=b):Mn (ks++[k]) d b=Mn ks d b++[k]:=by simp[Mn,List.filter_append,h]
theorem C8b {ks:List (List UInt8)} {d:Nat} {b:Bool} {k:List UInt8} (h:(P7 k d==b)=false):Mn (ks++[k]) d b=Mn ks d b:=by simp[Mn,List.filter_append];simpa using h
theorem C0q {b:Bool} {d:Nat} {m:List Pr} {q:Pr} (h:(P7 q.1 d==b)=false):Nx b d (m++[q])=Nx b d m:=by simp[Nx,List.filter_append];simpa using h
theorem C5o {l r:Tr} {ks:List (List UInt8)} {d:Nat} (h:0<ks.length):Tr.cutB (.nd l r) ks d=A0w l r ks d 2:=by
 have aA:ks.isEmpty=false:=by cases ks with | nil=>simp at h | cons _ _=>rfl
 simp only[Tr.cutB,Tr.cut,aA,if_false,Bool.false_eq_true,Pt.bytes,A0w,A6y,C5m,Mn];simp
theorem B7n {l r:Tr} {d:Nat} {P:Nat→Bool} (ok:Ok d P (.nd l r)) (b:Bool):Nx b d (Tr.nd l r).pairs=(C5m l r b).pairs:=by
 cases b
 ·exact C1s ok
 ·exact C5c ok
def De (w:World) (base:Nat) (v:Value) (ks:List (List UInt8)):Prop:=(∀k∈ks,k.length=32)∧w.ownsRow base 23 32 v ks.length (c8 ks.flatten)
theorem De.nil (w:World) (base:Nat):De w base (.slice none 0 0) []:=⟨by simp,World.ownsRow_nil w base _ _⟩
theorem De.below {w w':World} {base B:Nat} {v:Value} {ks:List (List UInt8)} (h:De w base v ks) (hb:Below B w w') (hB:w.heap.size≤B):De w' base v ks:=⟨h.1,Du h.2 hb hB⟩
theorem De.hs {w:World} {base:Nat} {v:Value} {ks:List (List UInt8)} (h:De w base v ks):Hs w base w.heap.size v ks:=C9y h.2 rfl h.1
theorem De.form {w:World} {base:Nat} {v:Value} {ks:List (List UInt8)} (h:De w base v ks):∃A c,v=.slice A ks.length c∧ks.length≤c∧c≤9223372036854775807:=Cj h.2
section
variable {w : World} {base : Nat} {v : Value} {ks : List (List UInt8)} {ops : Array Oper} {rest : List Oper} {o : Oper} {a : Act} {Q : Exit → Act → World → Prop}
theorem E7j (hgd:o.guard=none) (s x:Operand) (ho:o.op=.call { callee:=.builtin .append,args:=#[s,x],argTypes:=#[42,42] })
 (hs:a.eval s=v) (hown:De w base v ks) (k:List UInt8) (hk:k.length=32) (m:List UInt8) (hm:m=k) {N:Nat} (hx:a.eval x=.slice (some ⟨N,0,none⟩) 1 1) (hN:w.heap.size=N) (hsz:ks.length≤1099511627) (hb:base≤w.heap.size)
 (h:∀A c w',De w' base (.slice A (ks.length+1) c) (ks++[k])→Below base w w'→wpList Tryz.prog ops Q rest (a.put o.dst (.slice A (ks.length+1) c)) w'):wpList Tryz.prog ops Q (o::rest) a (w.alloc (.cells (c8 m).toArray 23)):=by
 subst hm hN;have hB:=Bk.new w 23 (c8 m);have aA:=hown.below ((Below.refl _ _).alloc (Nat.le_refl _) (.cells (c8 m).toArray 23)) (Nat.le_refl _);refine B7y 42 (A8 (z8 32)) 32 Tryz.underlying42 Xy (by simp[A8,Value.cells]) (by decide) (by decide) hgd s x ho hs aA.2 (some ⟨w.heap.size,0,none⟩) 1 1 hx (c8 m) (by simp[hk]) 0 (w.heap.size+1) (.inr ⟨w.heap.size,0,rfl,Nat.zero_le _,by omega,fun j u hj=>by rw[Nat.zero_add];exact hB.at_ hj⟩) (by intro u hu;obtain⟨y,_,rfl⟩:=List.mem_map.1 hu;rfl) (by omega) (by simp;omega) ?_;intro A c w' _ _ aB aC _ _;refine h A c w' ⟨fun q hq=>?_,?_⟩ (((Below.refl _ _).alloc hb _).trans aC)
 ·rcases List.mem_append.1 hq with hq | hq
  ·exact hown.1 q hq
  ·simp at hq;subst hq;exact hk
 ·have e:c8 (ks++[m]).flatten=c8 ks.flatten++c8 m:=by simp[c8]
  rw[e,List.length_append];exact aB
end
theorem A6k (l r:Tr) (d:Nat) (P:Nat→Bool) (ok:Ok d P (.nd l r)) (hlen:(Tr.nd l r).len≤274877906 ) (v k:Value) (ks:List (List UInt8)) (hne:0<ks.length) (hsz:ks.length≤1000000) (w:World) (hv:Ps w 0 w.heap.size v (Tr.nd l r).pairs) (hk:Hs w 0 w.heap.size k ks)
 (IH:∀(b:Bool) (v k:Value) (ks:List (List UInt8)) (w:World),ks.length≤1000000→Ps w 0 w.heap.size v (C5m l r b).pairs→Hs w 0 w.heap.size k ks→
  Calls Tryz.prog 14 #[v,k,.int .i64 ((d:Int)+1)] w fun e w'=>∃u,e=.returned u∧By w' 0 w'.heap.size u ((C5m l r b).cutB ks (d+1))∧Below w.heap.size w w')
 (hbl:∀i,(A0w l r ks d i).length≤1099511627) (hbs:∀b,(A6y l r ks d b).length≤1099511627) :
 Calls Tryz.prog 14 #[v,k,.int .i64 (d:Int)] w fun e w'=>∃u,e=.returned u∧By w' 0 w'.heap.size u (Tr.cutB (.nd l r) ks d)∧Below w.heap.size w w':=by
 rw[C5o hne];have hd:=ok.1;have cF:=ok.2.1;have aG:=hv.sub;have aH:=hk.row;have aP:=hv.1;have aQ:=hk.1;have bG:=Lib.hid (B7n ok);have aI:(Tr.nd l r).pairs.length=l.len+r.len:=by rw[←Tr.len_pairs];rfl
 simp only[Tr.len]at hlen;obtain⟨A,c,bH,cG,cH⟩:=hv.form;obtain⟨A2,c2,bI,cI,cJ⟩:=hk.form;generalize hL:(Tr.nd l r).pairs=L at *;clear hL hv hk;subst bH bI;have bJ:((L.length:Int)==0)=false:=by rw[beq_eq_false_iff_ne];omega
 have bK:((L.length:Int)==1)=false:=by rw[beq_eq_false_iff_ne];omega
 have bL:((ks.length:Int)==0)=false:=by rw[beq_eq_false_iff_ne];omega
 have cK:L.length≤274877906:=by omega
 clear aI;go_enter Tryz.func14,Tryz.ntmps14;go_wp2_with fail;obtain⟨W0,aO⟩:=F9 (w.alloc (Obj.cells #[.int .u8 2] 5));rw[←aO];have B0:=BA' aO;have O0:P9 W0 w.heap.size (.slice (some ⟨w.heap.size,0,none⟩) 1 1) [2]:=by rw[aO];exact P9.build w [2] (by simp)
 clear aO;have aR:=hbs;have bM:=Lib.hid hbl;have bN:=Lib.hid hbs;clear hbl hbs aR;go_loopw [9,10] (fun b t wr=>∃s:Nat,s≤2∧t=.int .i64 (s:Int)∧P9 wr w.heap.size b (A0w l r ks d s)∧Below w.heap.size w wr) (fun _ t _=>2-(intOf t).toNat)
 case atStart=>exact ⟨0,by omega,rfl,O0,B0⟩
 case round=>
  clear O0 B0;obtain⟨s,hs,rfl,O,B⟩:=hrel;by_cases hlt:s<2
  ·obtain⟨sb,aX⟩:∃sb,(s:Int)=Nc sb:=by
    have:s=0∨s=1:=by omega
    rcases this with rfl | rfl
    ·exact ⟨false,rfl⟩
    ·exact ⟨true,rfl⟩
   have zB:=B.size;have HO:=Lib.hid O;clear O;have aF:=Lib.hid aX;clear aX;have bO:decide ((s:Int)<2)=true:=decide_eq_true (by omega);go_wp2_with fail;obtain⟨wo,rfl⟩:=F9 (wr);go_loopw [11,52] (fun u t w2=>∃i:Nat,i≤L.length∧t=.int .i64 (i:Int)∧Fm w2 wo.heap.size u (Nx sb d (L.take i))∧Below wo.heap.size wo w2) (fun _ t _=>L.length-(intOf t).toNat)
   case atStart=>exact ⟨0,by omega,rfl,Fm.nil _ _,Below.refl _ _⟩
   case round=>
    obtain⟨i,hi,rfl,O1,B1⟩:=hrel;obtain⟨w2,rfl⟩:=F9 (wr);by_cases hil:i<L.length
    ·obtain⟨q,hp⟩:∃p,L[i]?=some p:=⟨_,List.getElem?_eq_getElem hil⟩;have aB:Jb q:=aP q (List.mem_of_getElem? hp);have aJ:=Ii hp;have aC:=A0e sb d (L.take i);have aY:(L.take i).length=i:=by simp;omega
     rw[aY]at aC;obtain⟨g,o,c',aD⟩:=aG;rcases aD with ⟨hrow,_,hg,hA,_,_⟩ | aD
     ·injection hA with hA _ hA3;subst hA hA3;have hr:=(hrow i q hp).1;have aS:=(Q4 ((B.trans (B1.mono zB))) hg).trans hr;have aA:Hid (L.take (i+1)=L.take i++[q]):=Lib.hid aJ;clear hrow hr hp aJ aY;generalize L.take i=m at *;have bP:=aB.1;have cL:=aB.2;have aK:=aB.len;obtain⟨W,hW⟩:=F9 (D8 (w2.alloc (Obj.cells (c8 (z8 64)).toArray 96)) ⟨w2.heap.size,0,none⟩ (c8 (pb q)));have aE:Below w2.heap.size w2 W:=by rw[hW];exact C5 (Aw _ _) (Nat.le_refl _) _
      have Q1:Bk W w2.heap.size 96 (c8 (pb q)):=by rw[hW];exact Bk.fresh w2 _ (by simp[aK])
      have P1:=O1.below aE (Nat.le_refl _);have BW:=K9 B1 aE;have qk:=Mi Q1 aB;rw[hW]at qk;clear aE O1;go_wp2_with fail;rw[←hW];clear hW aS qk;refine (Tv q.1 d bP hd W).mono ?_;rintro e w3 ⟨rfl,h3⟩;have Q3:=Q1.bl h3;have S3:=P1.below h3 (Nat.le_refl _);have B3:=K9 BW h3;have z3:wo.heap.size≤w3.heap.size:=B3.size;have bQ:=A7r Q3 aB;clear h3 Q1 P1 BW B1;obtain⟨o1,bR,rfl,_,_⟩:=S3.form;by_cases hbb:P7 q.1 d=sb
      ·have hh:(Nc (P7 q.1 d)==(s:Int))=true:=by rw[aF.out,hbb];simp
       have e1:=Lib.hid (A2j (m:=m) hbb);clear hbb;go_wp2_with (at_builtin;refine C8w rfl _ _ rfl rfl S3 q aB _ rfl rfl rfl (by omega) z3 ?_;intro A4 c4 w4 bS bT bU bV cM bX);go_roundw;case rel=>exact ⟨i+1,by omega,by go_num,by rw[aA.out,e1.out];exact bU,B3.trans bV⟩
       case measure=>simp[intOf];omega
      ·have aL:(P7 q.1 d==sb)=false:=by simpa using hbb
       have hh:(Nc (P7 q.1 d)==(s:Int))=false:=by rw[aF.out];cases hx:P7 q.1 d<;>cases sb<;>first | rfl | (rw[hx]at hbb;exact absurd rfl hbb)
       have e1:=Lib.hid (C0q (m:=m) aL);clear hbb aL;go_wp2_with fail;go_roundw;case rel=>exact ⟨i+1,by omega,by go_num,by rw[aA.out,e1.out];exact S3,B3⟩
       case measure=>simp[intOf];omega
     ·subst aD;simp at hil
    ·obtain rfl:i=L.length:=by omega
     rw[List.take_length,bG.out sb]at O1;have bY:=Lib.hid O1;clear O1;go_wp2_with fail;have z1:=B1.size;go_loopw [12,69] (fun u t w3=>∃i:Nat,i≤ks.length∧t=.int .i64 (i:Int)∧De w3 w2.heap.size u (Mn (ks.take i) d sb)∧Below w2.heap.size w2 w3) (fun _ t _=>ks.length-(intOf t).toNat)
     case atStart=>exact ⟨0,by omega,rfl,De.nil _ _,Below.refl _ _⟩
     case round=>
      obtain⟨j,hj,rfl,O2,B2⟩:=hrel;obtain⟨w3,rfl⟩:=F9 (wr);by_cases hjl:j<ks.length
      ·obtain⟨kq,hp⟩:∃p,ks[j]?=some p:=⟨_,List.getElem?_eq_getElem hjl⟩;have aM:=aQ kq (List.mem_of_getElem? hp);have aJ:=Ii hp;have aC:(Mn (ks.take j) d sb).length≤j:=by refine Nat.le_trans (List.length_filter_le _ _) ?_;simp;omega
       obtain⟨g,o,c',aD⟩:=aH;rcases aD with ⟨hrow,_,hg,hA,_,_⟩ | aD
       ·injection hA with hA _ hA3;subst hA hA3;have hr:=hrow j kq hp;have aS:=(Q4 ((B.trans (B1.mono zB)).trans (B2.mono (Nat.le_trans zB z1))) hg).trans hr;have aA:Hid (ks.take (j+1)=ks.take j++[kq]):=Lib.hid aJ;clear hrow hr hp aJ;generalize ks.take j=m at *;obtain⟨W,hW⟩:=F9 (D8 (w3.alloc (Obj.cells (c8 (z8 32)).toArray 23)) ⟨w3.heap.size,0,none⟩ (c8 kq));have aE:Below w3.heap.size w3 W:=by rw[hW];exact C5 (Aw _ _) (Nat.le_refl _) _
        have Q1:Bk W w3.heap.size 23 (c8 kq):=by rw[hW];exact Bk.fresh w3 _ (by simp[aM])
        have P1:=O2.below aE (Nat.le_refl _);have BW:=K9 B2 aE;have qk:J1 W ⟨w3.heap.size,0,none⟩ 32=some (c8 kq):=by have:=Q1.rows;rwa [J0,aM]at this
        rw[hW]at qk;clear aE O2;go_wp2_with fail;rw[←hW];clear hW aS qk;refine (Tv kq d aM hd W).mono ?_;rintro e w4 ⟨rfl,h3⟩;have Q3:=Q1.bl h3;have S3:=P1.below h3 (Nat.le_refl _);have B3:=K9 BW h3;have z3:w2.heap.size≤w4.heap.size:=B3.size;have bQ:J1 w4 ⟨w3.heap.size,0,none⟩ 32=some (c8 kq):=by have:=Q3.rows;rwa [J0,aM]at this
        clear h3 Q1 P1 BW B2;obtain⟨o1,bR,rfl,_,_⟩:=S3.form;by_cases hbb:P7 kq d=sb
        ·have hh:(Nc (P7 kq d)==(s:Int))=true:=by rw[aF.out,hbb];simp
         have e1:=Lib.hid (C1m (ks:=m) hbb);clear hbb;go_wp2_with (at_builtin;refine E7j rfl _ _ rfl rfl S3 kq aM _ rfl rfl rfl (by omega) z3 ?_;intro A5 c5 w5 aT bZ);go_roundw;case rel=>exact ⟨j+1,by omega,by go_num,by rw[aA.out,e1.out];exact aT,B3.trans bZ⟩
         case measure=>simp[intOf];omega
        ·have aL:(P7 kq d==sb)=false:=by simpa using hbb
         have hh:(Nc (P7 kq d)==(s:Int))=false:=by rw[aF.out];cases hx:P7 kq d<;>cases sb<;>first | rfl | (rw[hx]at hbb;exact absurd rfl hbb)
         have e1:=Lib.hid (C8b (ks:=m) aL);clear hbb aL;go_wp2_with fail;go_roundw;case rel=>exact ⟨j+1,by omega,by go_num,by rw[aA.out,e1.out];exact S3,B3⟩
         case measure=>simp[intOf];omega
       ·subst aD;simp at hjl
      ·obtain rfl:j=ks.length:=by omega
       rw[List.take_length]at O2;have z2:=B2.size;have aZ:=(bY.out.ps.less (Nat.zero_le _)).below B2;have bA:=O2.hs.less (Nat.zero_le _);have cA:(Mn ks d sb).length≤1000000:=Nat.le_trans (List.length_filter_le _ _) hsz;have HC:=Lib.hid (IH sb _ _ _ w3 cA (aZ.more z2) bA);have bB:=B1.trans (B2.mono z1);have cB:=Lib.hid (HO.out.below bB (Nat.le_refl _));have B3:=B.trans (bB.mono zB);clear aZ bA O2 IH;go_wp2_with fail;refine HC.out.mono ?_;rintro e w5 ⟨u5,rfl,bC,bD⟩;clear HC;have aT:=cB.out.below bD (Nat.le_refl _);have B5:=K9 B3 bD;have cC:=B5.size;have hbl:=bM.out s;have hbs:=bN.out sb;change By w5 0 w5.heap.size u5 (A6y l r ks d sb) at bC;have aN:A0w l r ks d (s+1)=A0w l r ks d s++A6y l r ks d sb:=by
        have:s=0∨s=1:=by omega
        rcases this with rfl | rfl
        ·have:sb=false:=by have:=aF.out;cases sb<;>first | rfl | cases this
         subst this;rfl
        ·have:sb=true:=by have:=aF.out;cases sb<;>first | rfl | cases this
         subst this;rfl
       have aU:=Lib.hid aN;clear aN;generalize A6y l r ks d sb=bs at *;generalize hcs:A0w l r ks d s=bo at *;clear hcs;go_wp2_with (at_builtin;refine Pu _ w.heap.size _ _ rfl _ _ rfl rfl aT _ rfl bs 0 _ bC (by omega) cC ?_;intro A6 c6 w6 aV aW bE cD cN cE;obtain⟨u6,bF⟩:∃u,u=Value.slice A6 (bo++bs).length c6:=⟨_,rfl⟩;rw[←bF]at bE cE ⊢;clear bF aV aW);go_roundw;case rel=>exact ⟨s+1,by omega,by go_num,by rw[aU.out];exact bE,B5.trans cD⟩
       case measure=>simp[intOf];omega
  ·obtain rfl:s=2:=by omega
   go_wp2_with fail;go_ret;exact ⟨_,rfl,(O.by_).less (Nat.zero_le _),B⟩
theorem B8l {t:Tr} {d:Nat} {P:Nat→Bool} (ok:Ok d P t) (hd:d≤256) (ks:List (List UInt8)):(t.cutB ks d).length≤33+t.len*4417:=by
 have h:=Ml.size (Ux t ks d) ok hd;have h2:t.len*(65+17*(256-d))≤t.len*4417:=Nat.mul_le_mul_left _ (by omega);unfold Tr.cutB;omega
theorem B2f:∀(t:Tr) (d:Nat) (P:Nat→Bool),Ok d P t→d≤256→t.len≤200000→∀(v k:Value) (ks:List (List UInt8)) (w:World),ks.length≤1000000→Ps w 0 w.heap.size v t.pairs→Hs w 0 w.heap.size k ks→
 Calls Tryz.prog 14 #[v,k,.int .i64 (d:Int)] w fun e w'=>∃u,e=.returned u∧By w' 0 w'.heap.size u (t.cutB ks d)∧Below w.heap.size w w':=by
 intro t;induction t with
 | e=>intro d P ok hd hl v k ks w aA hv hk;exact B4l d v k ks w hv
 | lf kk x=>
  intro d P ok hd hl v k ks w aA hv hk;cases ks with
  | nil=>exact Tc (.lf kk x) (by simp[Tr.len]) (by simp[Tr.len]) d P ok hd v k w hv hk
  | cons a ks=>exact B0g kk x d P ok v k (a::ks) (by simp) w hv hk
 | nd l r ihl ihr=>
  intro d P ok hd hl v k ks w aA hv hk;have aB:=ok.1;have aC:=ok.2.1;simp only[Tr.len]at hl;cases ks with
  | nil=>exact Tc (.nd l r) (by simp only[Tr.len];omega) (by simp only[Tr.len];omega) d P ok hd v k w hv hk
  | cons a ks=>
   have hs:=B8l ok hd (a::ks);rw[C5o (by simp)]at hs;simp only[Tr.len]at hs;simp only[A0w,List.length_append,List.length_cons,List.length_nil]at hs;have hb:∀b,(A6y l r (a::ks) d b).length≤1099511627:=fun b=>by cases b<;>omega
   refine A6k l r d P ok (by simp only[Tr.len];omega) v k (a::ks) (by simp) aA w hv hk (fun b v k ks w aA hv hk=>?_) (fun i=>?_) hb
   ·have e:((d:Int)+1)=((d+1:Nat):Int):=by omega
    rw[e];cases b
    ·exact ihl (d+1) _ ok.2.2.1 (by omega) (by omega) v k ks w aA hv hk
    ·exact ihr (d+1) _ ok.2.2.2 (by omega) (by omega) v k ks w aA hv hk
   ·match i with
    | 0=>simp[A0w]
    | 1=>simp only[A0w,List.length_append,List.length_cons,List.length_nil];omega
    | i+2=>simp only[A0w,List.length_append,List.length_cons,List.length_nil];omega
end
end Go.Proofs.YtlegpkdighoflaaGreat
