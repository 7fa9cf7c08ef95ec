/- A part of the proof of DirPlays. -/
import Derived.Outline
import Derived.Shelf.SlMaps.Clone
import Derived.Test.YtlegpkdighoflaaGreatRbc
set_option linter.unusedVariables false
set_option linter.unusedSimpArgs false
set_option maxRecDepth 100000
set_option maxHeartbeats 40000000
namespace Go.Proofs.YtlegpkdighoflaaGreat
open Go Go.RowKit Sh
section
def Pt.Ok:Nat→(Nat→Bool)→Pt→Prop
 | _,_,.e=>True
 | d,P,.lf k v=>k.length=32∧v.length=32∧∀i,i<d→M5 k i=P i
 | d,P,.nd l r=>d<256∧l.Ok (d+1) (upd P d false)∧r.Ok (d+1) (upd P d true)
 | _,_,.hd h=>h.length=32
theorem Pt.Ok.wf:∀ {p:Pt} {d:Nat} {P:Nat→Bool},p.Ok d P→p.Wf
 | .e,_,_,_=>trivial
 | .lf _ _,_,_,h=>⟨h.1,h.2.1⟩
 | .nd _ _,_,_,h=>⟨h.2.1.wf,h.2.2.wf⟩
 | .hd _,_,_,h=>h
theorem Pt.Ok.dp:∀ {p:Pt} {d:Nat} {P:Nat→Bool},p.Ok d P→p.Dp d
 | .e,_,_,_=>trivial
 | .lf _ _,_,_,h=>trivial
 | .nd _ _,_,_,h=>⟨h.1,h.2.1.dp,h.2.2.dp⟩
 | .hd _,_,_,h=>trivial
section
variable (k v : List UInt8) (hk : k.length = 32) (hv : v.length = 32) (d : Nat) (w : World)
include hk hv
end
theorem Pt.form:∀p:Pt,p.val=.nilIface∨∃t x,p.val=.iface t x
 | .e=>.inl rfl
 | .lf _ _=>.inr ⟨_,_,rfl⟩
 | .nd _ _=>.inr ⟨_,_,rfl⟩
 | .hd _=>.inr ⟨_,_,rfl⟩
end
def Tr.cut:Tr→List (List UInt8)→Nat→Pt
 | .e,_,_=>.e
 | .lf k v,ks,_=>if ks.isEmpty then .hd (Tr.lf k v).root else .lf k v
 | .nd l r,ks,d=>if ks.isEmpty then .hd (Tr.nd l r).root else .nd (l.cut (ks.filter fun x=>!M5 x d) (d+1)) (r.cut (ks.filter fun x=>M5 x d) (d+1))
def Sj:Pt→Tr→Prop
 | .e,.e=>True
 | .lf k v,.lf k' v'=>k=k'∧v=v'
 | .nd l r,.nd l' r'=>Sj l l'∧Sj r r'
 | .hd h,t=>h=t.root
 | _,_=>False
def Pt.knows (k:List UInt8):Nat→Pt→Prop
 | _,.hd _=>False
 | d,.nd l r=>if M5 k d then r.knows k (d+1) else l.knows k (d+1)
 | _,_=>True
theorem Sj.root:∀ {p:Pt} {t:Tr},Sj p t→p.root=t.root
 | .e,.e,_=>rfl
 | .lf _ _,.lf _ _,h=>by obtain⟨rfl,rfl⟩:=h;rfl
 | .nd _ _,.nd _ _,h=>by simp only[Pt.root,Tr.root];rw[Sj.root h.1,Sj.root h.2]
 | .hd h,t,e=>by cases t<;>exact e
 | .e,.lf _ _,h=>h.elim
 | .e,.nd _ _,h=>h.elim
 | .lf _ _,.e,h=>h.elim
 | .lf _ _,.nd _ _,h=>h.elim
 | .nd _ _,.e,h=>h.elim
 | .nd _ _,.lf _ _,h=>h.elim
theorem Sj.ok:∀ {p:Pt} {t:Tr} {d:Nat} {P:Nat→Bool},Sj p t→Ok d P t→p.Ok d P
 | .e,.e,_,_,_,_=>trivial
 | .lf _ _,.lf _ _,_,_,h,ok=>by obtain⟨rfl,rfl⟩:=h;exact ok
 | .nd _ _,.nd _ _,_,_,h,ok=>⟨ok.1,Sj.ok h.1 ok.2.2.1,Sj.ok h.2 ok.2.2.2⟩
 | .hd h,t,_,_,e,_=>by have e':h=t.root:=Sj.root (p:=.hd h) e;subst e';exact t.root_length
 | .e,.lf _ _,_,_,h,_=>h.elim
 | .e,.nd _ _,_,_,h,_=>h.elim
 | .lf _ _,.e,_,_,h,_=>h.elim
 | .lf _ _,.nd _ _,_,_,h,_=>h.elim
 | .nd _ _,.e,_,_,h,_=>h.elim
 | .nd _ _,.lf _ _,_,_,h,_=>h.elim
theorem A3q:∀(t:Tr) (ks:List (List UInt8)) (d:Nat),Sj (t.cut ks d) t
 | .e,_,_=>trivial
 | .lf k v,ks,d=>by
  by_cases h:ks.isEmpty=true<;>simp only[Tr.cut,h,if_true,if_false,Bool.false_eq_true]
  ·exact rfl
  ·exact ⟨rfl,rfl⟩
 | .nd l r,ks,d=>by
  by_cases h:ks.isEmpty=true<;>simp only[Tr.cut,h,if_true,if_false,Bool.false_eq_true]
  ·exact rfl
  ·exact ⟨A3q l _ _,A3q r _ _⟩
theorem Ze {k:List UInt8}:∀(t:Tr) (ks:List (List UInt8)) (d:Nat),k∈ks→(t.cut ks d).knows k d
 | .e,_,_,_=>trivial
 | .lf _ _,ks,d,hk=>by
  have h:ks.isEmpty=false:=by cases ks with | nil=>cases hk | cons _ _=>rfl
  simp only[Tr.cut,h,if_false,Bool.false_eq_true];trivial
 | .nd l r,ks,d,hk=>by
  have h:ks.isEmpty=false:=by cases ks with | nil=>cases hk | cons _ _=>rfl
  simp only[Tr.cut,h,if_false,Bool.false_eq_true,Pt.knows];by_cases hb:M5 k d=true
  ·simp only[hb,if_true];exact Ze r _ _ (List.mem_filter.2 ⟨hk,hb⟩)
  ·simp only[hb,if_false,Bool.false_eq_true];exact Ze l _ _ (List.mem_filter.2 ⟨hk,by simpa using hb⟩)
def Wu:Option (List UInt8)→List UInt8×Bool×Nat
 | some v=>(v,true,0)
 | none=>(z8 32,false,0)
theorem D5a (k:List UInt8) (d:Nat) (l r:Tr):(Tr.nd l r).look k d=if M5 k d then r.look k (d+1) else l.look k (d+1):=by
 unfold Tr.look;by_cases hb:M5 k d=true<;>simp only[Tr.lead,hb,if_true,if_false,Bool.false_eq_true]
theorem A3w {k:List UInt8}:∀ {p:Pt} {t:Tr} {d:Nat},Sj p t→p.knows k d→p.get k d=Wu (t.look k d)
 | .e,.e,_,_,_=>rfl
 | .lf k' v,.lf _ _,_,h,_=>by
  obtain⟨rfl,rfl⟩:=h;simp only[Pt.get,Tr.look,Tr.lead];by_cases e:k'=k<;>simp[e,Wu]
 | .nd l r,.nd l' r',d,h,hk=>by
  rw[D5a];simp only[Pt.get,Pt.knows]at hk ⊢;by_cases hb:M5 k d=true
  ·simp only[hb,if_true]at hk ⊢;exact A3w h.2 hk
  ·simp only[hb,if_false,Bool.false_eq_true]at hk ⊢;exact A3w h.1 hk
 | .hd h,_,_,_,hk=>hk.elim
 | .e,.lf _ _,_,h,_=>h.elim
 | .e,.nd _ _,_,h,_=>h.elim
 | .lf _ _,.e,_,h,_=>h.elim
 | .lf _ _,.nd _ _,_,h,_=>h.elim
 | .nd _ _,.e,_,h,_=>h.elim
 | .nd _ _,.lf _ _,_,h,_=>h.elim
def Pt.isE:Pt→Bool | .e=>true | _=>false
def Pt.isLf:Pt→Bool | .lf _ _=>true | _=>false
def ill (l r:Pt):Bool:=l.isE&&(r.isE||r.isLf)||r.isE&&l.isLf
def Pt.Tight:Pt→Prop
 | .nd l r=>ill l r=false∧l.Tight∧r.Tight
 | _=>True
theorem Sj.tight:∀ {p:Pt} {t:Tr} {d:Nat} {P:Nat→Bool},Sj p t→Ok d P t→p.Tight
 | .e,.e,_,_,_,_=>trivial
 | .lf _ _,.lf _ _,_,_,h,ok=>trivial
 | .nd l r,.nd l' r',_,_,h,ok=>by
  refine ⟨?_,Sj.tight h.1 ok.2.2.1,Sj.tight h.2 ok.2.2.2⟩;have hlen:=ok.2.1;have h1:=h.1;have h2:=h.2;clear h ok;cases l<;>cases r<;>cases l'<;>cases r'<;>first | rfl | exact h1.elim | exact h2.elim | (simp[Tr.len]at hlen)
 | .hd h,t,_,_,e,_=>trivial
 | .e,.lf _ _,_,_,h,_=>h.elim
 | .e,.nd _ _,_,_,h,_=>h.elim
 | .lf _ _,.e,_,_,h,_=>h.elim
 | .lf _ _,.nd _ _,_,_,h,_=>h.elim
 | .nd _ _,.e,_,_,h,_=>h.elim
 | .nd _ _,.lf _ _,_,_,h,_=>h.elim
def chk (way:List Bool) (key:List UInt8):Bool:=(List.range way.length).all fun i=>M5 key i==way.getD i false
def rd1 (rec:List Bool→List UInt8→Except Nat (Pt×List UInt8)) (way:List Bool):List UInt8→Except Nat (Pt×List UInt8)
 | []=>.error 10
 | k::b=>
  if k=0 then .ok (.e,b)
  else if k=1 then if b.length<64 then .error 10 else if chk way (b.take 32) then .ok (.lf (b.take 32) ((b.drop 32).take 32),b.drop 64) else .error 13
  else if k=2 then match rec (way++[false]) b with
   | .error e=>.error e
   | .ok (l,b1)=>match rec (way++[true]) b1 with
    | .error e=>.error e
    | .ok (r,b2)=>if ill l r then .error 13 else .ok (.nd l r,b2)
  else if k=3 then if b.length<32 then .error 10 else .ok (.hd (b.take 32),b.drop 32)
  else .error 13
def rd:Nat→List Bool→List UInt8→Except Nat (Pt×List UInt8)
 | 0=>rd1 fun _ _=>.error 13
 | f+1=>rd1 (rd f)
def Pe (way:List Bool):Nat→Bool:=fun i=>way.getD i false
theorem A1v {way:List Bool} {key:List UInt8}:chk way key=true↔∀i,i<way.length→M5 key i=Pe way i:=by simp[chk,Pe]
theorem A8j {d:Nat} {P Q:Nat→Bool} (b:Bool) (h:∀i,i<d→P i=Q i):∀i,i<d+1→upd P d b i=upd Q d b i:=fun i hi=>by
 unfold upd;split
 ·rfl
 ·exact h i (by omega)
theorem Pt.Ok.congr:∀ {p:Pt} {d:Nat} {P Q:Nat→Bool},p.Ok d P→(∀i,i<d→P i=Q i)→p.Ok d Q
 | .e,_,_,_,_,_=>trivial
 | .lf _ _,_,_,_,h,he=>⟨h.1,h.2.1,fun i hi=>(h.2.2 i hi).trans (he i hi)⟩
 | .nd _ _,d,P,Q,h,he=>⟨h.1,h.2.1.congr (A8j false he),h.2.2.congr (A8j true he)⟩
 | .hd _,_,_,_,h,_=>h
theorem Uj (way:List Bool) (b:Bool) (i:Nat) (hi:i<way.length+1):Pe (way++[b]) i=upd (Pe way) way.length b i:=by
 unfold Pe upd;split
 ·rename_i e;subst e;simp[List.getD_eq_getElem?_getD]
 ·rename_i e
  have:i<way.length:=by omega
  simp[List.getD_eq_getElem?_getD,List.getElem?_append_left this]
theorem C8k:∀(f:Nat) (way:List Bool) (b:List UInt8) (p:Pt) (rest:List UInt8),f+way.length=256→rd f way b=.ok (p,rest)→b=p.bytes++rest∧p.Ok way.length (Pe way)∧p.Tight:=by
 intro f;induction f with
 | zero=>
  intro way b p rest hf h;cases b with
  | nil=>cases h
  | cons k b=>
   simp only[rd,rd1]at h;split at h
   ·injection h with h;injection h with h1 h2;subst h1 h2;rename_i e;subst e;exact ⟨rfl,trivial,trivial⟩
   split at h
   ·split at h
    ·cases h
    split at h
    ·rename_i hl hc
     injection h with h;injection h with h1 h2;subst h1 h2;rename_i e0 e;subst e;refine ⟨?_,⟨by simp;omega,by simp;omega,A1v.1 hc⟩,trivial⟩;have e1:b.drop 64=(b.drop 32).drop 32:=by rw[List.drop_drop]
     simp only[Pt.bytes,List.cons_append,List.nil_append,List.append_assoc];rw[e1,List.take_append_drop,List.take_append_drop]
    ·cases h
   split at h
   ·cases h
   split at h
   ·split at h
    ·cases h
    ·rename_i hl
     injection h with h;injection h with h1 h2;subst h1 h2;rename_i e;subst e;refine ⟨?_,(by simp[Pt.Ok];omega),trivial⟩;simp only[Pt.bytes,List.cons_append,List.nil_append];rw[List.take_append_drop]
   ·cases h
 | succ f ih=>
  intro way b p rest hf h;cases b with
  | nil=>cases h
  | cons k b=>
   simp only[rd,rd1]at h;split at h
   ·injection h with h;injection h with h1 h2;subst h1 h2;rename_i e;subst e;exact ⟨rfl,trivial,trivial⟩
   split at h
   ·split at h
    ·cases h
    split at h
    ·rename_i hl hc
     injection h with h;injection h with h1 h2;subst h1 h2;rename_i e0 e;subst e;refine ⟨?_,⟨by simp;omega,by simp;omega,A1v.1 hc⟩,trivial⟩;have e1:b.drop 64=(b.drop 32).drop 32:=by rw[List.drop_drop]
     simp only[Pt.bytes,List.cons_append,List.nil_append,List.append_assoc];rw[e1,List.take_append_drop,List.take_append_drop]
    ·cases h
   split at h
   ·rename_i e;subst e
    split at h
    ·cases h
    ·rename_i l b1 h1
     split at h
     ·cases h
     ·rename_i r b2 h2
      split at h
      ·cases h
      ·rename_i hi
       injection h with h;injection h with h3 h4;subst h3 h4;obtain⟨e1,o1,t1⟩:=ih _ _ _ _ (by simp;omega) h1;obtain⟨e2,o2,t2⟩:=ih _ _ _ _ (by simp;omega) h2;simp only[List.length_append,List.length_cons,List.length_nil,Nat.zero_add]at o1 o2;refine ⟨by rw[e1,e2];simp[Pt.bytes],⟨by omega,o1.congr fun i hi=>Uj _ _ i hi,o2.congr fun i hi=>Uj _ _ i hi⟩,by simpa using hi,t1,t2⟩
   split at h
   ·split at h
    ·cases h
    ·rename_i hl
     injection h with h;injection h with h1 h2;subst h1 h2;rename_i e;subst e;refine ⟨?_,(by simp[Pt.Ok];omega),trivial⟩;simp only[Pt.bytes,List.cons_append,List.nil_append];rw[List.take_append_drop]
   ·cases h
theorem B5o {rec:List Bool→List UInt8→Except Nat (Pt×List UInt8)} {way:List Bool} {k v rest:List UInt8} (hk:k.length=32) (hv:v.length=32) (h:chk way k=true):rd1 rec way ((Pt.lf k v).bytes++rest)=.ok (.lf k v,rest):=by
 have e0:(Pt.lf k v).bytes++rest=1::(k++(v++rest)):=by simp[Pt.bytes]
 rw[e0];have e1:(k++(v++rest)).take 32=k:=by rw[←hk,List.take_left]
 have e2:(k++(v++rest)).drop 32=v++rest:=by rw[←hk,List.drop_left]
 have e3:(v++rest).take 32=v:=by rw[←hv,List.take_left]
 have e4:(k++(v++rest)).drop 64=rest:=by rw[show (64:Nat)=32+32 from rfl,←List.drop_drop,e2,←hv,List.drop_left]
 have e5:¬ (k++(v++rest)).length<64:=by simp[hk,hv];omega
 simp only[rd1,e1,e2,e3,e4,e5,h,if_false,if_true];rfl
theorem A5o {rec:List Bool→List UInt8→Except Nat (Pt×List UInt8)} {way:List Bool} {h rest:List UInt8} (hh:h.length=32):rd1 rec way ((Pt.hd h).bytes++rest)=.ok (.hd h,rest):=by
 have e0:(Pt.hd h).bytes++rest=3::(h++rest):=by simp[Pt.bytes]
 rw[e0];have e1:(h++rest).take 32=h:=by rw[←hh,List.take_left]
 have e2:(h++rest).drop 32=rest:=by rw[←hh,List.drop_left]
 have e5:¬ (h++rest).length<32:=by simp[hh]
 simp only[rd1,e1,e2,e5,if_false,if_true];rfl
theorem B1w:∀(f:Nat) (way:List Bool) (p:Pt) (rest:List UInt8),f+way.length=256→p.Ok way.length (Pe way)→p.Tight→rd f way (p.bytes++rest)=.ok (p,rest):=by
 intro f;induction f with
 | zero=>
  intro way p rest hf ok ht;cases p with
  | e=>rfl
  | lf k v=>exact B5o ok.1 ok.2.1 (A1v.2 ok.2.2)
  | hd h=>exact A5o ok
  | nd l r=>exact absurd ok.1 (by omega)
 | succ f ih=>
  intro way p rest hf ok ht;cases p with
  | e=>rfl
  | lf k v=>exact B5o ok.1 ok.2.1 (A1v.2 ok.2.2)
  | hd h=>exact A5o ok
  | nd l r=>
   have h1:=ih (way++[false]) l (r.bytes++rest) (by simp;omega) (by simp only[List.length_append,List.length_cons,List.length_nil,Nat.zero_add];exact ok.2.1.congr fun i hi=>(Uj _ _ i hi).symm) ht.2.1;have h2:=ih (way++[true]) r rest (by simp;omega) (by simp only[List.length_append,List.length_cons,List.length_nil,Nat.zero_add];exact ok.2.2.congr fun i hi=>(Uj _ _ i hi).symm) ht.2.2;have e0:(Pt.nd l r).bytes++rest=2::(l.bytes++(r.bytes++rest)):=by simp[Pt.bytes]
   rw[e0];simp only[rd,rd1,h1,h2,ht.1];rfl
theorem D1u {f:Nat} {way:List Bool} {b:List UInt8} {e:Nat}:rd f way b=.error e→e=10∨e=13:=by
 induction f generalizing way b e with
 | zero=>
  intro h;cases b with
  | nil=>injection h with h;exact .inl h.symm
  | cons k b=>
   simp only[rd,rd1]at h;repeat' (split at h)
   all_goals first | cases h;done | (injection h with h;subst h;first | exact .inl rfl | exact .inr rfl)
 | succ f ih=>
  intro h;cases b with
  | nil=>injection h with h;exact .inl h.symm
  | cons k b=>
   simp only[rd,rd1]at h;split at h
   ·cases h
   split at h
   ·split at h
    ·injection h with h;exact .inl h.symm
    ·split at h
     ·cases h
     ·injection h with h;exact .inr h.symm
   split at h
   ·split at h
    ·rename_i h1;injection h with h;subst h;exact ih h1
    ·split at h
     ·rename_i h1;injection h with h;subst h;exact ih h1
     ·split at h
      ·injection h with h;exact .inr h.symm
      ·cases h
   split at h
   ·split at h
    ·injection h with h;exact .inl h.symm
    ·cases h
   ·injection h with h;exact .inr h.symm
section
def RH (w:World) (g:Nat) (L:List (List UInt8)) (tl:List Value):Prop:=(∀k∈L,k.length=32)∧Bk w g 23 (c8 L.flatten++tl)
section
variable {w w' : World} {g : Nat} {L : List (List UInt8)} {tl : List Value}
theorem RH.lt (h:RH w g L tl):g<w.heap.size:=h.2.lt
theorem RH.below {B:Nat} (h:RH w g L tl) (hb:Below B w w') (hg:g<B):RH w' g L tl:=⟨h.1,h.2.below hb hg⟩
theorem RH.row (h:RH w g L tl) {i:Nat} {k:List UInt8} (hk:L[i]?=some k):C8 w ⟨g,i*32,none⟩ 32=some (c8 k):=by
 have hi:i<L.length:=(List.getElem?_eq_some_iff.1 hk).1;have hl:=Aj h.1;rw[h.2.row (by simp[hl];omega)];congr 1;have aA:=B5z h.1 hk;rw[List.drop_append_of_le_length (by simp[hl];omega),List.take_append_of_le_length (by simp[hl];omega)];rw[←aA];simp[c8,List.map_drop,List.map_take]
theorem RH.can (h:RH w g L tl) {i:Nat} (hi:i<L.length):P7 w ⟨g,i*32,none⟩ 32=true:=h.2.can (by simp[Aj h.1];omega)
theorem RH.can_to (h:RH w g L tl) {i n:Nat} (hi:i+n≤L.length):P7 w ⟨g,i*32,none⟩ (n*32)=true:=h.2.can (by simp[Aj h.1];omega)
theorem C7c:∀ {L:List (List UInt8)} (_:∀k∈L,k.length=32) {i:Nat} (x:List UInt8),x.length=32→i<L.length→L.flatten.take (i*32)++x++L.flatten.drop (i*32+32)=(L.set i x).flatten:=by
 intro L;induction L with
 | nil=>intro _ i x _ hi;simp at hi
 | cons q L ih=>
  intro h i x hx hi;have hq:=h q (by simp);cases i with
  | zero=>simp[←hq,List.drop_left]
  | succ i=>
   have:=ih (fun k hk=>h k (by simp[hk])) (i:=i) x hx (by simpa using hi);simp only[List.flatten_cons,List.set_cons_succ];rw[←this];have e1:(i+1)*32=q.length+i*32:=by omega
   have e2:(i+1)*32+32=q.length+(i*32+32):=by omega
   rw[e2,e1,List.take_append,List.drop_append];simp[List.take_of_length_le,List.drop_eq_nil_of_le]
theorem RH.set (h:RH w g L tl) {i:Nat} {x:List UInt8} (hx:x.length=32) (hi:i<L.length):RH (C4 w ⟨g,i*32,none⟩ (c8 x)) g (L.set i x) tl:=by
 refine ⟨fun k hk=>?_,?_⟩
 ·rcases List.mem_or_eq_of_mem_set hk with h1 | rfl
  ·exact h.1 k h1
  ·exact hx
 ·have hl:=Aj h.1;have:=h.2.put (o:=i*32) (vs:=c8 x) (by simp[hl,hx];omega);have e:(c8 L.flatten++tl).take (i*32)++c8 x++(c8 L.flatten++tl).drop (i*32+(c8 x).length)=c8 (L.set i x).flatten++tl:=by rw[←C7c h.1 x hx hi,E4,hx,List.take_append_of_le_length (by simp[hl];omega),List.drop_append_of_le_length (by simp[hl];omega)];simp[c8,List.map_drop,List.map_take]
  rw[e]at this;exact this
theorem Bj (w:World) (g o:Nat) (vs:List Value):w.grownBy (C4 w ⟨g,o,none⟩ vs) (some g):=by
 have h:=C0 (a:=⟨g,o,none⟩) (Below.refl 0 w) (Nat.zero_le _) vs;exact ⟨h.os,h.tape,h.output,h.size,fun k hk hne=>De _ _ _ _ _ (fun e=>hne (by rw[e]))⟩
theorem c8z (n:Nat):c8 (z8 n)=List.replicate n (v8 0):=by simp[c8,z8]
theorem RH.clear (h:RH w g L tl) {i n:Nat} (hi:i+n=L.length):∃L',L'.take i=L.take i∧L'.length=L.length∧RH (C4 w ⟨g,i*32,none⟩ (c8 (z8 (n*32)))) g L' tl:=by
 induction n generalizing w L i with
 | zero=>exact ⟨L,rfl,rfl,by simpa [z8,c8,C4,World.setCells] using h⟩
 | succ n ih=>
  have h1:=h.set (i:=i) (x:=z8 32) (by simp) (by omega);obtain⟨L',e1,e2,h2⟩:=ih h1 (i:=i+1) (by simp;omega);refine ⟨L',?_,by simpa using e2,?_⟩
  ·have:=congrArg (List.take i) e1;rw[List.take_take,List.take_take]at this;simpa [List.take_set_of_le] using this
  ·have e:C4 w ⟨g,i*32,none⟩ (c8 (z8 ((n+1)*32)))=C4 (C4 w ⟨g,i*32,none⟩ (c8 (z8 32))) ⟨g,(i+1)*32,none⟩ (c8 (z8 (n*32))):=by
    have hz:c8 (z8 ((n+1)*32))=c8 (z8 32)++c8 (z8 (n*32)):=by rw[c8z,c8z,c8z,show (n+1)*32=32+n*32 by omega];exact (List.replicate_append_replicate).symm
    have hs:∀(a b:List Value) (o:Nat) (w:World),w.setCells g o (a++b)=(w.setCells g o a).setCells g (o+a.length) b:=by
     intro a;induction a with
     | nil=>intro b o w;rfl
     | cons v a ih=>intro b o w;simp only[List.cons_append,World.setCells,ih,List.length_cons];rw[show o+1+a.length=o+(a.length+1) by omega]
    unfold C4;rw[hz,hs];simp[Nat.add_mul]
   rw[e];exact h2
end
theorem A6f {w:World} {g o n c:Nat} (ty:TypeId) (h:P7 w ⟨g,o,none⟩ (n*32)=true):(Builtin.clear_ #[42] ty #[.slice (some ⟨g,o,none⟩) n c]).run Tryz.prog w=.ok (.tuple #[]) (C4 w ⟨g,o,none⟩ (c8 (z8 (n*32)))):=by
 have hc:=Th.1 h;obtain⟨z,aA⟩:=E9 (A8 (z8 32));have aB:z.cells=(List.replicate 32 (v8 0)).toArray:=by rw[aA];exact congrArg List.toArray (c8z 32)
 have hz:(Builtin.zeroCells z.cells n).toList=c8 (z8 (n*32)):=by
  rw[c8z];apply List.ext_getElem
  ·simp[Builtin.zeroCells,aB]
  ·intro i h1 h2;have aD:i % 32<32:=Nat.mod_lt _ (by omega);simp[Builtin.zeroCells,aB,getElem!_pos,aD,-List.reduceReplicate]
 have aC:=run_storeCells_cells (P:=Tryz.prog) g o (c8 (z8 (n*32))) 0 w (fun j hj=>by simpa using (hc j (by simpa using hj)).1) (fun j hj=>by simpa using (hc j (by simpa using hj)).2) (by intro u hu;obtain⟨x,_,rfl⟩:=List.mem_map.1 hu;rfl);simp only[Nat.add_zero]at aC;cases n with
 | zero=>simp[Builtin.clear_,run_underlying Tryz.underlying42,z8,c8,C4,World.setCells]
 | succ n=>
  have aE:∀w,(zeroValue 23).run Tryz.prog w=.ok z w:=fun w=>by rw[aA];kernel_rfl
  simp[Builtin.clear_,run_underlying Tryz.underlying42,aE,hz,aC,C4]
section
variable (c : Nat) (la : Value) (p : List UInt8 → Bool) (eg : ∀ args w, (callFunc c args).run Tryz.prog w = .ok (.enter c args) w) (base : Nat) (w0 : World) (HP : ∀ W x, x.length = 32 → Below base w0 W → Calls Tryz.prog c #[A8 x, la] W fun e w' => e = .returned (.bool (p x)) ∧ Below W.heap.size W w')
include eg HP
theorem D7u (g cap:Nat) (ks:List (List UInt8)) (tl:List Value) (hn:ks.length≤1099511627776) (w:World) (hbs:base≤w.heap.size) (h0:Below base w0 w) (hR:RH w g ks tl) :
 Calls Tryz.prog 118 #[.slice (some ⟨g,0,none⟩) ks.length cap,.func (.func c) #[] #[la]] w fun e w'=>∃r:Int,e=.returned (.int .i64 r)∧Below w.heap.size w w'∧
  ((r=-1∧∀k∈ks,p k=false)∨∃(i:Nat) (k:List UInt8),r=(i:Int)∧ks[i]?=some k∧p k=true∧∀k∈ks.take i,p k=false):=by
 have aB:=Lib.hid HP;clear HP;go_enter Tryz.func118,Tryz.ntmps118;go_wp2_with fail;go_loopw [8] (fun t wr=>∃i:Nat,i≤ks.length∧t=.int .i64 (i:Int)∧(∀k∈ks.take i,p k=false)∧Below w.heap.size w wr) (fun t _=>ks.length-(intOf t).toNat)
 case atStart=>exact ⟨0,by omega,rfl,by simp,Below.refl _ _⟩
 case round=>
  obtain⟨i,hi,rfl,he,hb⟩:=hrel;by_cases hlt:i<ks.length
  ·obtain⟨k,hk⟩:∃k,ks[i]?=some k:=⟨_,List.getElem?_eq_getElem hlt⟩;have aC:=(hR.below hb hR.lt).row hk;have aD:=hR.1 k (List.mem_of_getElem? hk);have aA:=aB.out wr k aD (h0.trans (hb.mono hbs));have HK:=Lib.hid hk;have HE:=Lib.hid he;clear hk he;cases hq:p k with
   | true=>
    rw[hq]at aA;go_wp2_with (go_at_fn c;refine aA.mono ?_;rintro e w' ⟨rfl,hb'⟩);go_ret;exact ⟨_,rfl,hb.trans (hb'.mono hb.size),.inr ⟨i,k,rfl,HK.out,hq,HE.out⟩⟩
   | false=>
    rw[hq]at aA;go_wp2_with (go_at_fn c;refine aA.mono ?_;rintro e w' ⟨rfl,hb'⟩);go_roundw;case rel=>
     refine ⟨i+1,by omega,by go_num,fun x hx=>?_,hb.trans (hb'.mono hb.size)⟩;rw[Kv HK.out]at hx;rcases List.mem_append.1 hx with hx | hx
     ·exact HE.out x hx
     ·simp at hx;subst hx;exact hq
    case measure=>simp[intOf];omega
  ·obtain rfl:i=ks.length:=by omega
   go_wp2_with fail;go_ret;exact ⟨_,rfl,hb,.inl ⟨rfl,by simpa using he⟩⟩
theorem C2f (g cap:Nat) (ks:List (List UInt8)) (tl:List Value) (hn:ks.length≤1099511627776) (hc1:ks.length≤cap) (hc2:cap≤9223372036854775807) (w:World) (hbs:base≤g) (h0:Below base w0 w) (hR:RH w g ks tl) :
 Calls Tryz.prog 84 #[.slice (some ⟨g,0,none⟩) ks.length cap,.func (.func c) #[] #[la]] w fun e w'=>∃(m:Nat) (L:List (List UInt8)),e=.returned (.slice (some ⟨g,0,none⟩) m cap)∧m=(ks.filter fun k=>!p k).length∧w.grownBy w' (some g)∧RH w' g L tl∧L.length=ks.length∧L.take m=ks.filter fun k=>!p k:=by
 have aP:=hR.lt;have aG:=D7u c la p eg base w0 HP g cap ks tl hn w (by omega) h0 hR;have aX:=Lib.hid HP;have HI:=Lib.hid aG;clear HP aG;go_enter Tryz.func84,Tryz.ntmps84;go_wp2_with fail;refine HI.out.mono ?_;rintro e w1 ⟨r,rfl,aC,hr⟩;clear HI;rcases hr with ⟨rfl,hall⟩ | ⟨i0,k0,rfl,hk0,hp0,hpre⟩
 ·have e:(ks.filter fun k=>!p k)=ks:=List.filter_eq_self.2 fun k hk=>by simp[hall k hk]
  have aJ:w.grownBy w1 (some g):=⟨aC.os,aC.tape,aC.output,aC.size,fun k hk _=>aC.block k hk⟩;go_wp2_with fail;go_ret;exact ⟨ks.length,ks,rfl,by rw[e],aJ,hR.below aC aP,rfl,by rw[e];simp⟩
 ·have aY:i0<ks.length:=(List.getElem?_eq_some_iff.1 hk0).1;have aL:((i0:Int) == -1)=false:=beq_eq_false_iff_ne.2 (by omega);have aQ:Hid (ks.take i0=(ks.take (i0+1)).filter fun k=>!p k):=Lib.hid (by
   rw[Kv hk0,List.filter_append];have:(ks.take i0).filter (fun k=>!p k)=ks.take i0:=List.filter_eq_self.2 fun k hk=>by simp[hpre k hk]
   rw[this];simp[hp0])
  have aR:=hR.below aC aP;have aH:w.grownBy w1 (some g):=⟨aC.os,aC.tape,aC.output,aC.size,fun k hk _=>aC.block k hk⟩;clear hk0 hp0 hpre;go_wp2_with fail;go_loopw [5,6] (fun t5 t6 wr=>∃(i j:Nat) (L:List (List UInt8)),t5=.int .i64 (i:Int)∧t6=.int .i64 (j:Int)∧i<j∧j≤ks.length∧Hid (L.take i=(ks.take j).filter fun k=>!p k)∧Hid (L.drop j=ks.drop j)∧L.length=ks.length∧RH wr g L tl∧w.grownBy wr (some g)) (fun _ t6 _=>ks.length-(intOf t6).toNat)
  case atStart=>exact ⟨i0,i0+1,ks,rfl,by go_num,by omega,by omega,aQ,Lib.hid rfl,rfl,aR,aH⟩
  case round=>
   clear aQ aR aH aC aY aL;obtain⟨i,j,L,rfl,rfl,bE,bF,hT,hD,aS,aE,aM⟩:=hrel;by_cases hlt:j<ks.length
   ·obtain⟨x,hx⟩:∃x,L[j]?=some x:=⟨_,List.getElem?_eq_getElem (by omega)⟩;have aT:Hid (ks[j]?=some x):=Lib.hid (by have:=congrArg (·[0]?) hD.out;simpa [List.getElem?_drop,hx] using this.symm);have aN:=aE.row hx;have aI:=aE.1 x (List.mem_of_getElem? hx);have aD:=aE.can (i:=i) (by omega);have aZ:=aE.lt;obtain⟨wb,aF⟩:=E9 (C4 (wr.alloc (Obj.cells (c8 (z8 32)).toArray 23)) ⟨wr.heap.size,0,none⟩ (c8 x));have KX:Bk wb wr.heap.size 23 (c8 x):=by rw[aF];exact Bk.fresh wr _ (by simp[aI])
    have BX:Below wr.heap.size wr wb:=by rw[aF];exact C0 (Bh _ _) (Nat.le_refl _) _
    have bA:Below base w0 wr:=h0.grown aM (by omega) (fun k hk=>by injection hk with hk;omega);have aA:=aX.out wb x aI (bA.trans (BX.mono (by omega)));have HX:=Lib.hid hx;clear hx;have aK:=aE.below BX aZ;have aU:C8 (C4 (wr.alloc (Obj.cells (c8 (z8 32)).toArray 23)) ⟨wr.heap.size,0,none⟩ (c8 x)) ⟨wr.heap.size,0,none⟩ 32=some (c8 x):=by rw[←aF];have:=KX.rows;rwa [E4,aI]at this
    have aJ:w.grownBy wb (some g):=aM.trans ⟨BX.os,BX.tape,BX.output,BX.size,fun k hk _=>BX.block k hk⟩;have aV:Hid (L.drop (j+1)=ks.drop (j+1)):=Lib.hid (by have:=congrArg (List.drop 1) hD.out;simpa [List.drop_drop,Nat.add_comm] using this);cases hq:p x with
    | true=>
     rw[hq]at aA;go_wp2_with fail;rw[←aF];clear aF aU;refine aA.mono ?_;rintro e w' ⟨rfl,aB⟩;go_wp2_with fail;go_roundw;case rel=>exact ⟨i,j+1,L,rfl,by go_num,by omega,by omega,Lib.hid (by rw[Kv aT.out,List.filter_append,hT.out];simp[hq]),aV,aS,aK.below aB aK.lt,aJ.trans ⟨aB.os,aB.tape,aB.output,aB.size,fun k hk _=>aB.block k hk⟩⟩
     case measure=>simp[intOf];omega
    | false=>
     rw[hq]at aA;go_wp2_with fail;rw[←aF];clear aF aU;refine aA.mono ?_;rintro e w' ⟨rfl,aB⟩;have aO:=aK.below aB aK.lt;have bG:C8 w' ⟨wr.heap.size,0,none⟩ 32=some (c8 x):=by have:=(KX.bl aB).rows;rwa [E4,aI]at this
     have bH:=aO.can (i:=i) (by omega);have bB:w.grownBy w' (some g):=aJ.trans ⟨aB.os,aB.tape,aB.output,aB.size,fun k hk _=>aB.block k hk⟩;have bC:=aO.lt;clear aD aN;go_wp2_with fail;go_roundw;case rel=>
      refine ⟨i+1,j+1,L.set i x,by go_num,by go_num,by omega,by omega,Lib.hid ?_,Lib.hid ?_,by simp[aS],aO.set aI (by omega),bB.trans (Bj _ _ _ _)⟩
      ·rw[Kv aT.out,List.filter_append,←hT.out,Kv (q:=x) (by simp[show i<L.length by omega]),List.take_set_of_le (Nat.le_refl _)];simp[hq]
      ·rw[List.drop_set_of_lt (by omega)];exact aV.out
     case measure=>simp[intOf];omega
   ·obtain rfl:j=ks.length:=by omega
    have aD:=aE.can_to (i:=i) (n:=ks.length-i) (by omega);have bI:∀ty,(Builtin.clear_ #[42] ty #[.slice (some ⟨g,i*32,none⟩) (ks.length-i) (cap-i)]).run Tryz.prog wr=_:=fun ty=>A6f ty aD;obtain⟨L',e1,e2,bD⟩:=aE.clear (i:=i) (n:=ks.length-i) (by omega);have aW:=Lib.hid (show L'.take i=ks.filter fun k=>!p k by rw[e1,hT.out,List.take_length]);clear aD;go_wp2_with fail;go_ret;refine ⟨i,L',rfl,?_,aM.trans (Bj _ _ _ _),bD,by omega,aW.out⟩;rw[←aW.out];simp;omega
end
theorem RH.of_own {w:World} {base:Nat} {A:Option Addr} {n c:Nat} {ks:List (List UInt8)} (h:w.ownsRow base 23 32 (.slice A n c) n (c8 ks.flatten)) (hk:∀k∈ks,k.length=32) (hn:n=ks.length) (hp:0<n):∃g tl,A=some ⟨g,0,none⟩∧base≤g∧RH w g ks tl∧n≤c∧c≤9223372036854775807:=by
 rcases h.2 with ⟨hv,h0⟩ | ⟨g,cap,cur,hv,hbg,hh,hr,hm,hsz,ht⟩
 ·omega
 ·injection hv with h1 h2 h3;subst h1 h3;refine ⟨g,cur.toList.drop (n*32),rfl,hbg,⟨hk,?_⟩,hr,by unfold maxLen at hm;exact hm⟩;have e:c8 ks.flatten++cur.toList.drop (n*32)=cur.toList:=by rw[←ht,List.take_append_drop]
  rw[e];exact hh
theorem A7w (v:Value) (ks:List (List UInt8)) (w:World) (hv:Hs w 0 w.heap.size v ks) (hne:0<ks.length) (hn:ks.length≤1099511627) :
 Calls Tryz.prog 46 #[v] w fun e w'=>∃(g cap:Nat) (tl:List Value),e=.returned (.slice (some ⟨g,0,none⟩) ks.length cap)∧w.heap.size≤g∧RH w' g ks tl∧ks.length≤cap∧cap≤9223372036854775807∧Below w.heap.size w w':=by
 obtain⟨A,c,aD,aN,aO⟩:=hv.form;obtain⟨aA,A',c',aE,_,_,aF⟩:=hv;have hA:A=A':=by rw[aD]at aE;injection aE
 subst hA;subst aD;have aP:A.isNone=false:=by
  rcases aF with h | ⟨g,o,h,_⟩
  ·have:=congrArg List.length h;rw[E4,Aj aA]at this;simp at this;omega
  ·rw[h];rfl
 have hl:=Aj aA;have aB:Rd (w.alloc (.cells #[] 23)) 0 w.heap.size A (c8 ks.flatten):=aF.below (Bh _ _);have aQ:∀(w:World) (a:Option Addr) (n c n' c':Nat),(binOp .eql 42 (.slice a n c) (.slice none n' c')).run Tryz.prog w=.ok (.bool a.isNone) w:=fun w a n c n' c'=>Lib.run_eql_slice_nil w _ _ a n c n' c' Tryz.underlying42;go_enter Tryz.func46,Tryz.ntmps46;go_wp2_with (at_builtin;refine B6v 42 (A8 (z8 32)) 32 Tryz.underlying42 A2x (by simp[A8,Value.cells]) (by decide) (by decide) rfl _ _ rfl rfl (n:=0) (base:=w.heap.size) (World.ownsRow_made w #[] 0 (Nat.le_refl _) (Nat.zero_le _) (by simp)) A ks.length c rfl (c8 ks.flatten) (by simp[hl]) 0 _ aB (by intro u hu;obtain⟨x,_,rfl⟩:=List.mem_map.1 hu;rfl) (by omega) (by simp) ?_;intro A' c' w' aG aH aC aI aR aJ);go_ret;obtain⟨g,tl,rfl,aK,hR,aL,aM⟩:=RH.of_own (by simpa using aC) aA rfl (by omega);exact ⟨g,c',tl,by simp,aK,hR,aL,aM,(Bh _ _).trans aI⟩
end
section
theorem D6m {W:World} {base:Nat} {T:TypeId} {v:Value} {n:Nat} {ks:List (List UInt8)} (h:W.ownsRow base T 32 v n (c8 ks.flatten)) (hn:ks.length=n) (hk:∀k∈ks,k.length=32):Hs W base W.heap.size v ks:=by
 obtain⟨A,c,rfl,h1,h2⟩:=Ai h;subst hn;exact ⟨hk,A,c,rfl,h1,by unfold maxLen;exact h2,B8o h⟩
theorem Hs.less {w:World} {lo lo' B:Nat} {v:Value} {l:List (List UInt8)} (h:Hs w lo B v l) (hB:lo'≤lo):Hs w lo' B v l:=let ⟨h0,A,c,h1,h2,h3,h4⟩:=h;⟨h0,A,c,h1,h2,h3,h4.less hB⟩
def Ee (w:World) (base:Nat) (v:Value) (ks:List (List UInt8)):Prop:=(∀k∈ks,k.length=32)∧w.ownsRow base 23 32 v ks.length (c8 ks.flatten)
theorem Ee.nil (w:World) (base:Nat):Ee w base (.slice none 0 0) []:=⟨by simp,World.ownsRow_nil w base _ _⟩
theorem Ee.below {w w':World} {base B:Nat} {v:Value} {ks:List (List UInt8)} (h:Ee w base v ks) (hb:Below B w w') (hB:w.heap.size≤B):Ee w' base v ks:=⟨h.1,Aw h.2 hb hB⟩
theorem Ee.hs {w:World} {base:Nat} {v:Value} {ks:List (List UInt8)} (h:Ee w base v ks):Hs w base w.heap.size v ks:=D6m h.2 rfl h.1
theorem Ee.form {w:World} {base:Nat} {v:Value} {ks:List (List UInt8)} (h:Ee w base v ks):∃A c,v=.slice A ks.length c∧ks.length≤c∧c≤9223372036854775807:=Ai h.2
section
variable {w : World} {base : Nat} {v : Value} {ks : List (List UInt8)} {ops : Array Oper} {rest : List Oper} {o : Oper} {a : Act} {Q : Exit → Act → World → Prop}
end
end
section
theorem B7x (w:World):Calls Tryz.prog 46 #[.slice none 0 0] w fun e w'=>e=.returned (.slice none 0 0)∧w=w':=by
 have aA:∀(w:World) (a:Option Addr) (n c n' c':Nat),(binOp .eql 42 (.slice a n c) (.slice none n' c')).run Tryz.prog w=.ok (.bool a.isNone) w:=fun w a n c n' c'=>Lib.run_eql_slice_nil w _ _ a n c n' c' Tryz.underlying42;go_enter Tryz.func46,Tryz.ntmps46;go_wp2;go_ret;exact ⟨rfl,rfl⟩
theorem B3n (v:Value) (ks:List (List UInt8)) (w:World) (hv:Hs w 0 w.heap.size v ks) (hne:0<ks.length) (hn:ks.length≤1099511627) :
 Calls Tryz.prog 46 #[v] w fun e w'=>∃u,e=.returned u∧Ee w' w.heap.size u ks∧Below w.heap.size w w':=by
 obtain⟨A,c,aD,aK,aL⟩:=hv.form;obtain⟨aA,A',c',aE,_,_,aF⟩:=hv;have hA:A=A':=by rw[aD]at aE;injection aE
 subst hA;subst aD;have aM:A.isNone=false:=by
  rcases aF with h | ⟨g,o,h,_⟩
  ·have:=congrArg List.length h;rw[E4,Aj aA]at this;simp at this;omega
  ·rw[h];rfl
 have hl:=Aj aA;have aB:Rd (w.alloc (.cells #[] 23)) 0 w.heap.size A (c8 ks.flatten):=aF.below (Bh _ _);have aN:∀(w:World) (a:Option Addr) (n c n' c':Nat),(binOp .eql 42 (.slice a n c) (.slice none n' c')).run Tryz.prog w=.ok (.bool a.isNone) w:=fun w a n c n' c'=>Lib.run_eql_slice_nil w _ _ a n c n' c' Tryz.underlying42;go_enter Tryz.func46,Tryz.ntmps46;go_wp2_with (at_builtin;refine B6v 42 (A8 (z8 32)) 32 Tryz.underlying42 A2x (by simp[A8,Value.cells]) (by decide) (by decide) rfl _ _ rfl rfl (n:=0) (base:=w.heap.size) (World.ownsRow_made w #[] 0 (Nat.le_refl _) (Nat.zero_le _) (by simp)) A ks.length c rfl (c8 ks.flatten) (by simp[hl]) 0 _ aB (by intro u hu;obtain⟨x,_,rfl⟩:=List.mem_map.1 hu;rfl) (by omega) (by simp) ?_;intro A' c' w' aG aH aC aI aO aJ);go_ret;exact ⟨_,rfl,⟨aA,by simpa using aC⟩,(Bh _ _).trans aI⟩
def Ry (w:World) (row:Option Nat) (T:TypeId):Prop:=∀g,row=some g→∃cur fz,w.heap[g]?=some (.cells cur T fz)
section
variable {w w' : World} {row : Option Nat} {T : TypeId}
theorem Ry.up (h:Ry w row T) (hb:Below w.heap.size w w'):Ry w' row T:=fun g hg=>by
 obtain⟨c,f,h1⟩:=h g hg;exact ⟨c,f,(hb.block g (Array.getElem?_eq_some_iff.1 h1).1).trans h1⟩
theorem Ry.setCell (h:Ry w row T) (p:Addr) (u:Value):Ry (w.setCell p u) row T:=fun g hg=>by
 obtain⟨c,f,h1⟩:=h g hg;by_cases e:g=p.block
 ·subst e;simp[World.setCell,Array.getElem?_modify,h1]
 ·exact ⟨c,f,(Below.heap_setCell w p u g e).trans h1⟩
theorem Ry.putAt (h:Ry w row T) (g:Nat):∀(vs:List Value) (o:Nat),Ry (C4 w ⟨g,o,none⟩ vs) row T:=by
 intro vs;induction vs generalizing w with
 | nil=>intro o;exact h
 | cons v vs ih=>intro o;exact ih (h.setCell ⟨g,o,none⟩ v) (o+1)
theorem Ry.own (h:Ry w row T) {r:Option Nat} (hg:w.grownBy w' r) (hr:∀k,r=some k→∃o:Obj,w.heap[k]?=some o∧o.isCells=false):Ry w' row T:=fun g e=>by
 obtain⟨c,f,h1⟩:=h g e;refine ⟨c,f,(hg.block g (Array.getElem?_eq_some_iff.1 h1).1 fun e2=>?_).trans h1⟩;obtain⟨o,h2,h3⟩:=hr g e2.symm;rw[h1]at h2;injection h2 with h2;subst h2;cases h3
theorem Pj {base sz n:Nat} {v:Value} {xs:List Value} (h:w.ownsRow base T sz v n xs):Ry w v.ownBlock T:=by
 intro g hg;rcases h.2 with ⟨rfl,_⟩ | ⟨g',cap,cur,rfl,_,hh,_⟩
 ·cases hg
 ·injection hg with hg;subst hg;exact ⟨_,_,hh⟩
end
def KS (w:World) (v:Value) (ks:List (List UInt8)):Prop:=(v=.slice none 0 0∧ks=[])∨(Hs w 0 w.heap.size v ks∧0<ks.length∧Ry w v.ownBlock 23)
theorem KS.up {w w':World} {v:Value} {ks:List (List UInt8)} (h:KS w v ks) (hb:Below w.heap.size w w'):KS w' v ks:=by
 rcases h with h | ⟨h,hn,ht⟩
 ·exact .inl h
 ·exact .inr ⟨(h.below hb).more hb.size,hn,ht.up hb⟩
theorem A4p (v:Value) (ks:List (List UInt8)) (w:World) (hv:KS w v ks) (hn:ks.length≤1099511627) :
 Calls Tryz.prog 46 #[v] w fun e w'=>∃u,e=.returned u∧Ee w' w.heap.size u ks∧Below w.heap.size w w':=by
 rcases hv with ⟨rfl,rfl⟩ | ⟨h,hne,_⟩
 ·refine (B7x w).mono ?_;rintro e w' ⟨rfl,rfl⟩;exact ⟨_,rfl,Ee.nil _ _,Below.refl _ _⟩
 ·exact B3n v ks w h hne hn
end
theorem Ee.less {w:World} {base base':Nat} {v:Value} {ks:List (List UInt8)} (h:Ee w base v ks) (hb:base'≤base):Ee w base' v ks:=by
 refine ⟨h.1,h.2.1,?_⟩;rcases h.2.2 with h2 | ⟨g,cap,cur,hv,hg,r⟩
 ·exact .inl h2
 ·exact .inr ⟨g,cap,cur,hv,by omega,r⟩
def zk (i:Nat) (d:Tmp) (base:Nat) (ks:List (List UInt8)):Soup:=⟨i,d,fun v w=>Ee w base v ks,false⟩
def zl (i:Nat) (d:Tmp) (T:TypeId) (cs:List Value):Soup:=⟨i,d,fun v w=>∃p,v=.slice (some ⟨p,0,none⟩) 1 1∧Bk w p T cs,false⟩
theorem zk_mono (i:Nat) (d:Tmp) (base:Nat) (ks:List (List UInt8)):(zk i d base ks).mono:=fun _ _ _ h hb=>h.below hb (Nat.le_refl _)
theorem zl_mono (i:Nat) (d:Tmp) (T:TypeId) (cs:List Value):(zl i d T cs).mono:=fun _ _ _ ⟨p,e,h⟩ hb=>⟨p,e,h.bl hb⟩
noncomputable def Hn (ks:List (List UInt8)) (u:UV):Bool:=signedB u&&decide (u.ver=(ks.length:Int)+1)
noncomputable def Ms (ks:List (List UInt8)) (u:UV):List (List UInt8):=if Hn ks u then ks++[u.key] else []
noncomputable def Lx (ks:List (List UInt8)) (u:UV):Int:=if signedB u then (if u.ver=(ks.length:Int)+1 then 0 else 111) else 110
theorem D0g {ks:List (List UInt8)} {u:UV} (h:signedB u=false):Ms ks u=[]∧Lx ks u=110:=by
 unfold Ms Lx Hn;rw[h,Bool.false_and];exact ⟨if_neg (by decide),if_neg (by decide)⟩
theorem D3p {ks:List (List UInt8)} {u:UV} (h:signedB u=true) (h2:¬ u.ver=(ks.length:Int)+1):Ms ks u=[]∧Lx ks u=111:=by
 unfold Ms Lx Hn;rw[h,Bool.true_and,decide_eq_false h2,if_pos rfl,if_neg h2];exact ⟨if_neg (by decide),rfl⟩
theorem D0j {ks:List (List UInt8)} {u:UV} (h:signedB u=true) (h2:u.ver=(ks.length:Int)+1):Ms ks u=ks++[u.key]∧Lx ks u=0:=by
 unfold Ms Lx Hn;rw[h,Bool.true_and,decide_eq_true h2,if_pos rfl,if_pos h2];exact ⟨by first | rfl | exact if_pos rfl,rfl⟩
theorem KS.form {w:World} {v:Value} {ks:List (List UInt8)} (h:KS w v ks):∃A c,v=.slice A ks.length c:=by
 rcases h with ⟨rfl,rfl⟩ | ⟨h,_⟩
 ·exact ⟨none,0,rfl⟩
 ·obtain⟨A,c,e,_⟩:=h.form;exact ⟨A,c,e⟩
theorem B5x (v:Value) (ks:List (List UInt8)) (u:UV) (hu:u.Ok) (w:World) (hv:KS w v ks) (hkn:ks.length≤1000000):Calls Tryz.prog 29 #[v,Ws u] w fun e w'=>∃r,e=.returned (.tuple #[r,.int .i64 (Lx ks u)])∧Ee w' w.heap.size r (Ms ks u)∧Below w.heap.size w w':=by
 obtain⟨A,c,rfl⟩:=hv.form;have HP:=Lib.hid hv;have aN:=hu.key;have bB:=hu.len;obtain⟨n,hn⟩:=E9 (ks.length);have HN:=Lib.hid hn;rw[←hn]at HP hkn ⊢;clear hv hn;obtain⟨W0,aE⟩:=E9 ((w.alloc (Obj.cells (Ch u).toArray 63)));have hL:W0=O8 w [(63,(Ch u))]:=aE;have B0:=Rf hL;have aB:=Um hL rfl;clear hL;have f1:=Bk.rowvc (n:=129) (aB) ((hu.len));rw[aE]at f1;go_enter Tryz.func29,Tryz.ntmps29;go_wp2_with fail;rw[←aE];clear f1;clear aE;refine (A6e u hu W0).mono ?_;rintro e W2 ⟨rfl,b3⟩;have B2:=Q5 B0 b3;have aA:=aB.bl b3;clear b3 B0 aB;cases hsg:signedB u;case false=>
  have HR:=Lib.hid (D0g (ks:=ks) hsg);clear hsg;go_wp2_with fail;exact bodyPost_ret (v:=.tuple #[.slice none 0 0,.int .i64 110]) (Y7 rfl (N7.tmp rfl) (N7.tmp rfl)) rfl ⟨_,by rw[HR.out.2],by rw[HR.out.1];exact Ee.nil _ _,B2⟩
 case true=>
  have HS:=Lib.hid hsg;clear hsg;by_cases hve:u.ver=(n:Int)+1
  ·
   have aO:(u.ver != (n:Int)+1)=false:=by rw[hve];simp
   have HR:=Lib.hid (D0j HS.out (by rw[←HN.out];exact hve));clear hve;have f4:=UV.loadver (aA) hu;go_wp2_with fail;clear f4;clear aO;have S0:=Kg W2;have aQ:=Lib.hid (HP.out.up (C2 B2 S0 B2.size));refine Jh (fun W=>Bk W (w.heap.size) 63 (Ch u)) ?_;refine Fs (A:=?bC) [0,2,3] (aA.drew) (fun W hW=>?aR) ?bD;case aR=>have f3:=UV.loadkey hW hu;exact Gq
   refine N8 [zk 1 18 W2.drew.heap.size ks,zl 4 21 23 (c8 u.key)] (by kernel_rfl) (fun W hW=>aA.drew.bl hW) ?aS ?aT ?aU;case aS=>exact Z3 ⟨zk_mono _ _ _ _,Z3 ⟨zl_mono _ _ _ _,fun _ h=>by cases h⟩⟩
   case aT=>
    refine Z3 ⟨?s1,Z3 ⟨?s4,fun _ h=>by cases h⟩⟩;case s1=>
     intro o ho us W hW hp Q' hQ';obtain rfl:=Option.some.inj ho;clear hp ho;rw[C1]at hQ' ⊢;dsimp only[C7,E5,List.foldl,zk,zl]at hQ' ⊢;simp only[Cy];have aV:=Lib.hid (aQ.out.up hW);go_wp2_with fail;refine (A4p _ ks W aV.out (by rw[←HN.out];omega)).mono ?_;rintro e W2 ⟨r,rfl,O2,b2⟩;have O2:=Lib.hid (O2.less hW.size);go_wp2_with fail;exact Ea (hQ' _ _ b2 O2.out nofun)
    case s4=>intro o ho us W hW hp Q' hQ';obtain rfl:=Option.some.inj ho;clear hp ho;rw[C1]at hQ' ⊢;dsimp only[C7,E5,List.foldl,zk,zl]at hQ' ⊢;simp only[Cy];go_wp2_with fail;exact Ea (hQ' _ _ (Bh _ _) ⟨_,rfl,Bk.new W _ (c8 u.key)⟩ nofun)
   case aU=>
    intro us W1 b1 hg aG aW;have O1:Ee W1 W2.drew.heap.size (us 1) ks:=hg _ (Ca 0 rfl);obtain⟨p,aF,K4⟩:=hg _ (Ca 1 rfl);have aF:us 4=.slice (some ⟨p,0,none⟩) 1 1:=aF;have K4:Bk W1 p 23 (c8 u.key):=K4;obtain⟨A1,c1,aH,_,_⟩:=O1.form;rw[aH]at O1;rw[C1];dsimp only[E5,List.foldl,zk,zl];simp only[Cy];rw[aH,aF];clear hg aG aW aH aF;have aI:=aA.drew.bl b1;have BX:=C2 B2 (C2 S0 b1 S0.size) B2.size;have zc:=Nat.le_trans B2.size S0.size;have z1:=b1.size;rw[←HN.out]at O1 ⊢;have HO:=Lib.hid O1;have aX:Hid (Rd W1 0 W1.heap.size (some ⟨p,0,none⟩) (c8 u.key)):=Lib.hid (.inr ⟨p,0,rfl,Nat.zero_le _,K4.lt,fun j x hj=>by rw[Nat.zero_add];exact K4.at_ hj⟩);have aY:Hid (∀x∈c8 u.key,x.oneCell'=true):=Lib.hid (by intro x hx;obtain⟨y,_,rfl⟩:=List.mem_map.1 hx;rfl);clear O1 K4;refine Ci 5 fun Q' hQ'=>?_;dsimp only[C7];have aP:=Lib.hid hQ';clear hQ';go_wp2_with (at_builtin;refine B6v 42 (A8 (z8 32)) 32 Tryz.underlying42 A2x (by simp[A8,Value.cells]) (by decide) (by decide) rfl _ _ rfl rfl (n:=n) (base:=W2.drew.heap.size) (xs:=c8 ks.flatten) (by have:=HO.out.2;rwa [←HN.out]at this) (some ⟨p,0,none⟩) 1 1 rfl (c8 u.key) (by simp[aN]) 0 _ aX.out aY.out (by omega) z1 ?_;intro A' c' w5 aJ aK aD aL aZ aM);have aC:=aI.below aL aA.drew.lt;have bA:Hid (Ee w5 W2.drew.heap.size (.slice A' (n+1) c') (ks++[u.key])):=Lib.hid ⟨fun q hq=>by
     rcases List.mem_append.1 hq with hq | hq
     ·exact HO.out.1 q hq
     ·simp at hq;subst hq;exact aN,by
     have e:c8 (ks++[u.key]).flatten=c8 ks.flatten++c8 u.key:=by simp[c8]
     rw[e,List.length_append,List.length_singleton,←HN.out];exact aD⟩
    have B5:=BX.trans (aL.mono zc);clear aD aZ aM aJ aK aL;refine aP.out _ _ aC ?_;clear aP;refine Ci 6 fun Q' hQ'=>?_;dsimp only[C7];go_wp2_with fail;refine hQ' _ _ aC ?_;clear hQ';refine Ci 7 fun Q' hQ'=>?_;dsimp only[C7];go_wp2_with fail;refine hQ' _ _ aC ?_;clear hQ';refine It ?_;go_wp2_with fail;exact bodyPost_ret (v:=.tuple #[.slice A' (n+1) c',.int .i64 0]) (Y7 rfl (N7.tmp rfl) (N7.tmp rfl)) rfl ⟨_,by rw[HR.out.2],by rw[HR.out.1];exact bA.out.less zc,B5⟩
  ·
   have aO:(u.ver != (n:Int)+1)=true:=by simpa using hve
   have HR:=Lib.hid (D3p HS.out (by rw[←HN.out];exact hve));clear hve;have f5:=UV.loadver (aA) hu;go_wp2_with fail;clear f5;exact bodyPost_ret (v:=.tuple #[.slice none 0 0,.int .i64 111]) (Y7 rfl (N7.tmp rfl) (N7.tmp rfl)) rfl ⟨_,by rw[HR.out.2],by rw[HR.out.1];exact Ee.nil _ _,B2⟩
theorem B7y (e:Int) (p:Value) (d:Int) (m:Value) (w:World) :
 Calls Tryz.prog 19 #[.agg #[.int .i64 e,p,.int .i64 d,m]] w fun x w'=>x=.returned (.int .i64 e)∧Below w.heap.size w w':=by
 go_enter Tryz.func19,Tryz.ntmps19;go_wp2;go_ret;exact ⟨rfl,Bh _ _⟩
theorem A8r (e:Int) (a:Option Addr) (d:Int) (m:Value) (w:World) :
 Calls Tryz.prog 20 #[.agg #[.int .i64 e,.pointer a,.int .i64 d,m]] w fun x w'=>x=.returned (.agg #[.pointer a,.int .i64 d])∧Below w.heap.size w w':=by
 go_enter Tryz.func20,Tryz.ntmps20;go_wp2;exact bodyPost_ret (v:=.agg #[.pointer a,.int .i64 d]) (by simp[results,Tryz.results20,go_sem]) rfl ⟨rfl,by first | exact ((Bh _ _).alloc (by simp) _) | exact (((Bh _ _).alloc (by simp) _).setCell (by simp) _).setCell (by simp) _⟩
theorem C3x (t:Tr) (e:Int) (p:Value) (d:Int) (m:Value) (w:World) (h:At w w.heap.size t p) :
 Calls Tryz.prog 17 #[.agg #[.int .i64 e,p,.int .i64 d,m]] w fun x w'=>x=.returned (A8 t.root)∧Below w.heap.size w w':=by
 have hl:=Tr.root_length t;obtain⟨ap,rfl⟩:=h.form;obtain⟨w0,aA⟩:=E9 ((w.alloc (Obj.cells #[.int .i64 e,.pointer ap,.int .i64 d,m] 34)).alloc (Obj.cells (c8 (z8 32)).toArray 23));have B0:Below w.heap.size w w0:=by rw[aA];exact (Bh _ _).alloc (by simp) _
 have R0:Bk w0 (w.heap.size+1) 23 (c8 (z8 32)):=by rw[aA];simpa using Bk.new (w.alloc (Obj.cells #[.int .i64 e,.pointer ap,.int .i64 d,m] 34)) 23 (c8 (z8 32))
 go_enter Tryz.func17,Tryz.ntmps17;go_wp2_with fail;rw[←aA];clear aA;refine (Yy t _ _ w0 ((h.below B0).more B0.size)).mono ?_;rintro x w1 ⟨rfl,h1⟩;have R1:=R0.bl h1;have B1:=Q5 B0 h1;have aB:=Mh 32 R1 (by simp);go_wp2_with fail;exact bodyPost_ret (C5 rfl _ _ _ _ _ _ rfl (R1.puts (vs:=c8 t.root) (by simp[hl])) Tryz.underlying23 rfl (by simp[J9,hl])) rfl ⟨rfl,C0 B1 (by simp) _⟩
def RV (v:Value):Option (DataW Value×List MemPlace):=some (.held v,[])
def MapV (w:World) (b n:Nat) (m:List UInt8→Option Value):Prop:=∃D:DataW Value,w.ownsMap Tryz.prog 23 RV b n D∧
 ∀k:List UInt8,k.length=32→Maps.has D (A4l k)=(m k).isSome∧∀z,D.atKey (A4l k) z=(match m k with | some v=>.held v | none=>z)
def C5e (m:List UInt8→Option Value) (k:List UInt8) (v:Value):List UInt8→Option Value:=fun x=>if x=k then some v else m x
theorem MapV.made (w:World):MapV (w.alloc (.map #[] 0)) w.heap.size 0 (fun _=>none):=⟨.map [],World.ownsMap_made _ _ _ _,fun k hk=>⟨rfl,fun z=>rfl⟩⟩
theorem MapV.put {w:World} {b n:Nat} {m:List UInt8→Option Value} (h:MapV w b n m) {k:List UInt8} (hk:k.length=32) (v:Value) :
 ∃D:DataW Value,w.ownsMap Tryz.prog 23 RV b n D∧∀w',w'.ownsMap Tryz.prog 23 RV b (n+1) (D.put (A4l k) (.held v))→MapV w' b (n+1) (C5e m k v):=by
 obtain⟨D,hD,hl⟩:=h;refine ⟨D,hD,fun w' h'=>⟨_,h',fun k' hk'=>?_⟩⟩;unfold C5e;by_cases e:k'=k
 ·subst e;rw[if_pos rfl];exact ⟨Maps.has_put_same hD.isMap (B1t hk) _,fun z=>Maps.atKey_put_same hD.isMap (B1t hk) _ _⟩
 ·rw[if_neg e];have aA:=D4n hk' hk e;exact ⟨(Maps.has_put_other aA _).trans (hl k' hk').1,fun z=>(Maps.atKey_put_other aA _ _).trans ((hl k' hk').2 z)⟩
theorem MapV.kept {w w':World} {b n:Nat} {m:List UInt8→Option Value} {row:Option Nat} (h:MapV w b n m) (hg:w.grownBy w' row) (hne:some b≠row):MapV w' b n m:=by
 obtain⟨D,hD,h1⟩:=h;exact ⟨D,hD.kept hg hne,h1⟩
theorem MapV.below {w w':World} {b n B:Nat} {m:List UInt8→Option Value} (h:MapV w b n m) (hb:Below B w w') (hB:w.heap.size≤B):MapV w' b n m:=
 h.kept (row:=none) ⟨hb.os,hb.tape,hb.output,hb.size,fun k hk _=>hb.block k (by omega)⟩ (by simp)
theorem MapV.setCell {w:World} {b n:Nat} {m:List UInt8→Option Value} (h:MapV w b n m) {a:Addr} (ha:b≠a.block) (u:Value):MapV (w.setCell a u) b n m:=by
 obtain⟨D,hD,h1⟩:=h;exact ⟨D,hD.setCell ha u,h1⟩
theorem C1k (w:World):(zeroValue 42).run Tryz.prog w=.ok (.slice none 0 0) w:=by kernel_rfl
theorem MapV.look {w:World} {b n:Nat} {m:List UInt8→Option Value} (h:MapV w b n m) {k:List UInt8} (hk:k.length=32) :
 (Instr.lookup 32 (.map (some b)) (A8 k) false).run Tryz.prog w=.ok ((m k).getD (.slice none 0 0)) w:=by
 obtain⟨D,⟨es,aA,hb,F,_,rfl⟩,hl⟩:=h;obtain⟨_,h2⟩:=hl k hk;rcases Maps.fit_look false Kx Tryz.underlying32 (C1k w) hb F (Ue hk) with ⟨hrun,_,hat⟩ | ⟨e0,y,_,_,hrun,hRv,hat,_⟩
 ·cases hm:m k with
  | none=>exact hrun
  | some v=>
   have h3:=h2 .nil;rw[hat,hm]at h3;cases h3
 ·have hy:y.1=.held e0.val:=by have:some (DataW.held e0.val,([]:List MemPlace))=some y:=hRv;injection this with this;rw[←this]
  cases hm:m k with
  | none=>
   have h3:=h2 .nil;rw[hat,hm,hy]at h3;cases h3
  | some v=>
   have h3:=h2 .nil;rw[hat,hm,hy]at h3;injection h3 with h3;rw[←h3];exact hrun
def MV (w:World) (mv:Value) (m:List UInt8→Option Value):Prop:=(mv=.map none∧∀k,m k=none)∨∃b n,mv=.map (some b)∧MapV w b n m
theorem MV.up {w w':World} {mv:Value} {m:List UInt8→Option Value} (h:MV w mv m) (hb:Below w.heap.size w w'):MV w' mv m:=by
 rcases h with h | ⟨b,n,h1,h2⟩
 ·exact .inl h
 ·exact .inr ⟨b,n,h1,h2.below hb (Nat.le_refl _)⟩
theorem MV.look {w:World} {mv:Value} {m:List UInt8→Option Value} (h:MV w mv m) {k:List UInt8} (hk:k.length=32) :
 (Instr.lookup 32 mv (A8 k) false).run Tryz.prog w=.ok ((m k).getD (.slice none 0 0)) w:=by
 rcases h with ⟨rfl,hm⟩ | ⟨b,n,rfl,h2⟩
 ·rw[hm k];exact Maps.look_nil false Kx Tryz.underlying32 (C1k w) (Ue hk)
 ·exact h2.look hk
def A6y (w:World) (m:List UInt8→Option Value) (K:List UInt8→List (List UInt8)):Prop:=∀k,KS w ((m k).getD (.slice none 0 0)) (K k)
theorem A6y.up {w w':World} {m:List UInt8→Option Value} {K:List UInt8→List (List UInt8)} (h:A6y w m K) (hb:Below w.heap.size w w'):A6y w' m K:=fun k=>(h k).up hb
theorem A8l (e:Int) (ap:Option Addr) (d:Int) (mv:Value) (hmv:mv=.map none∨∃b,mv=.map (some b)) (m:List UInt8→Option Value) (K:List UInt8→List (List UInt8)) (id:List UInt8) (hid:id.length=32) (hkn:(K id).length≤1099511627) (w:World) (hm:MV w mv m) (hK:A6y w m K) :
 Calls Tryz.prog 23 #[.agg #[.int .i64 e,.pointer ap,.int .i64 d,mv],A8 id] w fun x w'=>∃u,x=.returned u∧Ee w' w.heap.size u (K id)∧Below w.heap.size w w':=by
 obtain⟨w0,aB⟩:=E9 ((w.alloc (Obj.cells #[.int .i64 e,.pointer ap,.int .i64 d,mv] 34)).alloc (Obj.cells (c8 id).toArray 23));have B0:Below w.heap.size w w0:=by rw[aB];exact (Bh _ _).alloc (by simp) _
 have aA:=(hm.up B0).look hid;have aC:=Lib.hid ((hK.up B0) id);have I0:Bk w0 (w.heap.size+1) 23 (c8 id):=by rw[aB];simpa using Bk.new (w.alloc (Obj.cells #[.int .i64 e,.pointer ap,.int .i64 d,mv] 34)) 23 (c8 id)
 have ri:=Bk.row8 (n:=32) I0 hid;obtain⟨v,hv⟩:=E9 ((m id).getD (.slice none 0 0));rw[←hv]at aA aC;rw[aB]at aA ri;clear hv I0 hm hK;rcases hmv with rfl | ⟨b,rfl⟩;all_goals
  go_enter Tryz.func23,Tryz.ntmps23;go_wp2_with fail;rw[←aB];refine (A4p v _ w0 aC.out hkn).mono ?_;rintro x w1 ⟨u,rfl,O1,b1⟩;have O:=Lib.hid (Ee.less O1 B0.size);clear O1;go_wp2_with fail;go_ret;exact ⟨_,rfl,O.out,C2 B0 b1 B0.size⟩
theorem B8i (w:World):Calls Tryz.prog 28 #[.map none] w fun e w'=>e=.returned (.map none)∧w=w':=by
 have hq:=fun w=>run_eql_map_nil_sl (P:=Tryz.prog) w 32 _ _ none Tryz.underlying32;go_enter Tryz.func28,Tryz.ntmps28;go_wp2;go_ret;exact ⟨rfl,rfl⟩
theorem B5d (b:Nat) (es:Array MapEntry) (clock:Nat) (w:World) (hb:w.heap[b]?=some (.map es clock)) :
 Calls Tryz.prog 28 #[.map (some b)] w fun e w'=>e=.returned (.map (some w.heap.size))∧w'=w.alloc (.map es clock):=by
 have hq:=fun w=>run_eql_map_nil_sl (P:=Tryz.prog) w 32 _ _ (some b) Tryz.underlying32;have aA:(callFunc 51 #[.iface 32 (.map (some b))]).run Tryz.prog w=.ok (.value (.iface 32 (.map (some w.heap.size)))) (w.alloc (.map es clock)):=by rw[run_callFunc_extern Tryz.func51 (by kernel_rfl) (by kernel_rfl) (by kernel_rfl) (e:=Extern.MapsClone.clone) (by kernel_rfl),run_maps_clone_sl w 32 hb];rfl
 have aB:=fun (W:World) (v:Value)=>run_typeAssert_map_sl (P:=Tryz.prog) W 32 20 _ _ v Tryz.underlying32;go_enter Tryz.func28,Tryz.ntmps28;go_wp2;go_ret;exact ⟨rfl,rfl⟩
end Go.Proofs.YtlegpkdighoflaaGreat
