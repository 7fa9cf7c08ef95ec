/- A part of the proof of AuditBatch. -/
import Derived.Test.YtdfpoofbgjilgaaGreatUaz
set_option linter.unusedVariables false
set_option linter.unusedSimpArgs false
set_option maxRecDepth 100000
set_option maxHeartbeats 40000000
namespace Go.Proofs.YtdfpoofbgjilgaaGreat
open Go Go.RowKit Sh
def Tr.cut:Tr→List (List UInt8)→Nat→Pt
 | .e,_,_=>.e
 | .lf k v,ks,_=>if ks.isEmpty then .hd (Tr.lf k v).root else .lf k v
 | .nd l r,ks,d=>if ks.isEmpty then .hd (Tr.nd l r).root else .nd (l.cut (ks.filter fun x=>!E8 x d) (d+1)) (r.cut (ks.filter fun x=>E8 x d) (d+1))
def Gz:Pt→Tr→Prop
 | .e,.e=>True
 | .lf k v,.lf k' v'=>k=k'∧v=v'
 | .nd l r,.nd l' r'=>Gz l l'∧Gz r r'
 | .hd h,t=>h=t.root
 | _,_=>False
def Pt.knows (k:List UInt8):Nat→Pt→Prop
 | _,.hd _=>False
 | d,.nd l r=>if E8 k d then r.knows k (d+1) else l.knows k (d+1)
 | _,_=>True
theorem Gz.root:∀ {p:Pt} {t:Tr},Gz p t→p.root=t.root
 | .e,.e,_=>rfl
 | .lf _ _,.lf _ _,h=>by obtain⟨rfl,rfl⟩:=h;rfl
 | .nd _ _,.nd _ _,h=>by simp only[Pt.root,Tr.root];rw[Gz.root h.1,Gz.root h.2]
 | .hd h,t,e=>by cases t<;>exact e
 | .e,.lf _ _,h=>h.elim
 | .e,.nd _ _,h=>h.elim
 | .lf _ _,.e,h=>h.elim
 | .lf _ _,.nd _ _,h=>h.elim
 | .nd _ _,.e,h=>h.elim
 | .nd _ _,.lf _ _,h=>h.elim
theorem Gz.ok:∀ {p:Pt} {t:Tr} {d:Nat} {P:Nat→Bool},Gz p t→Ok d P t→p.Ok d P
 | .e,.e,_,_,_,_=>trivial
 | .lf _ _,.lf _ _,_,_,h,ok=>by obtain⟨rfl,rfl⟩:=h;exact ok
 | .nd _ _,.nd _ _,_,_,h,ok=>⟨ok.1,Gz.ok h.1 ok.2.2.1,Gz.ok h.2 ok.2.2.2⟩
 | .hd h,t,_,_,e,_=>by have e':h=t.root:=Gz.root (p:=.hd h) e;subst e';exact t.root_length
 | .e,.lf _ _,_,_,h,_=>h.elim
 | .e,.nd _ _,_,_,h,_=>h.elim
 | .lf _ _,.e,_,_,h,_=>h.elim
 | .lf _ _,.nd _ _,_,_,h,_=>h.elim
 | .nd _ _,.e,_,_,h,_=>h.elim
 | .nd _ _,.lf _ _,_,_,h,_=>h.elim
theorem A2p:∀(t:Tr) (ks:List (List UInt8)) (d:Nat),Gz (t.cut ks d) t
 | .e,_,_=>trivial
 | .lf k v,ks,d=>by
  by_cases h:ks.isEmpty=true<;>simp only[Tr.cut,h,if_true,if_false,Bool.false_eq_true]
  ·exact rfl
  ·exact ⟨rfl,rfl⟩
 | .nd l r,ks,d=>by
  by_cases h:ks.isEmpty=true<;>simp only[Tr.cut,h,if_true,if_false,Bool.false_eq_true]
  ·exact rfl
  ·exact ⟨A2p l _ _,A2p r _ _⟩
theorem Vj {k:List UInt8}:∀(t:Tr) (ks:List (List UInt8)) (d:Nat),k∈ks→(t.cut ks d).knows k d
 | .e,_,_,_=>trivial
 | .lf _ _,ks,d,hk=>by
  have h:ks.isEmpty=false:=by cases ks with | nil=>cases hk | cons _ _=>rfl
  simp only[Tr.cut,h,if_false,Bool.false_eq_true];trivial
 | .nd l r,ks,d,hk=>by
  have h:ks.isEmpty=false:=by cases ks with | nil=>cases hk | cons _ _=>rfl
  simp only[Tr.cut,h,if_false,Bool.false_eq_true,Pt.knows];by_cases hb:E8 k d=true
  ·simp only[hb,if_true];exact Vj r _ _ (List.mem_filter.2 ⟨hk,hb⟩)
  ·simp only[hb,if_false,Bool.false_eq_true];exact Vj l _ _ (List.mem_filter.2 ⟨hk,by simpa using hb⟩)
def Yc:Option (List UInt8)→List UInt8×Bool×Nat
 | some v=>(v,true,0)
 | none=>(z8 32,false,0)
theorem D2q (k:List UInt8) (d:Nat) (l r:Tr):(Tr.nd l r).look k d=if E8 k d then r.look k (d+1) else l.look k (d+1):=by
 unfold Tr.look;by_cases hb:E8 k d=true<;>simp only[Tr.lead,hb,if_true,if_false,Bool.false_eq_true]
theorem Zj {k:List UInt8}:∀ {p:Pt} {t:Tr} {d:Nat},Gz p t→p.knows k d→p.get k d=Yc (t.look k d)
 | .e,.e,_,_,_=>rfl
 | .lf k' v,.lf _ _,_,h,_=>by
  obtain⟨rfl,rfl⟩:=h;simp only[Pt.get,Tr.look,Tr.lead];by_cases e:k'=k<;>simp[e,Yc]
 | .nd l r,.nd l' r',d,h,hk=>by
  rw[D2q];simp only[Pt.get,Pt.knows]at hk ⊢;by_cases hb:E8 k d=true
  ·simp only[hb,if_true]at hk ⊢;exact Zj h.2 hk
  ·simp only[hb,if_false,Bool.false_eq_true]at hk ⊢;exact Zj h.1 hk
 | .hd h,_,_,_,hk=>hk.elim
 | .e,.lf _ _,_,h,_=>h.elim
 | .e,.nd _ _,_,h,_=>h.elim
 | .lf _ _,.e,_,h,_=>h.elim
 | .lf _ _,.nd _ _,_,h,_=>h.elim
 | .nd _ _,.e,_,h,_=>h.elim
 | .nd _ _,.lf _ _,_,h,_=>h.elim
theorem C6x {k v:List UInt8} (hk:k.length=32):∀(f d:Nat) (p:Pt) (t:Tr) (P:Nat→Bool),f+d=256→(∀i,i<d→E8 k i=P i)→Ok d P t→Gz p t→p.knows k d→
 ∃q,p.put k v f d=some q∧Gz q (Cz k v f d t)∧∀k',p.knows k' d→q.knows k' d:=by
 intro f;induction f with
 | zero=>
  intro d p t P aC ha ok hv aA;cases p with
  | e=>cases t with
   | e=>exact ⟨_,rfl,⟨rfl,rfl⟩,fun _ _=>trivial⟩
   | lf _ _=>exact hv.elim
   | nd _ _=>exact hv.elim
  | lf a b=>cases t with
   | e=>exact hv.elim
   | nd _ _=>exact hv.elim
   | lf k' v'=>
    obtain⟨rfl,rfl⟩:=hv;have e:a=k:=Lg ok.1 hk fun i hi=>by rw[ok.2.2 i (by omega),ha i (by omega)]
    subst e;exact ⟨.lf a v,by simp[Pt.put],by simp only[Cz,if_true];exact ⟨rfl,rfl⟩,fun _ _=>trivial⟩
  | nd l r=>cases t with
   | e=>exact hv.elim
   | lf _ _=>exact hv.elim
   | nd _ _=>exact absurd ok.1 (by omega)
  | hd h=>exact aA.elim
 | succ f ih=>
  intro d p t P aC ha ok hv aA;cases p with
  | e=>cases t with
   | e=>exact ⟨_,rfl,⟨rfl,rfl⟩,fun _ _=>trivial⟩
   | lf _ _=>exact hv.elim
   | nd _ _=>exact hv.elim
  | hd h=>exact aA.elim
  | lf a b=>cases t with
   | e=>exact hv.elim
   | nd _ _=>exact hv.elim
   | lf k' v'=>
    obtain⟨rfl,rfl⟩:=hv;by_cases e:a=k
    ·subst e;exact ⟨.lf a v,by simp[Pt.put],by simp only[Cz,if_true];exact ⟨rfl,rfl⟩,fun _ _=>trivial⟩
    ·have aB:∀c,E8 a d=c→Ok (d+1) (Fy P d c) (.lf a b):=fun c hc=>⟨ok.1,ok.2.1,fun i hi=>U3 ok.2.2 hc i hi⟩;by_cases hb:E8 k d=true<;>by_cases hc:E8 a d=true
     ·obtain⟨q,h1,h2,h3⟩:=ih (d+1) (.lf a b) (.lf a b) (Fy P d true) (by omega) (U3 ha hb) (aB _ hc) ⟨rfl,rfl⟩ trivial;refine ⟨.nd .e q,by simp[Pt.put,e,hb,hc,h1],by simp only[Cz,e,if_false,hb,hc,if_true];exact ⟨trivial,h2⟩,fun x _=>?_⟩;simp only[Pt.knows];split
      ·exact h3 x trivial
      ·trivial
     ·obtain⟨q,h1,h2,h3⟩:=ih (d+1) .e .e (Fy P d true) (by omega) (U3 ha hb) trivial trivial trivial;refine ⟨.nd (.lf a b) q,by simp[Pt.put,e,hb,hc,h1],by simp only[Cz,e,if_false,hb,hc,if_true,Bool.false_eq_true];exact ⟨⟨rfl,rfl⟩,by cases f<;>simpa only[Cz] using h2⟩,fun x _=>?_⟩;simp only[Pt.knows];split
      ·exact h3 x trivial
      ·trivial
     ·obtain⟨q,h1,h2,h3⟩:=ih (d+1) .e .e (Fy P d false) (by omega) (U3 ha (by simpa using hb)) trivial trivial trivial;refine ⟨.nd q (.lf a b),by simp[Pt.put,e,hb,hc,h1],by simp only[Cz,e,if_false,hb,hc,if_true,Bool.false_eq_true];exact ⟨by cases f<;>simpa only[Cz] using h2,⟨rfl,rfl⟩⟩,fun x _=>?_⟩;simp only[Pt.knows];split
      ·trivial
      ·exact h3 x trivial
     ·obtain⟨q,h1,h2,h3⟩:=ih (d+1) (.lf a b) (.lf a b) (Fy P d false) (by omega) (U3 ha (by simpa using hb)) (aB _ (by simpa using hc)) ⟨rfl,rfl⟩ trivial;refine ⟨.nd q .e,by simp[Pt.put,e,hb,hc,h1],by simp only[Cz,e,if_false,hb,hc,if_true,Bool.false_eq_true];exact ⟨h2,trivial⟩,fun x _=>?_⟩;simp only[Pt.knows];split
      ·trivial
      ·exact h3 x trivial
  | nd l r=>cases t with
   | e=>exact hv.elim
   | lf _ _=>exact hv.elim
   | nd l' r'=>
    by_cases hb:E8 k d=true
    ·simp only[Pt.knows,hb,if_true]at aA;obtain⟨q,h1,h2,h3⟩:=ih (d+1) r r' (Fy P d true) (by omega) (U3 ha hb) ok.2.2.2 hv.2 aA;refine ⟨.nd l q,by simp[Pt.put,hb,h1],by simp only[Cz,hb,if_true];exact ⟨hv.1,h2⟩,fun x hx=>?_⟩;simp only[Pt.knows]at hx ⊢;split at hx
     ·rename_i hc;simp only[hc,if_true];exact h3 x hx
     ·rename_i hc;simp only[hc,if_false,Bool.false_eq_true];exact hx
    ·simp only[Pt.knows,hb,if_false,Bool.false_eq_true]at aA;obtain⟨q,h1,h2,h3⟩:=ih (d+1) l l' (Fy P d false) (by omega) (U3 ha (by simpa using hb)) ok.2.2.1 hv.1 aA;refine ⟨.nd q r,by simp[Pt.put,hb,h1],by simp only[Cz,hb,if_false,Bool.false_eq_true];exact ⟨h2,hv.2⟩,fun x hx=>?_⟩;simp only[Pt.knows]at hx ⊢;split at hx
     ·rename_i hc;simp only[hc,if_true];exact hx
     ·rename_i hc;simp only[hc,if_false,Bool.false_eq_true];exact h3 x hx
def Pt.isE:Pt→Bool | .e=>true | _=>false
def Pt.isLf:Pt→Bool | .lf _ _=>true | _=>false
def ill (l r:Pt):Bool:=l.isE&&(r.isE||r.isLf)||r.isE&&l.isLf
def Pt.Tight:Pt→Prop
 | .nd l r=>ill l r=false∧l.Tight∧r.Tight
 | _=>True
theorem Gz.tight:∀ {p:Pt} {t:Tr} {d:Nat} {P:Nat→Bool},Gz p t→Ok d P t→p.Tight
 | .e,.e,_,_,_,_=>trivial
 | .lf _ _,.lf _ _,_,_,h,ok=>trivial
 | .nd l r,.nd l' r',_,_,h,ok=>by
  refine ⟨?_,Gz.tight h.1 ok.2.2.1,Gz.tight h.2 ok.2.2.2⟩;have hlen:=ok.2.1;have h1:=h.1;have h2:=h.2;clear h ok;cases l<;>cases r<;>cases l'<;>cases r'<;>first | rfl | exact h1.elim | exact h2.elim | (simp[Tr.len]at hlen)
 | .hd h,t,_,_,e,_=>trivial
 | .e,.lf _ _,_,_,h,_=>h.elim
 | .e,.nd _ _,_,_,h,_=>h.elim
 | .lf _ _,.e,_,_,h,_=>h.elim
 | .lf _ _,.nd _ _,_,_,h,_=>h.elim
 | .nd _ _,.e,_,_,h,_=>h.elim
 | .nd _ _,.lf _ _,_,_,h,_=>h.elim
theorem Pt.Ok.put {k v:List UInt8} (hk:k.length=32) (hv:v.length=32):∀(f d:Nat) (p q:Pt) (P:Nat→Bool),f+d=256→(∀i,i<d→E8 k i=P i)→p.Ok d P→p.put k v f d=some q→q.Ok d P∧q.bytes.length≤p.bytes.length+65+2*(f+1):=by
 intro f;induction f with
 | zero=>
  intro d p q P aC ha ok hq;cases p with
  | e=>simp only[Pt.put,Option.some.injEq]at hq;subst hq;exact ⟨⟨hk,hv,ha⟩,by simp[Pt.bytes,hk,hv]⟩
  | hd h=>cases hq
  | nd l r=>cases hq
  | lf a b=>
   simp only[Pt.put]at hq;split at hq
   ·simp only[Option.some.injEq]at hq;subst hq;exact ⟨⟨hk,hv,ha⟩,by simp[Pt.bytes,hk,hv]⟩
   ·cases hq
 | succ f ih=>
  intro d p q P aC ha ok hq;cases p with
  | e=>simp only[Pt.put,Option.some.injEq]at hq;subst hq;exact ⟨⟨hk,hv,ha⟩,by simp[Pt.bytes,hk,hv];omega⟩
  | hd h=>cases hq
  | nd l r=>
   simp only[Pt.put]at hq;split at hq
   ·rename_i hb
    obtain⟨x,hx,rfl⟩:=Option.map_eq_some_iff.1 hq;obtain⟨h1,h2⟩:=ih (d+1) r x (Fy P d true) (by omega) (U3 ha hb) ok.2.2 hx;exact ⟨⟨ok.1,ok.2.1,h1⟩,by simp only[Pt.bytes,List.length_append];omega⟩
   ·rename_i hb
    obtain⟨x,hx,rfl⟩:=Option.map_eq_some_iff.1 hq;obtain⟨h1,h2⟩:=ih (d+1) l x (Fy P d false) (by omega) (U3 ha (by simpa using hb)) ok.2.1 hx;exact ⟨⟨ok.1,h1,ok.2.2⟩,by simp only[Pt.bytes,List.length_append];omega⟩
  | lf a b=>
   simp only[Pt.put]at hq;split at hq
   ·simp only[Option.some.injEq]at hq;subst hq;exact ⟨⟨hk,hv,ha⟩,by simp[Pt.bytes,hk,hv];omega⟩
   ·have aB:∀c,E8 a d=c→Pt.Ok (d+1) (Fy P d c) (.lf a b):=fun c hc=>⟨ok.1,ok.2.1,fun i hi=>U3 ok.2.2 hc i hi⟩;have aA:a.length=32∧b.length=32:=⟨ok.1,ok.2.1⟩;by_cases hb:E8 k d=true<;>by_cases hc:E8 a d=true<;>simp only[hb,hc,if_true,if_false,Bool.false_eq_true]at hq<;>obtain⟨x,hx,rfl⟩:=Option.map_eq_some_iff.1 hq
    ·obtain⟨h1,h2⟩:=ih (d+1) _ x (Fy P d true) (by omega) (U3 ha hb) (aB _ hc) hx;exact ⟨⟨by omega,trivial,h1⟩,by simp only[Pt.bytes,List.length_append,List.length_cons,List.length_nil,aA.1,aA.2]at h2 ⊢;omega⟩
    ·obtain⟨h1,h2⟩:=ih (d+1) .e x (Fy P d true) (by omega) (U3 ha hb) trivial hx;exact ⟨⟨by omega,aB _ (by simpa using hc),h1⟩,by simp only[Pt.bytes,List.length_append,List.length_cons,List.length_nil,aA.1,aA.2]at h2 ⊢;omega⟩
    ·obtain⟨h1,h2⟩:=ih (d+1) .e x (Fy P d false) (by omega) (U3 ha (by simpa using hb)) trivial hx;exact ⟨⟨by omega,h1,aB _ hc⟩,by simp only[Pt.bytes,List.length_append,List.length_cons,List.length_nil,aA.1,aA.2]at h2 ⊢;omega⟩
    ·obtain⟨h1,h2⟩:=ih (d+1) _ x (Fy P d false) (by omega) (U3 ha (by simpa using hb)) (aB _ (by simpa using hc)) hx;exact ⟨⟨by omega,h1,trivial⟩,by simp only[Pt.bytes,List.length_append,List.length_cons,List.length_nil,aA.1,aA.2]at h2 ⊢;omega⟩
def chk (way:List Bool) (key:List UInt8):Bool:=(List.range way.length).all fun i=>E8 key i==way.getD i false
def rd1 (rec:List Bool→List UInt8→Except Nat (Pt×List UInt8)) (way:List Bool):List UInt8→Except Nat (Pt×List UInt8)
 | []=>.error 10
 | k::b=>
  if k=0 then .ok (.e,b)
  else if k=1 then if b.length<64 then .error 10 else if chk way (b.take 32) then .ok (.lf (b.take 32) ((b.drop 32).take 32),b.drop 64) else .error 13
  else if k=2 then match rec (way++[false]) b with
   | .error e=>.error e
   | .ok (l,b1)=>match rec (way++[true]) b1 with
    | .error e=>.error e
    | .ok (r,b2)=>if ill l r then .error 13 else .ok (.nd l r,b2)
  else if k=3 then if b.length<32 then .error 10 else .ok (.hd (b.take 32),b.drop 32)
  else .error 13
def rd:Nat→List Bool→List UInt8→Except Nat (Pt×List UInt8)
 | 0=>rd1 fun _ _=>.error 13
 | f+1=>rd1 (rd f)
def Ef (way:List Bool):Nat→Bool:=fun i=>way.getD i false
theorem Yd {way:List Bool} {key:List UInt8}:chk way key=true↔∀i,i<way.length→E8 key i=Ef way i:=by simp[chk,Ef]
theorem A5m {d:Nat} {P Q:Nat→Bool} (b:Bool) (h:∀i,i<d→P i=Q i):∀i,i<d+1→Fy P d b i=Fy Q d b i:=fun i hi=>by
 unfold Fy;split
 ·rfl
 ·exact h i (by omega)
theorem Pt.Ok.congr:∀ {p:Pt} {d:Nat} {P Q:Nat→Bool},p.Ok d P→(∀i,i<d→P i=Q i)→p.Ok d Q
 | .e,_,_,_,_,_=>trivial
 | .lf _ _,_,_,_,h,he=>⟨h.1,h.2.1,fun i hi=>(h.2.2 i hi).trans (he i hi)⟩
 | .nd _ _,d,P,Q,h,he=>⟨h.1,h.2.1.congr (A5m false he),h.2.2.congr (A5m true he)⟩
 | .hd _,_,_,_,h,_=>h
theorem Qa (way:List Bool) (b:Bool) (i:Nat) (hi:i<way.length+1):Ef (way++[b]) i=Fy (Ef way) way.length b i:=by
 unfold Ef Fy;split
 ·rename_i e;subst e;simp[List.getD_eq_getElem?_getD]
 ·rename_i e
  have:i<way.length:=by omega
  simp[List.getD_eq_getElem?_getD,List.getElem?_append_left this]
theorem B3f:∀(f:Nat) (way:List Bool) (b:List UInt8) (p:Pt) (rest:List UInt8),f+way.length=256→rd f way b=.ok (p,rest)→b=p.bytes++rest∧p.Ok way.length (Ef way)∧p.Tight:=by
 intro f;induction f with
 | zero=>
  intro way b p rest hf h;cases b with
  | nil=>cases h
  | cons k b=>
   simp only[rd,rd1]at h;split at h
   ·injection h with h;injection h with h1 h2;subst h1 h2;rename_i e;subst e;exact ⟨rfl,trivial,trivial⟩
   split at h
   ·split at h
    ·cases h
    split at h
    ·rename_i hl hc
     injection h with h;injection h with h1 h2;subst h1 h2;rename_i e0 e;subst e;refine ⟨?_,⟨by simp;omega,by simp;omega,Yd.1 hc⟩,trivial⟩;have e1:b.drop 64=(b.drop 32).drop 32:=by rw[List.drop_drop]
     simp only[Pt.bytes,List.cons_append,List.nil_append,List.append_assoc];rw[e1,List.take_append_drop,List.take_append_drop]
    ·cases h
   split at h
   ·cases h
   split at h
   ·split at h
    ·cases h
    ·rename_i hl
     injection h with h;injection h with h1 h2;subst h1 h2;rename_i e;subst e;refine ⟨?_,(by simp[Pt.Ok];omega),trivial⟩;simp only[Pt.bytes,List.cons_append,List.nil_append];rw[List.take_append_drop]
   ·cases h
 | succ f ih=>
  intro way b p rest hf h;cases b with
  | nil=>cases h
  | cons k b=>
   simp only[rd,rd1]at h;split at h
   ·injection h with h;injection h with h1 h2;subst h1 h2;rename_i e;subst e;exact ⟨rfl,trivial,trivial⟩
   split at h
   ·split at h
    ·cases h
    split at h
    ·rename_i hl hc
     injection h with h;injection h with h1 h2;subst h1 h2;rename_i e0 e;subst e;refine ⟨?_,⟨by simp;omega,by simp;omega,Yd.1 hc⟩,trivial⟩;have e1:b.drop 64=(b.drop 32).drop 32:=by rw[List.drop_drop]
     simp only[Pt.bytes,List.cons_append,List.nil_append,List.append_assoc];rw[e1,List.take_append_drop,List.take_append_drop]
    ·cases h
   split at h
   ·rename_i e;subst e
    split at h
    ·cases h
    ·rename_i l b1 h1
     split at h
     ·cases h
     ·rename_i r b2 h2
      split at h
      ·cases h
      ·rename_i hi
       injection h with h;injection h with h3 h4;subst h3 h4;obtain⟨e1,o1,t1⟩:=ih _ _ _ _ (by simp;omega) h1;obtain⟨e2,o2,t2⟩:=ih _ _ _ _ (by simp;omega) h2;simp only[List.length_append,List.length_cons,List.length_nil,Nat.zero_add]at o1 o2;refine ⟨by rw[e1,e2];simp[Pt.bytes],⟨by omega,o1.congr fun i hi=>Qa _ _ i hi,o2.congr fun i hi=>Qa _ _ i hi⟩,by simpa using hi,t1,t2⟩
   split at h
   ·split at h
    ·cases h
    ·rename_i hl
     injection h with h;injection h with h1 h2;subst h1 h2;rename_i e;subst e;refine ⟨?_,(by simp[Pt.Ok];omega),trivial⟩;simp only[Pt.bytes,List.cons_append,List.nil_append];rw[List.take_append_drop]
   ·cases h
theorem A9g {rec:List Bool→List UInt8→Except Nat (Pt×List UInt8)} {way:List Bool} {k v rest:List UInt8} (hk:k.length=32) (hv:v.length=32) (h:chk way k=true):rd1 rec way ((Pt.lf k v).bytes++rest)=.ok (.lf k v,rest):=by
 have e0:(Pt.lf k v).bytes++rest=1::(k++(v++rest)):=by simp[Pt.bytes]
 rw[e0];have e1:(k++(v++rest)).take 32=k:=by rw[←hk,List.take_left]
 have e2:(k++(v++rest)).drop 32=v++rest:=by rw[←hk,List.drop_left]
 have e3:(v++rest).take 32=v:=by rw[←hv,List.take_left]
 have e4:(k++(v++rest)).drop 64=rest:=by rw[show (64:Nat)=32+32 from rfl,←List.drop_drop,e2,←hv,List.drop_left]
 have e5:¬ (k++(v++rest)).length<64:=by simp[hk,hv];omega
 simp only[rd1,e1,e2,e3,e4,e5,h,if_false,if_true];rfl
theorem A2i {rec:List Bool→List UInt8→Except Nat (Pt×List UInt8)} {way:List Bool} {h rest:List UInt8} (hh:h.length=32):rd1 rec way ((Pt.hd h).bytes++rest)=.ok (.hd h,rest):=by
 have e0:(Pt.hd h).bytes++rest=3::(h++rest):=by simp[Pt.bytes]
 rw[e0];have e1:(h++rest).take 32=h:=by rw[←hh,List.take_left]
 have e2:(h++rest).drop 32=rest:=by rw[←hh,List.drop_left]
 have e5:¬ (h++rest).length<32:=by simp[hh]
 simp only[rd1,e1,e2,e5,if_false,if_true];rfl
theorem B0p:∀(f:Nat) (way:List Bool) (p:Pt) (rest:List UInt8),f+way.length=256→p.Ok way.length (Ef way)→p.Tight→rd f way (p.bytes++rest)=.ok (p,rest):=by
 intro f;induction f with
 | zero=>
  intro way p rest hf ok ht;cases p with
  | e=>rfl
  | lf k v=>exact A9g ok.1 ok.2.1 (Yd.2 ok.2.2)
  | hd h=>exact A2i ok
  | nd l r=>exact absurd ok.1 (by omega)
 | succ f ih=>
  intro way p rest hf ok ht;cases p with
  | e=>rfl
  | lf k v=>exact A9g ok.1 ok.2.1 (Yd.2 ok.2.2)
  | hd h=>exact A2i ok
  | nd l r=>
   have h1:=ih (way++[false]) l (r.bytes++rest) (by simp;omega) (by simp only[List.length_append,List.length_cons,List.length_nil,Nat.zero_add];exact ok.2.1.congr fun i hi=>(Qa _ _ i hi).symm) ht.2.1;have h2:=ih (way++[true]) r rest (by simp;omega) (by simp only[List.length_append,List.length_cons,List.length_nil,Nat.zero_add];exact ok.2.2.congr fun i hi=>(Qa _ _ i hi).symm) ht.2.2;have e0:(Pt.nd l r).bytes++rest=2::(l.bytes++(r.bytes++rest)):=by simp[Pt.bytes]
   rw[e0];simp only[rd,rd1,h1,h2,ht.1];rfl
theorem D0l {f:Nat} {way:List Bool} {b:List UInt8} {e:Nat}:rd f way b=.error e→e=10∨e=13:=by
 induction f generalizing way b e with
 | zero=>
  intro h;cases b with
  | nil=>injection h with h;exact .inl h.symm
  | cons k b=>
   simp only[rd,rd1]at h;repeat' (split at h)
   all_goals first | cases h;done | (injection h with h;subst h;first | exact .inl rfl | exact .inr rfl)
 | succ f ih=>
  intro h;cases b with
  | nil=>injection h with h;exact .inl h.symm
  | cons k b=>
   simp only[rd,rd1]at h;split at h
   ·cases h
   split at h
   ·split at h
    ·injection h with h;exact .inl h.symm
    ·split at h
     ·cases h
     ·injection h with h;exact .inr h.symm
   split at h
   ·split at h
    ·rename_i h1;injection h with h;subst h;exact ih h1
    ·split at h
     ·rename_i h1;injection h with h;subst h;exact ih h1
     ·split at h
      ·injection h with h;exact .inr h.symm
      ·cases h
   split at h
   ·split at h
    ·injection h with h;exact .inl h.symm
    ·cases h
   ·injection h with h;exact .inr h.symm
section
def RH (w:World) (g:Nat) (L:List (List UInt8)) (tl:List Value):Prop:=(∀k∈L,k.length=32)∧Bk w g 35 (c8 L.flatten++tl)
section
variable {w w' : World} {g : Nat} {L : List (List UInt8)} {tl : List Value}
theorem RH.lt (h:RH w g L tl):g<w.heap.size:=h.2.lt
theorem RH.below {B:Nat} (h:RH w g L tl) (hb:Below B w w') (hg:g<B):RH w' g L tl:=⟨h.1,h.2.below hb hg⟩
theorem RH.row (h:RH w g L tl) {i:Nat} {k:List UInt8} (hk:L[i]?=some k):C6 w ⟨g,i*32,none⟩ 32=some (c8 k):=by
 have hi:i<L.length:=(List.getElem?_eq_some_iff.1 hk).1;have hl:=X9 h.1;rw[h.2.row (by simp[hl];omega)];congr 1;have aA:=B2z h.1 hk;rw[List.drop_append_of_le_length (by simp[hl];omega),List.take_append_of_le_length (by simp[hl];omega)];rw[←aA];simp[c8,List.map_drop,List.map_take]
theorem RH.can (h:RH w g L tl) {i:Nat} (hi:i<L.length):E4 w ⟨g,i*32,none⟩ 32=true:=h.2.can (by simp[X9 h.1];omega)
theorem RH.can_to (h:RH w g L tl) {i n:Nat} (hi:i+n≤L.length):E4 w ⟨g,i*32,none⟩ (n*32)=true:=h.2.can (by simp[X9 h.1];omega)
theorem C2k:∀ {L:List (List UInt8)} (_:∀k∈L,k.length=32) {i:Nat} (x:List UInt8),x.length=32→i<L.length→L.flatten.take (i*32)++x++L.flatten.drop (i*32+32)=(L.set i x).flatten:=by
 intro L;induction L with
 | nil=>intro _ i x _ hi;simp at hi
 | cons q L ih=>
  intro h i x hx hi;have hq:=h q (by simp);cases i with
  | zero=>simp[←hq,List.drop_left]
  | succ i=>
   have:=ih (fun k hk=>h k (by simp[hk])) (i:=i) x hx (by simpa using hi);simp only[List.flatten_cons,List.set_cons_succ];rw[←this];have e1:(i+1)*32=q.length+i*32:=by omega
   have e2:(i+1)*32+32=q.length+(i*32+32):=by omega
   rw[e2,e1,List.take_append,List.drop_append];simp[List.take_of_length_le,List.drop_eq_nil_of_le]
theorem RH.set (h:RH w g L tl) {i:Nat} {x:List UInt8} (hx:x.length=32) (hi:i<L.length):RH (C5 w ⟨g,i*32,none⟩ (c8 x)) g (L.set i x) tl:=by
 refine ⟨fun k hk=>?_,?_⟩
 ·rcases List.mem_or_eq_of_mem_set hk with h1 | rfl
  ·exact h.1 k h1
  ·exact hx
 ·have hl:=X9 h.1;have:=h.2.put (o:=i*32) (vs:=c8 x) (by simp[hl,hx];omega);have e:(c8 L.flatten++tl).take (i*32)++c8 x++(c8 L.flatten++tl).drop (i*32+(c8 x).length)=c8 (L.set i x).flatten++tl:=by rw[←C2k h.1 x hx hi,C3,hx,List.take_append_of_le_length (by simp[hl];omega),List.drop_append_of_le_length (by simp[hl];omega)];simp[c8,List.map_drop,List.map_take]
  rw[e]at this;exact this
theorem X0 (w:World) (g o:Nat) (vs:List Value):w.grownBy (C5 w ⟨g,o,none⟩ vs) (some g):=by
 have h:=C1 (a:=⟨g,o,none⟩) (Below.refl 0 w) (Nat.zero_le _) vs;exact ⟨h.os,h.tape,h.output,h.size,fun k hk hne=>V7 _ _ _ _ _ (fun e=>hne (by rw[e]))⟩
theorem c8z (n:Nat):c8 (z8 n)=List.replicate n (v8 0):=by simp[c8,z8]
theorem RH.clear (h:RH w g L tl) {i n:Nat} (hi:i+n=L.length):∃L',L'.take i=L.take i∧L'.length=L.length∧RH (C5 w ⟨g,i*32,none⟩ (c8 (z8 (n*32)))) g L' tl:=by
 induction n generalizing w L i with
 | zero=>exact ⟨L,rfl,rfl,by simpa [z8,c8,C5,World.setCells] using h⟩
 | succ n ih=>
  have h1:=h.set (i:=i) (x:=z8 32) (by simp) (by omega);obtain⟨L',e1,e2,h2⟩:=ih h1 (i:=i+1) (by simp;omega);refine ⟨L',?_,by simpa using e2,?_⟩
  ·have:=congrArg (List.take i) e1;rw[List.take_take,List.take_take]at this;simpa [List.take_set_of_le] using this
  ·have e:C5 w ⟨g,i*32,none⟩ (c8 (z8 ((n+1)*32)))=C5 (C5 w ⟨g,i*32,none⟩ (c8 (z8 32))) ⟨g,(i+1)*32,none⟩ (c8 (z8 (n*32))):=by
    have hz:c8 (z8 ((n+1)*32))=c8 (z8 32)++c8 (z8 (n*32)):=by rw[c8z,c8z,c8z,show (n+1)*32=32+n*32 by omega];exact (List.replicate_append_replicate).symm
    have hs:∀(a b:List Value) (o:Nat) (w:World),w.setCells g o (a++b)=(w.setCells g o a).setCells g (o+a.length) b:=by
     intro a;induction a with
     | nil=>intro b o w;rfl
     | cons v a ih=>intro b o w;simp only[List.cons_append,World.setCells,ih,List.length_cons];rw[show o+1+a.length=o+(a.length+1) by omega]
    unfold C5;rw[hz,hs];simp[Nat.add_mul]
   rw[e];exact h2
end
theorem A3a {w:World} {g o n c:Nat} (ty:TypeId) (h:E4 w ⟨g,o,none⟩ (n*32)=true):(Builtin.clear_ #[26] ty #[.slice (some ⟨g,o,none⟩) n c]).run Tryz.prog w=.ok (.tuple #[]) (C5 w ⟨g,o,none⟩ (c8 (z8 (n*32)))):=by
 have hc:=Jw.1 h;obtain⟨z,aA⟩:∃z,z=A8 (z8 32):=⟨_,rfl⟩;have aB:z.cells=(List.replicate 32 (v8 0)).toArray:=by rw[aA];exact congrArg List.toArray (c8z 32)
 have hz:(Builtin.zeroCells z.cells n).toList=c8 (z8 (n*32)):=by
  rw[c8z];apply List.ext_getElem
  ·simp[Builtin.zeroCells,aB]
  ·intro i h1 h2;have aD:i % 32<32:=Nat.mod_lt _ (by omega);simp[Builtin.zeroCells,aB,getElem!_pos,aD,-List.reduceReplicate]
 have aC:=run_storeCells_cells (P:=Tryz.prog) g o (c8 (z8 (n*32))) 0 w (fun j hj=>by simpa using (hc j (by simpa using hj)).1) (fun j hj=>by simpa using (hc j (by simpa using hj)).2) (by intro u hu;obtain⟨x,_,rfl⟩:=List.mem_map.1 hu;rfl);simp only[Nat.add_zero]at aC;cases n with
 | zero=>simp[Builtin.clear_,run_underlying Tryz.underlying26,z8,c8,C5,World.setCells]
 | succ n=>
  have aE:∀w,(zeroValue 35).run Tryz.prog w=.ok z w:=fun w=>by rw[aA];kernel_rfl
  simp[Builtin.clear_,run_underlying Tryz.underlying26,aE,hz,aC,C5]
section
variable (c : Nat) (la : Value) (p : List UInt8 → Bool) (eg : ∀ args w, (callFunc c args).run Tryz.prog w = .ok (.enter c args) w) (base : Nat) (w0 : World) (HP : ∀ W x, x.length = 32 → Below base w0 W → Calls Tryz.prog c #[A8 x, la] W fun e w' => e = .returned (.bool (p x)) ∧ Below W.heap.size W w')
include eg HP
theorem D1k (g cap:Nat) (ks:List (List UInt8)) (tl:List Value) (hn:ks.length≤1099511627776) (w:World) (hbs:base≤w.heap.size) (h0:Below base w0 w) (hR:RH w g ks tl) :
 Calls Tryz.prog 190 #[.slice (some ⟨g,0,none⟩) ks.length cap,.func (.func c) #[] #[la]] w fun e w'=>∃r:Int,e=.returned (.int .i64 r)∧Below w.heap.size w w'∧
  ((r=-1∧∀k∈ks,p k=false)∨∃(i:Nat) (k:List UInt8),r=(i:Int)∧ks[i]?=some k∧p k=true∧∀k∈ks.take i,p k=false):=by
 have aB:=Lib.hid HP;clear HP;go_enter Tryz.func190,Tryz.ntmps190;go_wp2_with fail;go_loopw [8] (fun t wr=>∃i:Nat,i≤ks.length∧t=.int .i64 (i:Int)∧(∀k∈ks.take i,p k=false)∧Below w.heap.size w wr) (fun t _=>ks.length-(intOf t).toNat)
 case atStart=>exact ⟨0,by omega,rfl,by simp,Below.refl _ _⟩
 case round=>
  obtain⟨i,hi,rfl,he,hb⟩:=hrel;by_cases hlt:i<ks.length
  ·obtain⟨k,hk⟩:∃k,ks[i]?=some k:=⟨_,List.getElem?_eq_getElem hlt⟩;have aC:=(hR.below hb hR.lt).row hk;have aD:=hR.1 k (List.mem_of_getElem? hk);have aA:=aB.out wr k aD (h0.trans (hb.mono hbs));have HK:=Lib.hid hk;have HE:=Lib.hid he;clear hk he;cases hq:p k with
   | true=>
    rw[hq]at aA;go_wp2_with (go_at_fn c;refine aA.mono ?_;rintro e w' ⟨rfl,hb'⟩);go_ret;exact ⟨_,rfl,hb.trans (hb'.mono hb.size),.inr ⟨i,k,rfl,HK.out,hq,HE.out⟩⟩
   | false=>
    rw[hq]at aA;go_wp2_with (go_at_fn c;refine aA.mono ?_;rintro e w' ⟨rfl,hb'⟩);go_roundw;case rel=>
     refine ⟨i+1,by omega,by go_num,fun x hx=>?_,hb.trans (hb'.mono hb.size)⟩;rw[Ke HK.out]at hx;rcases List.mem_append.1 hx with hx | hx
     ·exact HE.out x hx
     ·simp at hx;subst hx;exact hq
    case measure=>simp[intOf];omega
  ·obtain rfl:i=ks.length:=by omega
   go_wp2_with fail;go_ret;exact ⟨_,rfl,hb,.inl ⟨rfl,by simpa using he⟩⟩
theorem B8t (g cap:Nat) (ks:List (List UInt8)) (tl:List Value) (hn:ks.length≤1099511627776) (hc1:ks.length≤cap) (hc2:cap≤9223372036854775807) (w:World) (hbs:base≤g) (h0:Below base w0 w) (hR:RH w g ks tl) :
 Calls Tryz.prog 149 #[.slice (some ⟨g,0,none⟩) ks.length cap,.func (.func c) #[] #[la]] w fun e w'=>∃(m:Nat) (L:List (List UInt8)),e=.returned (.slice (some ⟨g,0,none⟩) m cap)∧m=(ks.filter fun k=>!p k).length∧w.grownBy w' (some g)∧RH w' g L tl∧L.length=ks.length∧L.take m=ks.filter fun k=>!p k:=by
 have aP:=hR.lt;have aG:=D1k c la p eg base w0 HP g cap ks tl hn w (by omega) h0 hR;have aX:=Lib.hid HP;have HI:=Lib.hid aG;clear HP aG;go_enter Tryz.func149,Tryz.ntmps149;go_wp2_with fail;refine HI.out.mono ?_;rintro e w1 ⟨r,rfl,aC,hr⟩;clear HI;rcases hr with ⟨rfl,hall⟩ | ⟨i0,k0,rfl,hk0,hp0,hpre⟩
 ·have e:(ks.filter fun k=>!p k)=ks:=List.filter_eq_self.2 fun k hk=>by simp[hall k hk]
  have aJ:w.grownBy w1 (some g):=⟨aC.os,aC.tape,aC.output,aC.size,fun k hk _=>aC.block k hk⟩;go_wp2_with fail;go_ret;exact ⟨ks.length,ks,rfl,by rw[e],aJ,hR.below aC aP,rfl,by rw[e];simp⟩
 ·have aY:i0<ks.length:=(List.getElem?_eq_some_iff.1 hk0).1;have aL:((i0:Int) == -1)=false:=beq_eq_false_iff_ne.2 (by omega);have aQ:Hid (ks.take i0=(ks.take (i0+1)).filter fun k=>!p k):=Lib.hid (by
   rw[Ke hk0,List.filter_append];have:(ks.take i0).filter (fun k=>!p k)=ks.take i0:=List.filter_eq_self.2 fun k hk=>by simp[hpre k hk]
   rw[this];simp[hp0])
  have aR:=hR.below aC aP;have aH:w.grownBy w1 (some g):=⟨aC.os,aC.tape,aC.output,aC.size,fun k hk _=>aC.block k hk⟩;clear hk0 hp0 hpre;go_wp2_with fail;go_loopw [5,6] (fun t5 t6 wr=>∃(i j:Nat) (L:List (List UInt8)),t5=.int .i64 (i:Int)∧t6=.int .i64 (j:Int)∧i<j∧j≤ks.length∧Hid (L.take i=(ks.take j).filter fun k=>!p k)∧Hid (L.drop j=ks.drop j)∧L.length=ks.length∧RH wr g L tl∧w.grownBy wr (some g)) (fun _ t6 _=>ks.length-(intOf t6).toNat)
  case atStart=>exact ⟨i0,i0+1,ks,rfl,by go_num,by omega,by omega,aQ,Lib.hid rfl,rfl,aR,aH⟩
  case round=>
   clear aQ aR aH aC aY aL;obtain⟨i,j,L,rfl,rfl,bE,bF,hT,hD,aS,aE,aM⟩:=hrel;by_cases hlt:j<ks.length
   ·obtain⟨x,hx⟩:∃x,L[j]?=some x:=⟨_,List.getElem?_eq_getElem (by omega)⟩;have aT:Hid (ks[j]?=some x):=Lib.hid (by have:=congrArg (·[0]?) hD.out;simpa [List.getElem?_drop,hx] using this.symm);have aN:=aE.row hx;have aI:=aE.1 x (List.mem_of_getElem? hx);have aD:=aE.can (i:=i) (by omega);have aZ:=aE.lt;obtain⟨wb,aF⟩:∃wb,wb=C5 (wr.alloc (Obj.cells (c8 (z8 32)).toArray 35)) ⟨wr.heap.size,0,none⟩ (c8 x):=⟨_,rfl⟩;have KX:Bk wb wr.heap.size 35 (c8 x):=by rw[aF];exact Bk.fresh wr _ (by simp[aI])
    have BX:Below wr.heap.size wr wb:=by rw[aF];exact C1 ((Below.refl _ _).alloc (Nat.le_refl _) _) (Nat.le_refl _) _
    have bA:Below base w0 wr:=h0.grown aM (by omega) (fun k hk=>by injection hk with hk;omega);have aA:=aX.out wb x aI (bA.trans (BX.mono (by omega)));have HX:=Lib.hid hx;clear hx;have aK:RH wb g L tl:=aE.below BX aZ;have aU:C6 (C5 (wr.alloc (Obj.cells (c8 (z8 32)).toArray 35)) ⟨wr.heap.size,0,none⟩ (c8 x)) ⟨wr.heap.size,0,none⟩ 32=some (c8 x):=by rw[←aF];have:=KX.rows;rwa [C3,aI]at this
    have aJ:w.grownBy wb (some g):=aM.trans ⟨BX.os,BX.tape,BX.output,BX.size,fun k hk _=>BX.block k hk⟩;have aV:Hid (L.drop (j+1)=ks.drop (j+1)):=Lib.hid (by have:=congrArg (List.drop 1) hD.out;simpa [List.drop_drop,Nat.add_comm] using this);cases hq:p x with
    | true=>
     rw[hq]at aA;go_wp2_with fail;rw[←aF];clear aF aU;refine aA.mono ?_;rintro e w' ⟨rfl,aB⟩;go_wp2_with fail;go_roundw;case rel=>exact ⟨i,j+1,L,rfl,by go_num,by omega,by omega,Lib.hid (by rw[Ke aT.out,List.filter_append,hT.out];simp[hq]),aV,aS,aK.below aB aK.lt,aJ.trans ⟨aB.os,aB.tape,aB.output,aB.size,fun k hk _=>aB.block k hk⟩⟩
     case measure=>simp[intOf];omega
    | false=>
     rw[hq]at aA;go_wp2_with fail;rw[←aF];clear aF aU;refine aA.mono ?_;rintro e w' ⟨rfl,aB⟩;have aO:=aK.below aB aK.lt;have bG:C6 w' ⟨wr.heap.size,0,none⟩ 32=some (c8 x):=by have:=(KX.below aB KX.lt).rows;rwa [C3,aI]at this
     have bH:=aO.can (i:=i) (by omega);have bB:w.grownBy w' (some g):=aJ.trans ⟨aB.os,aB.tape,aB.output,aB.size,fun k hk _=>aB.block k hk⟩;have bC:=aO.lt;clear aD aN;go_wp2_with fail;go_roundw;case rel=>
      refine ⟨i+1,j+1,L.set i x,by go_num,by go_num,by omega,by omega,Lib.hid ?_,Lib.hid ?_,by simp[aS],aO.set aI (by omega),bB.trans (X0 _ _ _ _)⟩
      ·rw[Ke aT.out,List.filter_append,←hT.out,Ke (q:=x) (by simp[show i<L.length by omega]),List.take_set_of_le (Nat.le_refl _)];simp[hq]
      ·rw[List.drop_set_of_lt (by omega)];exact aV.out
     case measure=>simp[intOf];omega
   ·obtain rfl:j=ks.length:=by omega
    have aD:=aE.can_to (i:=i) (n:=ks.length-i) (by omega);have bI:∀ty,(Builtin.clear_ #[26] ty #[.slice (some ⟨g,i*32,none⟩) (ks.length-i) (cap-i)]).run Tryz.prog wr=_:=fun ty=>A3a ty aD;obtain⟨L',e1,e2,bD⟩:=aE.clear (i:=i) (n:=ks.length-i) (by omega);have aW:=Lib.hid (show L'.take i=ks.filter fun k=>!p k by rw[e1,hT.out,List.take_length]);clear aD;go_wp2_with fail;go_ret;refine ⟨i,L',rfl,?_,aM.trans (X0 _ _ _ _),bD,by omega,aW.out⟩;rw[←aW.out];simp;omega
end
theorem RH.of_own {w:World} {base:Nat} {A:Option Addr} {n c:Nat} {ks:List (List UInt8)} (h:w.ownsRow base 35 32 (.slice A n c) n (c8 ks.flatten)) (hk:∀k∈ks,k.length=32) (hn:n=ks.length) (hp:0<n):∃g tl,A=some ⟨g,0,none⟩∧base≤g∧RH w g ks tl∧n≤c∧c≤9223372036854775807:=by
 rcases h.2 with ⟨hv,h0⟩ | ⟨g,cap,cur,hv,hbg,hh,hr,hm,hsz,ht⟩
 ·omega
 ·injection hv with h1 h2 h3;subst h1 h3;refine ⟨g,cur.toList.drop (n*32),rfl,hbg,⟨hk,?_⟩,hr,by unfold maxLen at hm;exact hm⟩;have e:c8 ks.flatten++cur.toList.drop (n*32)=cur.toList:=by rw[←ht,List.take_append_drop]
  rw[e];exact hh
theorem A5v (v:Value) (ks:List (List UInt8)) (w:World) (hv:Hs w 0 w.heap.size v ks) (hne:0<ks.length) (hn:ks.length≤1099511627) :
 Calls Tryz.prog 69 #[v] w fun e w'=>∃(g cap:Nat) (tl:List Value),e=.returned (.slice (some ⟨g,0,none⟩) ks.length cap)∧w.heap.size≤g∧RH w' g ks tl∧ks.length≤cap∧cap≤9223372036854775807∧Below w.heap.size w w':=by
 obtain⟨A,c,aD,aN,aO⟩:=hv.form;obtain⟨aA,A',c',aE,_,_,aF⟩:=hv;have hA:A=A':=by rw[aD]at aE;injection aE
 subst hA;subst aD;have aP:A.isNone=false:=by
  rcases aF with h | ⟨g,o,h,_⟩
  ·have:=congrArg List.length h;rw[C3,X9 aA]at this;simp at this;omega
  ·rw[h];rfl
 have hl:=X9 aA;have aB:Rd (w.alloc (.cells #[] 35)) 0 w.heap.size A (c8 ks.flatten):=aF.below ((Below.refl _ _).alloc (Nat.le_refl _) _);have aQ:∀(w:World) (a:Option Addr) (n c n' c':Nat),(binOp .eql 26 (.slice a n c) (.slice none n' c')).run Tryz.prog w=.ok (.bool a.isNone) w:=fun w a n c n' c'=>Lib.run_eql_slice_nil w _ _ a n c n' c' Tryz.underlying26;go_enter Tryz.func69,Tryz.ntmps69;go_wp2_with (at_builtin;refine A9z 26 (A8 (z8 32)) 32 Tryz.underlying26 A3s (by simp[A8,Value.cells]) (by decide) (by decide) rfl _ _ rfl rfl (n:=0) (base:=w.heap.size) (World.ownsRow_made w #[] 0 (Nat.le_refl _) (Nat.zero_le _) (by simp)) A ks.length c rfl (c8 ks.flatten) (by simp[hl]) 0 _ aB (by intro u hu;obtain⟨x,_,rfl⟩:=List.mem_map.1 hu;rfl) (by omega) (by simp) ?_;intro A' c' w' aG aH aC aI aR aJ);go_ret;obtain⟨g,tl,rfl,aK,hR,aL,aM⟩:=RH.of_own (by simpa using aC) aA rfl (by omega);exact ⟨g,c',tl,by simp,aK,hR,aL,aM,((Below.refl _ _).alloc (Nat.le_refl _) _).trans aI⟩
end
theorem D2d {W:World} {base:Nat} {T:TypeId} {v:Value} {n:Nat} {ks:List (List UInt8)} (h:W.ownsRow base T 32 v n (c8 ks.flatten)) (hn:ks.length=n) (hk:∀k∈ks,k.length=32):Hs W base W.heap.size v ks:=by
 obtain⟨A,c,rfl,h1,h2⟩:=O7 h;subst hn;exact ⟨hk,A,c,rfl,h1,by unfold maxLen;exact h2,Sm h⟩
theorem Hs.less {w:World} {lo lo' B:Nat} {v:Value} {l:List (List UInt8)} (h:Hs w lo B v l) (hB:lo'≤lo):Hs w lo' B v l:=let ⟨h0,A,c,h1,h2,h3,h4⟩:=h;⟨h0,A,c,h1,h2,h3,h4.less hB⟩
def OwnK (w:World) (base:Nat) (v:Value) (ks:List (List UInt8)):Prop:=(∀k∈ks,k.length=32)∧w.ownsRow base 35 32 v ks.length (c8 ks.flatten)
theorem OwnK.nil (w:World) (base:Nat):OwnK w base (.slice none 0 0) []:=⟨by simp,World.ownsRow_nil w base _ _⟩
theorem OwnK.below {w w':World} {base B:Nat} {v:Value} {ks:List (List UInt8)} (h:OwnK w base v ks) (hb:Below B w w') (hB:w.heap.size≤B):OwnK w' base v ks:=⟨h.1,Q7 h.2 hb hB⟩
theorem OwnK.hs {w:World} {base:Nat} {v:Value} {ks:List (List UInt8)} (h:OwnK w base v ks):Hs w base w.heap.size v ks:=D2d h.2 rfl h.1
theorem OwnK.form {w:World} {base:Nat} {v:Value} {ks:List (List UInt8)} (h:OwnK w base v ks):∃A c,v=.slice A ks.length c∧ks.length≤c∧c≤9223372036854775807:=O7 h.2
section
theorem B4o (w:World):Calls Tryz.prog 69 #[.slice none 0 0] w fun e w'=>e=.returned (.slice none 0 0)∧w=w':=by
 have aA:∀(w:World) (a:Option Addr) (n c n' c':Nat),(binOp .eql 26 (.slice a n c) (.slice none n' c')).run Tryz.prog w=.ok (.bool a.isNone) w:=fun w a n c n' c'=>Lib.run_eql_slice_nil w _ _ a n c n' c' Tryz.underlying26;go_enter Tryz.func69,Tryz.ntmps69;go_wp2;go_ret;exact ⟨rfl,rfl⟩
theorem B2q (v:Value) (ks:List (List UInt8)) (w:World) (hv:Hs w 0 w.heap.size v ks) (hne:0<ks.length) (hn:ks.length≤1099511627) :
 Calls Tryz.prog 69 #[v] w fun e w'=>∃u,e=.returned u∧OwnK w' w.heap.size u ks∧Below w.heap.size w w':=by
 obtain⟨A,c,aD,aK,aL⟩:=hv.form;obtain⟨aA,A',c',aE,_,_,aF⟩:=hv;have hA:A=A':=by rw[aD]at aE;injection aE
 subst hA;subst aD;have aM:A.isNone=false:=by
  rcases aF with h | ⟨g,o,h,_⟩
  ·have:=congrArg List.length h;rw[C3,X9 aA]at this;simp at this;omega
  ·rw[h];rfl
 have hl:=X9 aA;have aB:Rd (w.alloc (.cells #[] 35)) 0 w.heap.size A (c8 ks.flatten):=aF.below ((Below.refl _ _).alloc (Nat.le_refl _) _);have aN:∀(w:World) (a:Option Addr) (n c n' c':Nat),(binOp .eql 26 (.slice a n c) (.slice none n' c')).run Tryz.prog w=.ok (.bool a.isNone) w:=fun w a n c n' c'=>Lib.run_eql_slice_nil w _ _ a n c n' c' Tryz.underlying26;go_enter Tryz.func69,Tryz.ntmps69;go_wp2_with (at_builtin;refine A9z 26 (A8 (z8 32)) 32 Tryz.underlying26 A3s (by simp[A8,Value.cells]) (by decide) (by decide) rfl _ _ rfl rfl (n:=0) (base:=w.heap.size) (World.ownsRow_made w #[] 0 (Nat.le_refl _) (Nat.zero_le _) (by simp)) A ks.length c rfl (c8 ks.flatten) (by simp[hl]) 0 _ aB (by intro u hu;obtain⟨x,_,rfl⟩:=List.mem_map.1 hu;rfl) (by omega) (by simp) ?_;intro A' c' w' aG aH aC aI aO aJ);go_ret;exact ⟨_,rfl,⟨aA,by simpa using aC⟩,((Below.refl _ _).alloc (Nat.le_refl _) _).trans aI⟩
def Mb (w:World) (row:Option Nat) (T:TypeId):Prop:=∀g,row=some g→∃cur fz,w.heap[g]?=some (.cells cur T fz)
section
variable {w w' : World} {row : Option Nat} {T : TypeId}
theorem Mb.up (h:Mb w row T) (hb:Below w.heap.size w w'):Mb w' row T:=fun g hg=>by
 obtain⟨c,f,h1⟩:=h g hg;exact ⟨c,f,(hb.block g (Array.getElem?_eq_some_iff.1 h1).1).trans h1⟩
theorem Mb.setCell (h:Mb w row T) (p:Addr) (u:Value):Mb (w.setCell p u) row T:=fun g hg=>by
 obtain⟨c,f,h1⟩:=h g hg;by_cases e:g=p.block
 ·subst e;simp[World.setCell,Array.getElem?_modify,h1]
 ·exact ⟨c,f,(Below.heap_setCell w p u g e).trans h1⟩
theorem Mb.putAt (h:Mb w row T) (g:Nat):∀(vs:List Value) (o:Nat),Mb (C5 w ⟨g,o,none⟩ vs) row T:=by
 intro vs;induction vs generalizing w with
 | nil=>intro o;exact h
 | cons v vs ih=>intro o;exact ih (h.setCell ⟨g,o,none⟩ v) (o+1)
theorem Mb.own (h:Mb w row T) {r:Option Nat} (hg:w.grownBy w' r) (hr:∀k,r=some k→∃o:Obj,w.heap[k]?=some o∧o.isCells=false):Mb w' row T:=fun g e=>by
 obtain⟨c,f,h1⟩:=h g e;refine ⟨c,f,(hg.block g (Array.getElem?_eq_some_iff.1 h1).1 fun e2=>?_).trans h1⟩;obtain⟨o,h2,h3⟩:=hr g e2.symm;rw[h1]at h2;injection h2 with h2;subst h2;cases h3
theorem Ae {base sz n:Nat} {v:Value} {xs:List Value} (h:w.ownsRow base T sz v n xs):Mb w v.ownBlock T:=by
 intro g hg;rcases h.2 with ⟨rfl,_⟩ | ⟨g',cap,cur,rfl,_,hh,_⟩
 ·cases hg
 ·injection hg with hg;subst hg;exact ⟨_,_,hh⟩
end
def KS (w:World) (v:Value) (ks:List (List UInt8)):Prop:=(v=.slice none 0 0∧ks=[])∨(Hs w 0 w.heap.size v ks∧0<ks.length∧Mb w v.ownBlock 35)
theorem KS.up {w w':World} {v:Value} {ks:List (List UInt8)} (h:KS w v ks) (hb:Below w.heap.size w w'):KS w' v ks:=by
 rcases h with h | ⟨h,hn,ht⟩
 ·exact .inl h
 ·exact .inr ⟨(h.below hb).more hb.size,hn,ht.up hb⟩
theorem A1z (v:Value) (ks:List (List UInt8)) (w:World) (hv:KS w v ks) (hn:ks.length≤1099511627) :
 Calls Tryz.prog 69 #[v] w fun e w'=>∃u,e=.returned u∧(OwnK w' w.heap.size u ks∧(ks=[]→u=.slice none 0 0))∧Below w.heap.size w w':=by
 rcases hv with ⟨rfl,rfl⟩ | ⟨h,hne,_⟩
 ·refine (B4o w).mono ?_;rintro e w' ⟨rfl,rfl⟩;exact ⟨_,rfl,⟨OwnK.nil _ _,fun _=>rfl⟩,Below.refl _ _⟩
 ·refine (B2q v ks w h hne hn).mono ?_;rintro e w' ⟨u,rfl,h1,h2⟩;exact ⟨u,rfl,⟨h1,fun e=>by rw[e]at hne;cases hne⟩,h2⟩
theorem B4x (v:Value) (ks:List (List UInt8)) (w:World) (hv:KS w v ks) (hn:ks.length≤1099511627) :
 Calls Tryz.prog 69 #[v] w fun e w'=>∃u,e=.returned u∧OwnK w' w.heap.size u ks∧Below w.heap.size w w':=
 (A1z v ks w hv hn).mono fun _ _ ⟨u,e,o,b⟩=>⟨u,e,o.1,b⟩
end
theorem OwnK.less {w:World} {base base':Nat} {v:Value} {ks:List (List UInt8)} (h:OwnK w base v ks) (hb:base'≤base):OwnK w base' v ks:=by
 refine ⟨h.1,h.2.1,?_⟩;rcases h.2.2 with h2 | ⟨g,cap,cur,hv,hg,r⟩
 ·exact .inl h2
 ·exact .inr ⟨g,cap,cur,hv,by omega,r⟩
def zk (i:Nat) (d:Tmp) (base:Nat) (ks:List (List UInt8)):Soup:=⟨i,d,fun v w=>OwnK w base v ks,false⟩
def zl (i:Nat) (d:Tmp) (T:TypeId) (cs:List Value):Soup:=⟨i,d,fun v w=>∃p,v=.slice (some ⟨p,0,none⟩) 1 1∧Bk w p T cs,false⟩
theorem zk_mono (i:Nat) (d:Tmp) (base:Nat) (ks:List (List UInt8)):(zk i d base ks).mono:=fun _ _ _ h hb=>h.below hb (Nat.le_refl _)
theorem zl_mono (i:Nat) (d:Tmp) (T:TypeId) (cs:List Value):(zl i d T cs).mono:=fun _ _ _ ⟨p,e,h⟩ hb=>⟨p,e,h.below hb h.lt⟩
noncomputable def Aw (ks:List (List UInt8)) (u:UV):Bool:=signedB u&&decide (u.ver=(ks.length:Int)+1)
noncomputable def Cn (ks:List (List UInt8)) (u:UV):List (List UInt8):=if Aw ks u then ks++[u.key] else []
noncomputable def Az (ks:List (List UInt8)) (u:UV):Int:=if signedB u then (if u.ver=(ks.length:Int)+1 then 0 else 111) else 110
theorem B3r {ks:List (List UInt8)} {u:UV} (h:signedB u=false):Cn ks u=[]∧Az ks u=110:=by
 unfold Cn Az Aw;rw[h,Bool.false_and];exact ⟨if_neg (by decide),if_neg (by decide)⟩
theorem B1s {ks:List (List UInt8)} {u:UV} (h:signedB u=true) (h2:¬ u.ver=(ks.length:Int)+1):Cn ks u=[]∧Az ks u=111:=by
 unfold Cn Az Aw;rw[h,Bool.true_and,decide_eq_false h2,if_pos rfl,if_neg h2];exact ⟨if_neg (by decide),rfl⟩
theorem B3q {ks:List (List UInt8)} {u:UV} (h:signedB u=true) (h2:u.ver=(ks.length:Int)+1):Cn ks u=ks++[u.key]∧Az ks u=0:=by
 unfold Cn Az Aw;rw[h,Bool.true_and,decide_eq_true h2,if_pos rfl,if_pos h2];exact ⟨by first | rfl | exact if_pos rfl,rfl⟩
theorem KS.form {w:World} {v:Value} {ks:List (List UInt8)} (h:KS w v ks):∃A c,v=.slice A ks.length c:=by
 rcases h with ⟨rfl,rfl⟩ | ⟨h,_⟩
 ·exact ⟨none,0,rfl⟩
 ·obtain⟨A,c,e,_⟩:=h.form;exact ⟨A,c,e⟩
theorem Th (v:Value) (ks:List (List UInt8)) (u:UV) (hu:u.Ok) (w:World) (hv:KS w v ks) (hkn:ks.length≤1000000):Calls Tryz.prog 41 #[v,Te u] w fun e w'=>∃r,e=.returned (.tuple #[r,.int .i64 (Az ks u)])∧OwnK w' w.heap.size r (Cn ks u)∧Below w.heap.size w w':=by
 obtain⟨A,c,rfl⟩:=hv.form;have HP:=Lib.hid hv;have aN:=hu.key;have bC:=hu.len;obtain⟨n,hn⟩:∃n,n=ks.length:=⟨_,rfl⟩;have HN:=Lib.hid hn;rw[←hn]at HP hkn ⊢;clear hv hn;obtain⟨W0,aE⟩:∃z,z=(w.alloc (Obj.cells (P9 u).toArray 48)):=⟨_,rfl⟩;have hL:W0=Y6 w [(48,(P9 u))]:=aE;have B0:Below w.heap.size w W0:=by rw[hL];exact N7 _ _
 have aB:Bk W0 (w.heap.size) 48 (P9 u):=by rw[hL];exact H7 _ w 0 _ _ rfl
 have z0:w.heap.size+1≤W0.heap.size:=by rw[hL,U1];simp
 have aQ:W0.heap.size=w.heap.size+1:=by rw[hL,U1];rfl
 clear hL;have f1:=Bk.rowvc (n:=129) (aB) ((hu.len));rw[aE]at f1;go_enter Tryz.func41,Tryz.ntmps41;go_wp2_with fail;rw[←aE];clear f1;clear aE aQ;refine (B7r u hu W0).mono ?_;rintro e W2 ⟨rfl,b3⟩;have B2:=C0 B0 b3 B0.size;have z2:=Nat.le_trans z0 b3.size;have aA:=aB.below b3 aB.lt;clear b3 B0 z0 aB;cases hsg:signedB u;case false=>
  have HR:=Lib.hid (B3r (ks:=ks) hsg);clear hsg;go_wp2_with fail;exact bodyPost_ret (v:=.tuple #[.slice none 0 0,.int .i64 110]) (E3 rfl (C9.tmp rfl) (C9.tmp rfl)) rfl ⟨_,by rw[HR.out.2],by rw[HR.out.1];exact OwnK.nil _ _,B2⟩
 case true=>
  have HS:=Lib.hid hsg;clear hsg;by_cases hve:u.ver=(n:Int)+1
  ·
   have aO:(u.ver != (n:Int)+1)=false:=by rw[hve];simp
   have HR:=Lib.hid (B3q HS.out (by rw[←HN.out];exact hve));clear hve;have f4:=UV.loadver (aA) hu;go_wp2_with fail;clear f4;clear aO;have S0:Below W2.heap.size W2 W2.drew:=(Below.refl _ _).drew;have aR:=Lib.hid (HP.out.up (C0 B2 S0 B2.size));refine D9 (fun W=>Bk W (w.heap.size) 48 (P9 u)) (by kernel_rfl) ?_;refine C4 (A:=?bD) [0,2,3] (by kernel_rfl) (by kernel_rfl) rfl (by kernel_rfl) (by kernel_rfl) (aA.drew) (h:=fun W hW=>?aS) (hr:=?bE);case aS=>
    have f3:=UV.loadkey hW hu;simp only[pick,List.getElem?_cons_zero,List.getElem?_cons_succ];repeat (go_big_quiet_step (fail))
    refine wpQuiet_nil ?_;rfl
   refine Bn [zk 1 18 W2.drew.heap.size ks,zl 4 21 35 (c8 u.key)] (by kernel_rfl) (fun W hW=>aA.drew.below hW aA.drew.lt) ?aT ?aU ?aV;case aT=>exact List.forall_mem_cons.2 ⟨zk_mono _ _ _ _,List.forall_mem_cons.2 ⟨zl_mono _ _ _ _,fun _ h=>by cases h⟩⟩
   case aU=>
    refine List.forall_mem_cons.2 ⟨?s1,List.forall_mem_cons.2 ⟨?s4,fun _ h=>by cases h⟩⟩;case s1=>
     intro o ho us W hW hp Q' hQ';obtain rfl:=Option.some.inj ho;clear hp ho;rw[C7]at hQ' ⊢;dsimp only[D8,H9,List.foldl,zk,zl]at hQ' ⊢;simp only[List.set_cons_succ,List.set_cons_zero];have aW:=Lib.hid (aR.out.up hW);go_wp2_with fail;refine (B4x _ ks W aW.out (by rw[←HN.out];omega)).mono ?_;rintro e W2 ⟨r,rfl,O2,b2⟩;have O2:=Lib.hid (O2.less hW.size);go_wp2_with fail;exact F0 (hQ' _ _ b2 O2.out (fun h=>by cases h)) (by kernel_rfl)
    case s4=>intro o ho us W hW hp Q' hQ';obtain rfl:=Option.some.inj ho;clear hp ho;rw[C7]at hQ' ⊢;dsimp only[D8,H9,List.foldl,zk,zl]at hQ' ⊢;simp only[List.set_cons_succ,List.set_cons_zero];go_wp2_with fail;exact F0 (hQ' _ _ ((Below.refl _ _).alloc (Nat.le_refl _) _) ⟨_,rfl,Bk.new W _ (c8 u.key)⟩ (fun h=>by cases h)) (by kernel_rfl)
   case aV=>
    intro us W1 b1 hg aG aX;have O1:OwnK W1 W2.drew.heap.size (us 1) ks:=hg _ (List.mem_of_getElem? (i:=0) rfl);obtain⟨p,aF,K4⟩:=hg _ (List.mem_of_getElem? (i:=1) rfl);have aF:us 4=.slice (some ⟨p,0,none⟩) 1 1:=aF;have K4:Bk W1 p 35 (c8 u.key):=K4;obtain⟨A1,c1,aH,_,_⟩:=O1.form;rw[aH]at O1;rw[C7];dsimp only[H9,List.foldl,zk,zl];simp only[List.set_cons_succ,List.set_cons_zero];rw[aH,aF];clear hg aG aX aH aF;have aI:=aA.drew.below b1 aA.drew.lt;have BX:=C0 B2 (C0 S0 b1 S0.size) B2.size;have zc:w.heap.size≤W2.drew.heap.size:=Nat.le_trans B2.size S0.size;have z1:=b1.size;rw[←HN.out]at O1 ⊢;have HO:=Lib.hid O1;have aY:Hid (Rd W1 0 W1.heap.size (some ⟨p,0,none⟩) (c8 u.key)):=Lib.hid (.inr ⟨p,0,rfl,Nat.zero_le _,K4.lt,fun j x hj=>by rw[Nat.zero_add];exact K4.at_ hj⟩);have aZ:Hid (∀x∈c8 u.key,x.oneCell'=true):=Lib.hid (by intro x hx;obtain⟨y,_,rfl⟩:=List.mem_map.1 hx;rfl);clear O1 K4;refine C2 5 (by kernel_rfl) (by rfl) (by rfl) (fun Q' hQ'=>?_);dsimp only[D8];have aP:=Lib.hid hQ';clear hQ';go_wp2_with (at_builtin;refine A9z 26 (A8 (z8 32)) 32 Tryz.underlying26 A3s (by simp[A8,Value.cells]) (by decide) (by decide) rfl _ _ rfl rfl (n:=n) (base:=W2.drew.heap.size) (xs:=c8 ks.flatten) (by have:=HO.out.2;rwa [←HN.out]at this) (some ⟨p,0,none⟩) 1 1 rfl (c8 u.key) (by simp[aN]) 0 _ aY.out aZ.out (by omega) z1 ?_;intro A' c' w5 aJ aK aD aL bA aM);have aC:=aI.below aL aA.drew.lt
    have bB:Hid (OwnK w5 W2.drew.heap.size (.slice A' (n+1) c') (ks++[u.key])):=Lib.hid ⟨fun q hq=>by
     rcases List.mem_append.1 hq with hq | hq
     ·exact HO.out.1 q hq
     ·simp at hq;subst hq;exact aN,by
     have e:c8 (ks++[u.key]).flatten=c8 ks.flatten++c8 u.key:=by simp[c8]
     rw[e,List.length_append,List.length_singleton,←HN.out];exact aD⟩
    have B5:Below w.heap.size w w5:=BX.trans (aL.mono zc);clear aD bA aM aJ aK aL;refine aP.out _ _ aC ?_;clear aP;refine C2 6 (by kernel_rfl) (by rfl) (by rfl) (fun Q' hQ'=>?_);dsimp only[D8];go_wp2_with fail;refine hQ' _ _ aC ?_;clear hQ';refine C2 7 (by kernel_rfl) (by rfl) (by rfl) (fun Q' hQ'=>?_);dsimp only[D8];go_wp2_with fail;refine hQ' _ _ aC ?_;clear hQ';refine E5 (by kernel_rfl) ?_;go_wp2_with fail;exact bodyPost_ret (v:=.tuple #[.slice A' (n+1) c',.int .i64 0]) (E3 rfl (C9.tmp rfl) (C9.tmp rfl)) rfl ⟨_,by rw[HR.out.2],by rw[HR.out.1];exact bB.out.less zc,B5⟩
  ·
   have aO:(u.ver != (n:Int)+1)=true:=by simpa using hve
   have HR:=Lib.hid (B1s HS.out (by rw[←HN.out];exact hve));clear hve;have f5:=UV.loadver (aA) hu;go_wp2_with fail;clear f5;exact bodyPost_ret (v:=.tuple #[.slice none 0 0,.int .i64 111]) (E3 rfl (C9.tmp rfl) (C9.tmp rfl)) rfl ⟨_,by rw[HR.out.2],by rw[HR.out.1];exact OwnK.nil _ _,B2⟩
theorem C3t (e:Int) (a:Option Addr) (d:Int) (m:Value) (w:World) :
 Calls Tryz.prog 48 #[.agg #[.int .i64 e,.pointer a,.int .i64 d,m]] w fun x w'=>x=.returned (.agg #[.pointer a,.int .i64 d])∧Below w.heap.size w w':=by
 go_enter Tryz.func48,Tryz.ntmps48;go_wp2;exact bodyPost_ret (v:=.agg #[.pointer a,.int .i64 d]) (by simp[results,Tryz.results48,go_sem]) rfl ⟨rfl,by first | exact (((Below.refl _ _).alloc (Nat.le_refl _) _).alloc (by simp) _) | exact ((((Below.refl _ _).alloc (Nat.le_refl _) _).alloc (by simp) _).setCell (by simp) _).setCell (by simp) _⟩
theorem C1d (t:Tr) (e:Int) (p:Value) (d:Int) (m:Value) (w:World) (h:At w w.heap.size t p) :
 Calls Tryz.prog 17 #[.agg #[.int .i64 e,p,.int .i64 d,m]] w fun x w'=>x=.returned (A8 t.root)∧Below w.heap.size w w':=by
 have hl:=Tr.root_length t;obtain⟨ap,rfl⟩:=h.form;obtain⟨w0,aA⟩:∃x,x=(w.alloc (Obj.cells #[.int .i64 e,.pointer ap,.int .i64 d,m] 56)).alloc (Obj.cells (c8 (z8 32)).toArray 35):=⟨_,rfl⟩;have B0:Below w.heap.size w w0:=by rw[aA];exact ((Below.refl _ _).alloc (Nat.le_refl _) _).alloc (by simp) _
 have R0:Bk w0 (w.heap.size+1) 35 (c8 (z8 32)):=by rw[aA];simpa using Bk.new (w.alloc (Obj.cells #[.int .i64 e,.pointer ap,.int .i64 d,m] 56)) 35 (c8 (z8 32))
 go_enter Tryz.func17,Tryz.ntmps17;go_wp2_with fail;rw[←aA];clear aA;refine (A4c t _ _ w0 ((h.below B0).more B0.size)).mono ?_;rintro x w1 ⟨rfl,h1⟩;have R1:=R0.below h1 R0.lt;have B1:=C0 B0 h1 B0.size;have aB:E4 w1 ⟨w.heap.size+1,0,none⟩ 32=true:=R1.can (by simp);go_wp2_with fail;exact bodyPost_ret (C8 rfl _ _ _ _ _ _ rfl (R1.puts (vs:=c8 t.root) (by simp[hl])) Tryz.underlying35 rfl (by simp[J5,hl])) rfl ⟨rfl,C1 B1 (by simp) _⟩
end Go.Proofs.YtdfpoofbgjilgaaGreat
