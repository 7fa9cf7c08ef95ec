/- A part of the proof of AuditBatch. -/
import Derived.Lib.Bytealg
import Derived.Test.YtdfpoofbgjilgaaGreatUbi
set_option linter.unusedVariables false
set_option linter.unusedSimpArgs false
set_option maxRecDepth 100000
set_option maxHeartbeats 40000000
namespace Go.Proofs.YtdfpoofbgjilgaaGreat
open Go Go.RowKit Sh
theorem Uc {a r:List UInt8} {n:Nat} (h:a.length=n):Lw n (a++r,0)=a:=by
 unfold Lw;rw[if_pos ⟨rfl,by simp;omega⟩];simp[←h]
theorem Iw {a r:List UInt8} {n:Nat} (h:a.length=n):Z9 n (a++r,0)=(r,0):=by
 unfold Z9;rw[if_pos rfl,if_pos (by simp;omega)];simp[←h]
theorem It (x:UInt64) (b:UInt8) (hx:x.toNat<72057594037927936):((x <<< 8) ||| b.toUInt64).toNat=x.toNat*256+b.toNat:=by
 have hb:=b.toNat_lt;have h1:(x <<< 8).toNat=x.toNat <<< 8:=by rw[UInt64.toNat_shiftLeft];have:(8:UInt64).toNat % 64=8:=rfl;rw[this];exact Nat.mod_eq_of_lt (by rw[Nat.shiftLeft_eq];omega)
 have h2:b.toUInt64.toNat=b.toNat:=UInt8.toNat_toUInt64 b;rw[UInt64.toNat_or,h1,h2,←Nat.shiftLeft_add_eq_or_of_lt (by omega),Nat.shiftLeft_eq]
theorem Ez (v:UInt64) (k:UInt64) (n:Nat) (hk:k.toNat % 64=n):((v >>> k).toUInt8).toNat=v.toNat / 2 ^ n % 256:=by
 rw[UInt64.toNat_toUInt8,UInt64.toNat_shiftRight,hk,Nat.shiftRight_eq_div_pow]
theorem B8o (v:UInt64):w8L (J9 v)=v:=by
 have hv:=v.toNat_lt;apply UInt64.toNat_inj.1;have b0:=Ez v 56 56 rfl;have b1:=Ez v 48 48 rfl;have b2:=Ez v 40 40 rfl;have b3:=Ez v 32 32 rfl;have b4:=Ez v 24 24 rfl;have b5:=Ez v 16 16 rfl;have b6:=Ez v 8 8 rfl;have b7:v.toUInt8.toNat=v.toNat % 256:=UInt64.toNat_toUInt8 v;have e:J9 v=[(v >>> 56).toUInt8,(v >>> 48).toUInt8,(v >>> 40).toUInt8,(v >>> 32).toUInt8,(v >>> 24).toUInt8,(v >>> 16).toUInt8,(v >>> 8).toUInt8,v.toUInt8]:=rfl;rw[e];unfold w8L;simp only[List.foldl_cons,List.foldl_nil];generalize (v >>> 56).toUInt8=x0 at *;generalize (v >>> 48).toUInt8=x1 at *;generalize (v >>> 40).toUInt8=x2 at *;generalize (v >>> 32).toUInt8=x3 at *;generalize (v >>> 24).toUInt8=x4 at *;generalize (v >>> 16).toUInt8=x5 at *;generalize (v >>> 8).toUInt8=x6 at *;generalize v.toUInt8=x7 at *;have l0:=x0.toNat_lt;have l1:=x1.toNat_lt;have l2:=x2.toNat_lt;have l3:=x3.toNat_lt;have l4:=x4.toNat_lt;have l5:=x5.toNat_lt;have l6:=x6.toNat_lt;have s0:=It 0 x0 (by decide);have z:(0:UInt64).toNat=0:=rfl;rw[z]at s0;generalize (0:UInt64) <<< 8 ||| x0.toUInt64=y0 at *;have s1:=It y0 x1 (by omega);generalize y0 <<< 8 ||| x1.toUInt64=y1 at *;have s2:=It y1 x2 (by omega);generalize y1 <<< 8 ||| x2.toUInt64=y2 at *;have s3:=It y2 x3 (by omega);generalize y2 <<< 8 ||| x3.toUInt64=y3 at *;have s4:=It y3 x4 (by omega);generalize y3 <<< 8 ||| x4.toUInt64=y4 at *;have s5:=It y4 x5 (by omega)
 generalize y4 <<< 8 ||| x5.toUInt64=y5 at *;have s6:=It y5 x6 (by omega);generalize y5 <<< 8 ||| x6.toUInt64=y6 at *;have s7:=It y6 x7 (by omega);rw[s7];omega
theorem Yl {k r:List UInt8} (h:k.length=32):Pz (k++r,0)=k:=by
 unfold Pz;rw[Uc h,if_neg (fun e=>by rw[e]at h;simp at h)]
theorem D2r {k r:List UInt8} (h:k.length=64):sgL (k++r,0)=k:=by
 unfold sgL;rw[Uc h,if_neg (fun e=>by rw[e]at h;simp at h)]
theorem A2n (r:List UInt8):Hk (r,0)=true:=by
 unfold Hk Jh;split<;>rfl
theorem A6r {v:UInt64} {r:List UInt8} {most:Nat} (h:v.toNat≤most):A7f most (J9 v++r,0)=v.toNat∧B3p most (J9 v++r,0)=(r,0):=by
 have e:w8N (J9 v++r,0)=v.toNat:=by unfold w8N;rw[Uc (Q8 v),B8o]
 unfold A7f B3p;rw[e,if_neg (by omega),if_neg (by omega),Iw (Q8 v)];exact ⟨rfl,rfl⟩
theorem C8g {v:Int} (h0:0≤v) (h1:v≤64):wrap64 (H6 (Fk v))=v∧(Fk v).toNat=v.toNat:=by
 have e:(Fk v).toNat=v.toNat:=by unfold Fk;rw[UInt64.toNat_ofNat'];omega
 refine ⟨?_,e⟩;unfold H6 wrap64;rw[e];omega
theorem D0p {u:UV} (hu:u.Ok) (h0:0≤u.ver) (h1:u.ver≤64) (r:List UInt8):A2v (Ia u++r,0)=u∧B3s (Ia u++r,0)=(r,0)∧B3n (Ia u++r,0)=false:=by
 have e:Ia u++r=u.id++(J9 (Fk u.ver)++(u.key++(u.sig++r))):=by simp[Ia]
 rw[e];obtain⟨v1,v2⟩:=C8g h0 h1;have a1:=Iw (r:=J9 (Fk u.ver)++(u.key++(u.sig++r))) hu.id;have a2:=Iw (r:=u.key++(u.sig++r)) (Q8 (Fk u.ver));have a3:=Iw (r:=u.sig++r) hu.key;have a4:=Iw (r:=r) hu.sig;have ev:upW (u.id++(J9 (Fk u.ver)++(u.key++(u.sig++r))),0)=Fk u.ver:=by unfold upW;rw[a1,Uc (Q8 _),B8o]
 refine ⟨?_,?_,?_⟩
 ·unfold A2v;rw[ev,v1,Yl hu.id,a1,a2,Yl hu.key,a3,D2r hu.sig]
 ·unfold B3s;rw[a1,a2,a3,a4]
 ·unfold B3n;rw[ev,v2];exact decide_eq_false (by omega)
theorem B1x:∀(us:List UV) (r:List UInt8) (acc:List UV) (f:Bool),(∀u∈us,u.Ok∧0≤u.ver∧u.ver≤64)→Vw us.length (us.flatMap Ia++r,0) acc f=(acc++us,f,(r,0))
 | [],r,acc,f,_=>by simp[Vw]
 | u::us,r,acc,f,h=>by
  obtain⟨h1,h2,h3⟩:=h u (by simp);obtain⟨e1,e2,e3⟩:=D0p h1 h2 h3 (us.flatMap Ia++r);have e:(u::us).flatMap Ia++r=Ia u++(us.flatMap Ia++r):=by simp
  rw[e,List.length_cons];unfold Vw;rw[A2n,if_pos rfl,e1,e2,e3,Bool.or_false,B1x us r _ f fun x hx=>h x (List.mem_cons_of_mem _ hx)];simp
theorem C3c {us:List UV} (h:∀u∈us,u.Ok∧0≤u.ver∧u.ver≤64) (hn:us.length≤65536):Ew (hbL us)=(us,0):=by
 have hb:=A6r (v:=UInt64.ofNat us.length) (r:=us.flatMap Ia) (most:=65536) (by rw[UInt64.toNat_ofNat'];omega);have hl:(UInt64.ofNat us.length).toNat=us.length:=by rw[UInt64.toNat_ofNat'];omega
 have hg:=B1x us [] [] false h;rw[List.append_nil]at hg;unfold Ew hbL Ie Jm;rw[hb.1,hb.2,hl,hg];simp[Jh]
noncomputable def Z0:List UV→List En→List UV
 | [],_=>[]
 | u::us,L=>if Aw (lookE L u.id) u then u::Z0 us (Bm u.id u.key L) else Z0 us L
noncomputable def moreE (us:List UV) (L:List En) (x:List UInt8):List UV:=(Z0 us L).filter fun u=>decide (u.id=x)
theorem Pk (u:UV):∀(us:List UV) (L:List En),Z0 (us++[u]) L=Z0 us L++if Aw (lookE (applyE us L) u.id) u then [u] else []
 | [],L=>by
  simp only[List.nil_append,Z0,applyE,List.foldl];rfl
 | x::us,L=>by
  rw[List.cons_append];have hs:applyE (x::us) L=applyE us (Bs L x):=rfl;rw[hs];unfold Z0 Bs;split
  ·rw[Pk u us];rfl
  ·rw[Pk u us]
theorem Hi:∀(us:List UV) (L:List En),∀u∈Z0 us L,u∈us
 | [],_,u,h=>by cases h
 | x::us,L,u,h=>by
  unfold Z0 at h;split at h
  ·rcases List.mem_cons.1 h with rfl | h
   ·exact List.mem_cons_self
   ·exact List.mem_cons_of_mem _ (Hi us _ u h)
  ·exact List.mem_cons_of_mem _ (Hi us _ u h)
theorem Uq:∀(us vs:List UV) (L:List En),Z0 (us++vs) L=Z0 us L++Z0 vs (applyE us L)
 | [],_,_=>rfl
 | u::us,vs,L=>by
  have hs:applyE (u::us) L=applyE us (Bs L u):=rfl;have e1:∀l,Z0 (u::l) L=if Aw (lookE L u.id) u then u::Z0 l (Bm u.id u.key L) else Z0 l L:=fun l=>by rw[Z0]
  rw[List.cons_append,hs,e1,e1];unfold Bs;split
  ·rw[Uq us vs,List.cons_append]
  ·rw[Uq us vs]
theorem OkE.apply:∀ {us:List UV} {L:List En},(∀u∈us,u.Ok)→OkE L→OkE (applyE us L)
 | [],_,_,ok=>ok
 | u::us,L,h,ok=>by
  have h1:=h u (by simp);show OkE (applyE us (Bs L u));unfold Bs;split
  ·exact OkE.apply (fun x hx=>h x (List.mem_cons_of_mem _ hx)) (ok.with h1.id h1.key)
  ·exact OkE.apply (fun x hx=>h x (List.mem_cons_of_mem _ hx)) ok
theorem Ft (x:List UInt8):∀ {us:List UV} {L:List En},(∀u∈us,u.Ok)→OkE L→lookE (applyE us L) x=lookE L x++(moreE us L x).map (·.key)
 | [],L,_,_=>by simp[applyE,moreE,Z0]
 | u::us,L,h,ok=>by
  have h1:=h u (by simp);show lookE (applyE us (Bs L u)) x=_;unfold moreE Z0 Bs;split
  ·rw[Ft x (fun y hy=>h y (List.mem_cons_of_mem _ hy)) (ok.with h1.id h1.key),Ce ok h1.id h1.key];unfold moreE;by_cases e:x=u.id
   ·subst e;rw[if_pos rfl];simp
   ·rw[if_neg e,List.filter_cons_of_neg (by simpa using fun h=>e h.symm)]
  ·rw[Ft x (fun y hy=>h y (List.mem_cons_of_mem _ hy)) ok];rfl
def A8e:List (List UInt8)→List UV→Prop
 | _,[]=>True
 | ks,u::us=>Aw ks u=true∧A8e (ks++[u.key]) us
theorem Kj (x:List UInt8):∀ {us:List UV} {L:List En},(∀u∈us,u.Ok)→OkE L→A8e (lookE L x) (moreE us L x)
 | [],L,_,_=>trivial
 | u::us,L,h,ok=>by
  have h1:=h u (by simp);unfold moreE Z0;split
  ·rename_i hn
   have ih:=Kj x (us:=us) (fun y hy=>h y (List.mem_cons_of_mem _ hy)) (ok.with h1.id h1.key);rw[Ce ok h1.id h1.key]at ih;by_cases e:x=u.id
   ·subst e;rw[if_pos rfl]at ih;rw[List.filter_cons_of_pos (by simp)];exact ⟨hn,ih⟩
   ·rw[if_neg e]at ih;rw[List.filter_cons_of_neg (by simpa using fun h=>e h.symm)];exact ih
  ·exact Kj x (fun y hy=>h y (List.mem_cons_of_mem _ hy)) ok
theorem Pm {us:List UV} {L:List En} {x:List UInt8}:∀u∈moreE us L x,u.id=x:=fun u hu=>by
 have:=(List.mem_filter.1 hu).2;simpa using this
theorem Ow {id:List UInt8} {p q:Pt}:∀ {us:List UV} {ks:List (List UInt8)},A8e ks us→(∀u∈us,u.id=id)→p.put id (U0 (ks++us.map (·.key))) 256 0=some q→Cy id p us ks=.ok q
 | [],ks,_,_,h=>by
  unfold Cy;rw[List.map_nil,List.append_nil]at h;rw[h]
 | u::us,ks,hc,hi,h=>by
  rw[Ro,if_pos (hi u (by simp)),if_pos (Db.2 hc.1),Qc hc.1];refine Ow hc.2 (fun x hx=>hi x (List.mem_cons_of_mem _ hx)) ?_;rw[List.append_assoc];exact h
theorem B5q {id:List UInt8} (hid:id.length=32) {p:Pt} {t:Tr} {ks:List (List UInt8)} {us:List UV} (hv:Gz p t) (ok:Okt t) (hk:p.knows id 0) (hl:t.look id 0=D3x ks) (hc:A8e ks us) (hi:∀u∈us,u.id=id) (hne:us≠[]) :
 ∃q,Qd p (id,ks,us)=.ok q∧Gz q (Rx t id (U0 (ks++us.map (·.key))))∧∀k,p.knows k 0→q.knows k 0:=by
 obtain⟨q,h1,h2,h3⟩:=C6x (k:=id) (v:=U0 (ks++us.map (·.key))) hid 256 0 p t P0 rfl (fun i hi=>by omega) ok hv hk;refine ⟨q,?_,h2,h3⟩;have hg:p.get id 0=Yc (D3x ks):=by rw[Zj hv hk,hl]
 unfold Qd;rw[if_neg hne];dsimp only;rw[hg];unfold D3x;by_cases h0:ks.length=0
 ·have e:ks=[]:=List.eq_nil_of_length_eq_zero h0;rw[if_pos h0];subst e;exact Ow hc hi h1
 ·rw[if_neg h0];have hd:decide (0<ks.length)=true:=decide_eq_true (by omega);simp only[Yc,hd,bne_self_eq_false,Bool.false_eq_true,if_false,if_true,ne_eq,not_true_eq_false,and_false];exact Ow hc hi h1
noncomputable def A1g (us:List UV) (L:List En) (S:List (List UInt8)) (t:Tr):Tr:=S.foldl (fun t x=>Rx t x (U0 (lookE L x++(moreE us L x).map (·.key)))) t
theorem A0c {us:List UV} {L:List En} (hu:∀u∈us,u.Ok) (okE:OkE L):∀ {S:List (List UInt8)} {p:Pt} {t:Tr} {pr:Option (List UInt8)},Gz p t→Okt t→(∀x∈S,p.knows x 0)→(∀x∈S,x.length=32)→(∀x∈S,moreE us L x≠[])→
 S.Pairwise (fun a b=>Lib.compareBytes a b<0)→S.Nodup→(∀x∈S,A2r pr x=false)→(∀x∈S,t.look x 0=D3x (lookE L x))→
 ∃q,Gy p pr (S.map fun x=>(x,lookE L x,moreE us L x))=.ok q∧Gz q (A1g us L S t)∧Okt (A1g us L S t)
 | [],p,t,pr,hv,ok,_,_,_,_,_,_,_=>⟨p,rfl,hv,ok⟩
 | x::S,p,t,pr,hv,ok,hk,hl,hm,hs,hn,hp,hlk=>by
  rw[List.pairwise_cons]at hs;rw[List.nodup_cons]at hn;have hx:=hl x (by simp);obtain⟨q,h1,h2,h3⟩:=B5q hx hv ok (hk x (by simp)) (hlk x (by simp)) (Kj x hu okE) Pm (hm x (by simp));have aA:=ok.put (k:=x) (v:=U0 (lookE L x++(moreE us L x).map (·.key))) hx (T7 _);obtain⟨q',g1,g2,g3⟩:=A0c hu okE (S:=S) (pr:=some x) h2 aA (fun y hy=>h3 y (hk y (by simp[hy]))) (fun y hy=>hl y (by simp[hy])) (fun y hy=>hm y (by simp[hy])) hs.2 hn.2 (fun y hy=>decide_eq_false (by have:=hs.1 y hy;omega)) (fun y hy=>by
   rw[A3o ok hx (T7 _),if_neg (fun e=>hn.1 (by rw[←e];exact hy))];exact hlk y (by simp[hy]))
  refine ⟨q',?_,g2,g3⟩;rw[List.map_cons];unfold Gy;dsimp only;rw[hp x (by simp),if_neg (by simp),h1];exact g1
theorem A2g {us:List UV} {L:List En}:∀ {S:List (List UInt8)} {t:Tr},Okt t→(∀x∈S,x.length=32)→∀k,(A1g us L S t).look k 0=if k∈S then some (U0 (lookE L k++(moreE us L k).map (·.key))) else t.look k 0
 | [],t,_,_,k=>by simp[A1g]
 | x::S,t,ok,hl,k=>by
  have hx:=hl x (by simp);have aA:=ok.put (k:=x) (v:=U0 (lookE L x++(moreE us L x).map (·.key))) hx (T7 _);have ih:=A2g (us:=us) (L:=L) (S:=S) aA (fun y hy=>hl y (by simp[hy])) k;show (A1g us L S _).look k 0=_;rw[ih,A3o ok hx (T7 _)];by_cases h:k∈S
  ·rw[if_pos h,if_pos (List.mem_cons_of_mem _ h)]
  ·rw[if_neg h];by_cases e:k=x
   ·subst e;rw[if_pos rfl,if_pos List.mem_cons_self]
   ·rw[if_neg e,if_neg (by simp[h,e])]
theorem B5a {us:List UV} {L:List En} {S:List (List UInt8)} {t t2:Tr} (hu:∀u∈us,u.Ok) (okE:OkE L) (ht:IsTree t L) (ht2:IsTree t2 (applyE us L)) (hl:∀x∈S,x.length=32) (hm:∀x,x∈S↔moreE us L x≠[]) (ok3:Okt (A1g us L S t)):A1g us L S t=t2:=by
 refine Ok.ext_mem ok3 ht2.ok fun x=>?_;obtain⟨k,v⟩:=x;rw[←Cj ok3,←Cj ht2.ok,A2g ht.ok hl,Ou ht2.ok (OkE.apply hu okE) ht2.prs,Ft k hu okE,Ou ht.ok okE ht.prs];by_cases h:k∈S
 ·rw[if_pos h,if_neg];intro e;rw[List.length_append,List.length_map]at e;exact (hm k).1 h (List.eq_nil_of_length_eq_zero (by omega))
 ·have h2:moreE us L k=[]:=by
   by_cases h3:moreE us L k=[]
   ·exact h3
   ·exact absurd ((hm k).2 h3) h
  rw[if_neg h,h2,List.map_nil,List.append_nil]
def goB (id:List UInt8) (ks:List (List UInt8)) (us:List UV):List UInt8:=id++(J9 (UInt64.ofNat ks.length)++(ks.flatten++(J9 (UInt64.ofNat (hbL us).length)++hbL us)))
def Mk (pl:List UInt8) (G:List Gr):List UInt8:=J9 (UInt64.ofNat pl.length)++(pl++(J9 (UInt64.ofNat G.length)++G.flatMap fun q=>goB q.1 q.2.1 q.2.2))
theorem D0a {l r:List UInt8} (h:l.length≤1048576):Xy (J9 (UInt64.ofNat l.length)++(l++r),0)=l∧rbS (J9 (UInt64.ofNat l.length)++(l++r),0)=(r,0):=by
 have hl:(UInt64.ofNat l.length).toNat=l.length:=by rw[UInt64.toNat_ofNat'];omega
 have hb:=A6r (v:=UInt64.ofNat l.length) (r:=l++r) (most:=1048576) (by rw[hl];exact h);unfold Xy rbS byN;rw[hb.1,hb.2,hl];exact ⟨Uc rfl,Iw rfl⟩
theorem B8l {n:Nat} {r:List UInt8} (h:n≤65536):Ie (J9 (UInt64.ofNat n)++r,0)=n∧Jm (J9 (UInt64.ofNat n)++r,0)=(r,0):=by
 have hl:(UInt64.ofNat n).toNat=n:=by rw[UInt64.toNat_ofNat'];omega
 have hb:=A6r (v:=UInt64.ofNat n) (r:=r) (most:=65536) (by rw[hl];exact h);unfold Ie Jm;rw[hb.1,hb.2,hl];exact ⟨rfl,rfl⟩
theorem B2a:∀(ks:List (List UInt8)) (r:List UInt8) (acc:List (List UInt8)),(∀k∈ks,k.length=32)→Mp ks.length (ks.flatten++r,0) acc=(acc++ks,(r,0))
 | [],r,acc,_=>by simp[Mp]
 | k::ks,r,acc,h=>by
  have hk:=h k (by simp);rw[List.flatten_cons,List.append_assoc,List.length_cons];unfold Mp;rw[A2n,if_pos rfl,Yl hk,Iw hk,B2a ks r _ fun x hx=>h x (List.mem_cons_of_mem _ hx)];simp
structure GrOk (q : Gr) : Prop where
 id:q.1.length=32
 key:∀k∈q.2.1,k.length=32
 keys:q.2.1.length≤65536
 up:∀u∈q.2.2,u.Ok∧0≤u.ver∧u.ver≤64
 ups:q.2.2.length≤7000
theorem GrOk.hb {q:Gr} (h:GrOk q):(hbL q.2.2).length≤1048576:=by
 unfold hbL;rw[List.length_append,Q8,Js fun u hu=>(h.up u hu).1];have:=h.ups;omega
theorem B2k:∀(G:List Gr) (out:List G0),(∀q∈G,GrOk q)→Lx G.length (G.flatMap fun q=>goB q.1 q.2.1 q.2.2,0) out=(out++G.map fun q=>(q.1,q.2.1,hbL q.2.2),([],0))
 | [],out,_=>by simp[Lx]
 | q::G,out,h=>by
  have hq:=h q (by simp);have e:((q::G).flatMap fun q=>goB q.1 q.2.1 q.2.2)=q.1++(J9 (UInt64.ofNat q.2.1.length)++(q.2.1.flatten++(J9 (UInt64.ofNat (hbL q.2.2).length)++(hbL q.2.2++G.flatMap fun q=>goB q.1 q.2.1 q.2.2)))):=by simp[goB]
  rw[e,List.length_cons];obtain⟨c1,c2⟩:=B8l (n:=q.2.1.length) (r:=q.2.1.flatten++(J9 (UInt64.ofNat (hbL q.2.2).length)++(hbL q.2.2++G.flatMap fun q=>goB q.1 q.2.1 q.2.2))) hq.keys;obtain⟨b1,b2⟩:=D0a (l:=hbL q.2.2) (r:=G.flatMap fun q=>goB q.1 q.2.1 q.2.2) hq.hb;unfold Lx;rw[A2n,if_pos rfl,Yl hq.id,Iw hq.id,c1,c2,B2a q.2.1 _ [] hq.key];dsimp only;rw[b1,b2,B2k G _ fun x hx=>h x (List.mem_cons_of_mem _ hx)];simp
theorem A5u:∀(G:List Gr) (acc:List Gr),(∀q∈G,GrOk q)→El (G.map fun q=>(q.1,q.2.1,hbL q.2.2)) acc=.ok (acc++G)
 | [],acc,_=>by simp[El]
 | q::G,acc,h=>by
  have hq:=h q (by simp);have hp:=C3c hq.up (by have:=hq.ups;omega);rw[List.map_cons];unfold El;dsimp only;rw[hp,if_pos rfl,A5u G _ fun x hx=>h x (List.mem_cons_of_mem _ hx)];simp
theorem B1o {p:Pt} {P:Nat→Bool} (ok:p.Ok 0 P) (ht:p.Tight) {G:List Gr} (hp:p.bytes.length≤1048576) (hG:∀q∈G,GrOk q) (hn:G.length≤65536):Da (Mk p.bytes G)=.ok (p,G):=by
 obtain⟨b1,b2⟩:=D0a (l:=p.bytes) (r:=J9 (UInt64.ofNat G.length)++G.flatMap fun q=>goB q.1 q.2.1 q.2.2) hp;obtain⟨c1,c2⟩:=B8l (n:=G.length) (r:=G.flatMap fun q=>goB q.1 q.2.1 q.2.2) hn;unfold Da Mk;rw[b1,b2,c1,c2,B2k G [] hG,List.nil_append,B2l ok ht];dsimp only;rw[A5u G [] hG];rfl
theorem Kc {α:Type} [BEq α] [LawfulBEq α]:∀ {l m:List α},l.Nodup→l ⊆ m→l.length≤m.length
 | [],_,_,_=>Nat.zero_le _
 | x::l,m,h,hs=>by
  rw[List.nodup_cons]at h;have hx:x∈m:=hs (by simp);have:=Kc (m:=m.erase x) h.2 (fun y hy=>(List.mem_erase_of_ne (fun e=>h.1 (by rw[←e];exact hy))).2 (hs (by simp[hy])));have hp:=List.length_pos_of_mem hx;rw[List.length_erase_of_mem hx]at this;simp only[List.length_cons];omega
theorem Zf {us:List UV} {L:List En} {S:List (List UInt8)} {t t2:Tr} (hu:∀u∈us,u.Ok) (okE:OkE L) (ht:IsTree t L) (ht2:IsTree t2 (applyE us L)) (hm:∀x,x∈S↔moreE us L x≠[])
 (hs:S.Pairwise (fun a b=>Lib.compareBytes a b<0)) (hnd:S.Nodup) (hL:L.length≤1000) (hks:∀x,(lookE L x).length≤65536) (hul:us.length≤7000) :
 Da (Mk (t.cut S 0).bytes (S.map fun x=>(x,lookE L x,moreE us L x)))=.ok (t.cut S 0,S.map fun x=>(x,lookE L x,moreE us L x))∧A2f t.root t2.root (Mk (t.cut S 0).bytes (S.map fun x=>(x,lookE L x,moreE us L x)))=0:=by
 have aB:∀u∈Z0 us L,u∈us:=Hi us L;have hl:∀x∈S,x.length=32:=fun x hx=>by
  cases hq:moreE us L x with
  | nil=>exact absurd hq ((hm x).1 hx)
  | cons u l=>
   have aA:u∈moreE us L x:=by rw[hq];simp
   rw[←Pm u aA];exact (hu u (aB u (List.mem_filter.1 aA).1)).id
 have aC:(Z0 us L).length≤us.length:=by
  clear hm hs hnd hks hl aB ht ht2 hul hL;revert L;induction us with
  | nil=>intro L _;simp[Z0]
  | cons u us ih=>
   intro L aF;have h1:=hu u (by simp);unfold Z0;split
   ·have:=ih (fun x hx=>hu x (List.mem_cons_of_mem _ hx)) (aF.with h1.id h1.key);simp;omega
   ·have:=ih (fun x hx=>hu x (List.mem_cons_of_mem _ hx)) aF;simp;omega
 have aD:∀x,∀u∈moreE us L x,0≤u.ver∧u.ver≤64:=by
  intro x;have hc:=Kj x hu okE;revert hc;generalize lookE L x=ks;generalize moreE us L x=m;induction m generalizing ks with
  | nil=>intro _ u hu;cases hu
  | cons y m ih=>
   intro hc u hu;rcases List.mem_cons.1 hu with rfl | hu
   ·have h1:=hc.1;unfold Aw signedB at h1;simp only[Bool.and_eq_true,decide_eq_true_eq]at h1;omega
   ·exact ih _ hc.2 u hu
 have hG:∀q∈(S.map fun x=>(x,lookE L x,moreE us L x)),GrOk q:=by intro q hq;obtain⟨x,hx,rfl⟩:=List.mem_map.1 hq;refine ⟨hl x hx,Pe okE.key x,hks x,fun u aA=>⟨hu u (aB u (List.mem_filter.1 aA).1),aD x u aA⟩,?_⟩;have:(moreE us L x).length≤(Z0 us L).length:=List.length_filter_le _ _;dsimp only;omega
 have aI:S.length≤us.length:=by
  refine Nat.le_trans ?_ aC;have aE:S ⊆ (Z0 us L).map (·.id):=fun x hx=>by
   cases hq:moreE us L x with
   | nil=>exact absurd hq ((hm x).1 hx)
   | cons u l=>
    have aA:u∈moreE us L x:=by rw[hq];simp
    exact List.mem_map.2 ⟨u,(List.mem_filter.1 aA).1,Pm u aA⟩
  have:=Kc hnd aE;simpa using this
 have hv:=A2p t S 0;have aG:=hv.ok ht.ok;have aH:(t.cut S 0).bytes.length≤1048576:=by
  have:=Vs ht.ok (by omega) S 0;have hl:t.len≤1000:=by rw[Tr.len_pairs,ht.prs,Y2];exact hL
  have h8:t.len*(65+2*(257-0))≤1000*579:=Nat.mul_le_mul hl (by omega);omega
 have hp:=B1o aG (hv.tight ht.ok) aH hG (by rw[List.length_map];omega);refine ⟨hp,?_⟩;unfold A2f;rw[hp];dsimp only;rw[if_neg (by rw[hv.root];simp)];obtain⟨q,g1,g2,g3⟩:=A0c hu okE (pr:=none) hv ht.ok (fun x hx=>Vj t S 0 hx) hl (fun x hx=>(hm x).1 hx) hs hnd (fun x hx=>rfl) (fun x hx=>by rw[Ou ht.ok okE ht.prs];rfl);rw[g1];dsimp only;rw[if_neg];rw[g2.root,B5a hu okE ht ht2 hl hm g3];simp
end Go.Proofs.YtdfpoofbgjilgaaGreat
