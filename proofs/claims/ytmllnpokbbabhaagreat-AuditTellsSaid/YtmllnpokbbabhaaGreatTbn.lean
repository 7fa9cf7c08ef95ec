/- A part of the proof of AuditTells. -/
import Derived.Lib.Bytealg
import Derived.Test.YtmllnpokbbabhaaGreatTbm
set_option linter.unusedVariables false
set_option linter.unusedSimpArgs false
set_option maxRecDepth 100000
set_option maxHeartbeats 40000000
namespace Go.Proofs.YtmllnpokbbabhaaGreat
open Go Go.RowKit Sh
theorem Wo {a r:List UInt8} {n:Nat} (h:a.length=n):Nt n (a++r,0)=a:=by
 unfold Nt;rw[if_pos ⟨rfl,by simp;omega⟩];simp[←h]
theorem Jv {a r:List UInt8} {n:Nat} (h:a.length=n):Az n (a++r,0)=(r,0):=by
 unfold Az;rw[if_pos rfl,if_pos (by simp;omega)];simp[←h]
theorem Jr (x:UInt64) (b:UInt8) (hx:x.toNat<72057594037927936):((x <<< 8) ||| b.toUInt64).toNat=x.toNat*256+b.toNat:=by
 have hb:=b.toNat_lt;have h1:(x <<< 8).toNat=x.toNat <<< 8:=by rw[UInt64.toNat_shiftLeft];have:(8:UInt64).toNat % 64=8:=rfl;rw[this];exact Nat.mod_eq_of_lt (by rw[Nat.shiftLeft_eq];omega)
 have h2:=UInt8.toNat_toUInt64 b;rw[UInt64.toNat_or,h1,h2,←Nat.shiftLeft_add_eq_or_of_lt (by omega),Nat.shiftLeft_eq]
theorem Fg (v:UInt64) (k:UInt64) (n:Nat) (hk:k.toNat % 64=n):((v >>> k).toUInt8).toNat=v.toNat / 2 ^ n % 256:=by
 rw[UInt64.toNat_toUInt8,UInt64.toNat_shiftRight,hk,Nat.shiftRight_eq_div_pow]
theorem C1k (v:UInt64):w8L (J8 v)=v:=by
 have hv:=v.toNat_lt;apply UInt64.toNat_inj.1;have b0:=Fg v 56 56 rfl;have b1:=Fg v 48 48 rfl;have b2:=Fg v 40 40 rfl;have b3:=Fg v 32 32 rfl;have b4:=Fg v 24 24 rfl;have b5:=Fg v 16 16 rfl;have b6:=Fg v 8 8 rfl;have b7:=UInt64.toNat_toUInt8 v;have e:J8 v=[(v >>> 56).toUInt8,(v >>> 48).toUInt8,(v >>> 40).toUInt8,(v >>> 32).toUInt8,(v >>> 24).toUInt8,(v >>> 16).toUInt8,(v >>> 8).toUInt8,v.toUInt8]:=rfl;rw[e];unfold w8L;simp only[List.foldl_cons,List.foldl_nil];generalize (v >>> 56).toUInt8=x0 at *;generalize (v >>> 48).toUInt8=x1 at *;generalize (v >>> 40).toUInt8=x2 at *;generalize (v >>> 32).toUInt8=x3 at *;generalize (v >>> 24).toUInt8=x4 at *;generalize (v >>> 16).toUInt8=x5 at *;generalize (v >>> 8).toUInt8=x6 at *;generalize v.toUInt8=x7 at *;have l0:=x0.toNat_lt;have l1:=x1.toNat_lt;have l2:=x2.toNat_lt;have l3:=x3.toNat_lt;have l4:=x4.toNat_lt;have l5:=x5.toNat_lt;have l6:=x6.toNat_lt;have s0:=Jr 0 x0 (by decide);have z:(0:UInt64).toNat=0:=rfl;rw[z]at s0;generalize (0:UInt64) <<< 8 ||| x0.toUInt64=y0 at *;have s1:=Jr y0 x1 (by omega);generalize y0 <<< 8 ||| x1.toUInt64=y1 at *;have s2:=Jr y1 x2 (by omega);generalize y1 <<< 8 ||| x2.toUInt64=y2 at *;have s3:=Jr y2 x3 (by omega);generalize y2 <<< 8 ||| x3.toUInt64=y3 at *;have s4:=Jr y3 x4 (by omega);generalize y3 <<< 8 ||| x4.toUInt64=y4 at *;have s5:=Jr y4 x5 (by omega);generalize y4 <<< 8 ||| x5.toUInt64=y5 at *
 have s6:=Jr y5 x6 (by omega);generalize y5 <<< 8 ||| x6.toUInt64=y6 at *;have s7:=Jr y6 x7 (by omega);rw[s7];omega
theorem A0j {k r:List UInt8} (h:k.length=32):Re (k++r,0)=k:=by
 unfold Re;rw[Wo h,if_neg (fun e=>by rw[e]at h;simp at h)]
theorem D4n {k r:List UInt8} (h:k.length=64):sgL (k++r,0)=k:=by
 unfold sgL;rw[Wo h,if_neg (fun e=>by rw[e]at h;simp at h)]
theorem A2y (r:List UInt8):Iz (r,0)=true:=by
 unfold Iz Nj;split<;>rfl
theorem A8r {v:UInt64} {r:List UInt8} {most:Nat} (h:v.toNat≤most):A9a most (J8 v++r,0)=v.toNat∧B1f most (J8 v++r,0)=(r,0):=by
 have e:w8N (J8 v++r,0)=v.toNat:=by unfold w8N;rw[Wo (Q9 v),C1k]
 unfold A9a B1f;rw[e,if_neg (by omega),if_neg (by omega),Jv (Q9 v)];exact ⟨rfl,rfl⟩
theorem D2q {v:Int} (h0:0≤v) (h1:v≤64):wrap64 (E6 (Cx v))=v∧(Cx v).toNat=v.toNat:=by
 have e:(Cx v).toNat=v.toNat:=by unfold Cx;rw[UInt64.toNat_ofNat'];omega
 refine ⟨?_,e⟩;unfold E6 wrap64;rw[e];omega
theorem D6m {u:UV} (hu:u.Ok) (h0:0≤u.ver) (h1:u.ver≤64) (r:List UInt8):A4u (Ig u++r,0)=u∧B1j (Ig u++r,0)=(r,0)∧B1d (Ig u++r,0)=false:=by
 have e:Ig u++r=u.id++(J8 (Cx u.ver)++(u.key++(u.sig++r))):=by simp[Ig]
 rw[e];obtain⟨v1,v2⟩:=D2q h0 h1;have a1:=Jv (r:=J8 (Cx u.ver)++(u.key++(u.sig++r))) hu.id;have a2:=Jv (r:=u.key++(u.sig++r)) (Q9 (Cx u.ver));have a3:=Jv (r:=u.sig++r) hu.key;have a4:=Jv (r:=r) hu.sig;have ev:upW (u.id++(J8 (Cx u.ver)++(u.key++(u.sig++r))),0)=Cx u.ver:=by unfold upW;rw[a1,Wo (Q9 _),C1k]
 refine ⟨?_,?_,?_⟩
 ·unfold A4u;rw[ev,v1,A0j hu.id,a1,a2,A0j hu.key,a3,D4n hu.sig]
 ·unfold B1j;rw[a1,a2,a3,a4]
 ·unfold B1d;rw[ev,v2];exact decide_eq_false (by omega)
theorem B4v:∀(us:List UV) (r:List UInt8) (acc:List UV) (f:Bool),(∀u∈us,u.Ok∧0≤u.ver∧u.ver≤64)→Xw us.length (us.flatMap Ig++r,0) acc f=(acc++us,f,(r,0))
 | [],r,acc,f,_=>by simp[Xw]
 | u::us,r,acc,f,h=>by
  obtain⟨h1,h2,h3⟩:=h u (by simp);obtain⟨e1,e2,e3⟩:=D6m h1 h2 h3 (us.flatMap Ig++r);have e:(u::us).flatMap Ig++r=Ig u++(us.flatMap Ig++r):=by simp
  rw[e,List.length_cons];unfold Xw;rw[A2y,if_pos rfl,e1,e2,e3,Bool.or_false,B4v us r _ f fun x hx=>h x (List.mem_cons_of_mem _ hx)];simp
theorem C2u {us:List UV} (h:∀u∈us,u.Ok∧0≤u.ver∧u.ver≤64) (hn:us.length≤65536):Fm (hbL us)=(us,0):=by
 have hb:=A8r (v:=UInt64.ofNat us.length) (r:=us.flatMap Ig) (most:=65536) (by rw[UInt64.toNat_ofNat'];omega);have hl:(UInt64.ofNat us.length).toNat=us.length:=by rw[UInt64.toNat_ofNat'];omega
 have hg:=B4v us [] [] false h;rw[List.append_nil]at hg;unfold Fm hbL Ji Lf;rw[hb.1,hb.2,hl,hg];simp[Nj]
noncomputable def Ee:List UV→List En→List UV
 | [],_=>[]
 | u::us,L=>if Df (lookE L u.id) u then u::Ee us (Cj u.id u.key L) else Ee us L
noncomputable def moreE (us:List UV) (L:List En) (x:List UInt8):List UV:=(Ee us L).filter fun u=>decide (u.id=x)
theorem Xt (u:UV):∀(us:List UV) (L:List En),Ee (us++[u]) L=Ee us L++if Df (lookE (applyE us L) u.id) u then [u] else []
 | [],L=>by
  simp only[List.nil_append,Ee,applyE,List.foldl];rfl
 | x::us,L=>by
  rw[List.cons_append];have hs:applyE (x::us) L=applyE us (Cq L x):=rfl;rw[hs];unfold Ee Cq;split
  ·rw[Xt u us];rfl
  ·rw[Xt u us]
theorem Iv:∀(us:List UV) (L:List En),∀u∈Ee us L,u∈us
 | [],_,u,h=>by cases h
 | x::us,L,u,h=>by
  unfold Ee at h;split at h
  ·rcases List.mem_cons.1 h with rfl | h
   ·exact List.mem_cons_self
   ·exact List.mem_cons_of_mem _ (Iv us _ u h)
  ·exact List.mem_cons_of_mem _ (Iv us _ u h)
theorem OkE.apply:∀ {us:List UV} {L:List En},(∀u∈us,u.Ok)→OkE L→OkE (applyE us L)
 | [],_,_,ok=>ok
 | u::us,L,h,ok=>by
  have h1:=h u (by simp);show OkE (applyE us (Cq L u));unfold Cq;split
  ·exact OkE.apply (fun x hx=>h x (List.mem_cons_of_mem _ hx)) (ok.with h1.id h1.key)
  ·exact OkE.apply (fun x hx=>h x (List.mem_cons_of_mem _ hx)) ok
theorem Cr (x:List UInt8):∀ {us:List UV} {L:List En},(∀u∈us,u.Ok)→OkE L→lookE (applyE us L) x=lookE L x++(moreE us L x).map (·.key)
 | [],L,_,_=>by simp[applyE,moreE,Ee]
 | u::us,L,h,ok=>by
  have h1:=h u (by simp);show lookE (applyE us (Cq L u)) x=_;unfold moreE Ee Cq;split
  ·rw[Cr x (fun y hy=>h y (List.mem_cons_of_mem _ hy)) (ok.with h1.id h1.key),Co ok h1.id h1.key];unfold moreE;by_cases e:x=u.id
   ·subst e;rw[if_pos rfl];simp
   ·rw[if_neg e,List.filter_cons_of_neg (by simpa using fun h=>e h.symm)]
  ·rw[Cr x (fun y hy=>h y (List.mem_cons_of_mem _ hy)) ok];rfl
def A8w:List (List UInt8)→List UV→Prop
 | _,[]=>True
 | ks,u::us=>Df ks u=true∧A8w (ks++[u.key]) us
theorem Lt (x:List UInt8):∀ {us:List UV} {L:List En},(∀u∈us,u.Ok)→OkE L→A8w (lookE L x) (moreE us L x)
 | [],L,_,_=>trivial
 | u::us,L,h,ok=>by
  have h1:=h u (by simp);unfold moreE Ee;split
  ·rename_i hn
   have ih:=Lt x (us:=us) (fun y hy=>h y (List.mem_cons_of_mem _ hy)) (ok.with h1.id h1.key);rw[Co ok h1.id h1.key]at ih;by_cases e:x=u.id
   ·subst e;rw[if_pos rfl]at ih;rw[List.filter_cons_of_pos (by simp)];exact ⟨hn,ih⟩
   ·rw[if_neg e]at ih;rw[List.filter_cons_of_neg (by simpa using fun h=>e h.symm)];exact ih
  ·exact Lt x (fun y hy=>h y (List.mem_cons_of_mem _ hy)) ok
theorem Mu {us:List UV} {L:List En} {x:List UInt8}:∀u∈moreE us L x,u.id=x:=fun u hu=>by
 have:=(List.mem_filter.1 hu).2;simpa using this
theorem Oi {id:List UInt8} {p q:Pt}:∀ {us:List UV} {ks:List (List UInt8)},A8w ks us→(∀u∈us,u.id=id)→p.put id (W8 (ks++us.map (·.key))) 256 0=some q→Dg id p us ks=.ok q
 | [],ks,_,_,h=>by
  unfold Dg;rw[List.map_nil,List.append_nil]at h;rw[h]
 | u::us,ks,hc,hi,h=>by
  rw[Tz,if_pos (hi u (by simp)),if_pos (Dn.2 hc.1),Rh hc.1];refine Oi hc.2 (fun x hx=>hi x (List.mem_cons_of_mem _ hx)) ?_;rw[List.append_assoc];exact h
theorem B7s {id:List UInt8} (hid:id.length=32) {p:Pt} {t:Tr} {ks:List (List UInt8)} {us:List UV} (hv:Jd p t) (ok:Okt t) (hk:p.knows id 0) (hl:t.look id 0=D4d ks) (hc:A8w ks us) (hi:∀u∈us,u.id=id) (hne:us≠[]) :
 ∃q,Sf p (id,ks,us)=.ok q∧Jd q (Uq t id (W8 (ks++us.map (·.key))))∧∀k,p.knows k 0→q.knows k 0:=by
 obtain⟨q,h1,h2,h3⟩:=C9p (k:=id) (v:=W8 (ks++us.map (·.key))) hid 256 0 p t P0 rfl (fun i hi=>by omega) ok hv hk;refine ⟨q,?_,h2,h3⟩;have hg:p.get id 0=A0p (D4d ks):=by rw[A1a hv hk,hl]
 unfold Sf;rw[if_neg hne];dsimp only;rw[hg];unfold D4d;by_cases h0:ks.length=0
 ·have e:=List.eq_nil_of_length_eq_zero h0;rw[if_pos h0];subst e;exact Oi hc hi h1
 ·rw[if_neg h0];have hd:decide (0<ks.length)=true:=decide_eq_true (by omega);simp only[A0p,hd,bne_self_eq_false,Bool.false_eq_true,if_false,if_true,ne_eq,not_true_eq_false,and_false];exact Oi hc hi h1
noncomputable def A2l (us:List UV) (L:List En) (S:List (List UInt8)) (t:Tr):Tr:=S.foldl (fun t x=>Uq t x (W8 (lookE L x++(moreE us L x).map (·.key)))) t
theorem A3e {us:List UV} {L:List En} (hu:∀u∈us,u.Ok) (okE:OkE L):∀ {S:List (List UInt8)} {p:Pt} {t:Tr} {pr:Option (List UInt8)},Jd p t→Okt t→(∀x∈S,p.knows x 0)→(∀x∈S,x.length=32)→(∀x∈S,moreE us L x≠[])→
 S.Pairwise (fun a b=>Lib.compareBytes a b<0)→S.Nodup→(∀x∈S,A2d pr x=false)→(∀x∈S,t.look x 0=D4d (lookE L x))→
 ∃q,Hw p pr (S.map fun x=>(x,lookE L x,moreE us L x))=.ok q∧Jd q (A2l us L S t)∧Okt (A2l us L S t)
 | [],p,t,pr,hv,ok,_,_,_,_,_,_,_=>⟨p,rfl,hv,ok⟩
 | x::S,p,t,pr,hv,ok,hk,hl,hm,hs,hn,hp,hlk=>by
  rw[List.pairwise_cons]at hs;rw[List.nodup_cons]at hn;have hx:=hl x (by simp);obtain⟨q,h1,h2,h3⟩:=B7s hx hv ok (hk x (by simp)) (hlk x (by simp)) (Lt x hu okE) Mu (hm x (by simp));have aA:=ok.put (k:=x) (v:=W8 (lookE L x++(moreE us L x).map (·.key))) hx (U2 _);obtain⟨q',g1,g2,g3⟩:=A3e hu okE (S:=S) (pr:=some x) h2 aA (fun y hy=>h3 y (hk y (by simp[hy]))) (fun y hy=>hl y (by simp[hy])) (fun y hy=>hm y (by simp[hy])) hs.2 hn.2 (fun y hy=>decide_eq_false (by have:=hs.1 y hy;omega)) (fun y hy=>by
   rw[A5e ok hx (U2 _),if_neg (fun e=>hn.1 (by rw[←e];exact hy))];exact hlk y (by simp[hy]))
  refine ⟨q',?_,g2,g3⟩;rw[List.map_cons];unfold Hw;dsimp only;rw[hp x (by simp),if_neg (by simp),h1];exact g1
theorem A0s {us:List UV} {L:List En}:∀ {S:List (List UInt8)} {t:Tr},Okt t→(∀x∈S,x.length=32)→∀k,(A2l us L S t).look k 0=if k∈S then some (W8 (lookE L k++(moreE us L k).map (·.key))) else t.look k 0
 | [],t,_,_,k=>by simp[A2l]
 | x::S,t,ok,hl,k=>by
  have hx:=hl x (by simp);have aA:=ok.put (k:=x) (v:=W8 (lookE L x++(moreE us L x).map (·.key))) hx (U2 _);have ih:=A0s (us:=us) (L:=L) (S:=S) aA (fun y hy=>hl y (by simp[hy])) k;show (A2l us L S _).look k 0=_;rw[ih,A5e ok hx (U2 _)];by_cases h:k∈S
  ·rw[if_pos h,if_pos (List.mem_cons_of_mem _ h)]
  ·rw[if_neg h];by_cases e:k=x
   ·subst e;rw[if_pos rfl,if_pos List.mem_cons_self]
   ·rw[if_neg e,if_neg (by simp[h,e])]
theorem B9s {us:List UV} {L:List En} {S:List (List UInt8)} {t t2:Tr} (hu:∀u∈us,u.Ok) (okE:OkE L) (ht:IsTree t L) (ht2:IsTree t2 (applyE us L)) (hl:∀x∈S,x.length=32) (hm:∀x,x∈S↔moreE us L x≠[]) (ok3:Okt (A2l us L S t)):A2l us L S t=t2:=by
 refine Ok.ext_mem ok3 ht2.ok fun x=>?_;obtain⟨k,v⟩:=x;rw[←Da ok3,←Da ht2.ok,A0s ht.ok hl,Qs ht2.ok (OkE.apply hu okE) ht2.prs,Cr k hu okE,Qs ht.ok okE ht.prs];by_cases h:k∈S
 ·rw[if_pos h,if_neg];intro e;rw[List.length_append,List.length_map]at e;exact (hm k).1 h (List.eq_nil_of_length_eq_zero (by omega))
 ·have h2:moreE us L k=[]:=by
   by_cases h3:moreE us L k=[]
   ·exact h3
   ·exact absurd ((hm k).2 h3) h
  rw[if_neg h,h2,List.map_nil,List.append_nil]
def goB (id:List UInt8) (ks:List (List UInt8)) (us:List UV):List UInt8:=id++(J8 (UInt64.ofNat ks.length)++(ks.flatten++(J8 (UInt64.ofNat (hbL us).length)++hbL us)))
def Oy (pl:List UInt8) (G:List Gr):List UInt8:=J8 (UInt64.ofNat pl.length)++(pl++(J8 (UInt64.ofNat G.length)++G.flatMap fun q=>goB q.1 q.2.1 q.2.2))
theorem C6w {l r:List UInt8} (h:l.length≤1048576):Zo (J8 (UInt64.ofNat l.length)++(l++r),0)=l∧rbS (J8 (UInt64.ofNat l.length)++(l++r),0)=(r,0):=by
 have hl:(UInt64.ofNat l.length).toNat=l.length:=by rw[UInt64.toNat_ofNat'];omega
 have hb:=A8r (v:=UInt64.ofNat l.length) (r:=l++r) (most:=1048576) (by rw[hl];exact h);unfold Zo rbS byN;rw[hb.1,hb.2,hl];exact ⟨Wo rfl,Jv rfl⟩
theorem C2c {n:Nat} {r:List UInt8} (h:n≤65536):Ji (J8 (UInt64.ofNat n)++r,0)=n∧Lf (J8 (UInt64.ofNat n)++r,0)=(r,0):=by
 have hl:(UInt64.ofNat n).toNat=n:=by rw[UInt64.toNat_ofNat'];omega
 have hb:=A8r (v:=UInt64.ofNat n) (r:=r) (most:=65536) (by rw[hl];exact h);unfold Ji Lf;rw[hb.1,hb.2,hl];exact ⟨rfl,rfl⟩
theorem B4w:∀(ks:List (List UInt8)) (r:List UInt8) (acc:List (List UInt8)),(∀k∈ks,k.length=32)→Ox ks.length (ks.flatten++r,0) acc=(acc++ks,(r,0))
 | [],r,acc,_=>by simp[Ox]
 | k::ks,r,acc,h=>by
  have hk:=h k (by simp);rw[List.flatten_cons,List.append_assoc,List.length_cons];unfold Ox;rw[A2y,if_pos rfl,A0j hk,Jv hk,B4w ks r _ fun x hx=>h x (List.mem_cons_of_mem _ hx)];simp
structure GrOk (q : Gr) : Prop where
 id:q.1.length=32
 key:∀k∈q.2.1,k.length=32
 keys:q.2.1.length≤65536
 up:∀u∈q.2.2,u.Ok∧0≤u.ver∧u.ver≤64
 ups:q.2.2.length≤7000
theorem GrOk.hb {q:Gr} (h:GrOk q):(hbL q.2.2).length≤1048576:=by
 unfold hbL;rw[List.length_append,Q9,Kn fun u hu=>(h.up u hu).1];have:=h.ups;omega
theorem B2u:∀(G:List Gr) (out:List G0),(∀q∈G,GrOk q)→Nr G.length (G.flatMap fun q=>goB q.1 q.2.1 q.2.2,0) out=(out++G.map fun q=>(q.1,q.2.1,hbL q.2.2),([],0))
 | [],out,_=>by simp[Nr]
 | q::G,out,h=>by
  have hq:=h q (by simp);have e:((q::G).flatMap fun q=>goB q.1 q.2.1 q.2.2)=q.1++(J8 (UInt64.ofNat q.2.1.length)++(q.2.1.flatten++(J8 (UInt64.ofNat (hbL q.2.2).length)++(hbL q.2.2++G.flatMap fun q=>goB q.1 q.2.1 q.2.2)))):=by simp[goB]
  rw[e,List.length_cons];obtain⟨c1,c2⟩:=C2c (n:=q.2.1.length) (r:=q.2.1.flatten++(J8 (UInt64.ofNat (hbL q.2.2).length)++(hbL q.2.2++G.flatMap fun q=>goB q.1 q.2.1 q.2.2))) hq.keys;obtain⟨b1,b2⟩:=C6w (l:=hbL q.2.2) (r:=G.flatMap fun q=>goB q.1 q.2.1 q.2.2) hq.hb;unfold Nr;rw[A2y,if_pos rfl,A0j hq.id,Jv hq.id,c1,c2,B4w q.2.1 _ [] hq.key];dsimp only;rw[b1,b2,B2u G _ fun x hx=>h x (List.mem_cons_of_mem _ hx)];simp
theorem A5y:∀(G:List Gr) (acc:List Gr),(∀q∈G,GrOk q)→Ey (G.map fun q=>(q.1,q.2.1,hbL q.2.2)) acc=.ok (acc++G)
 | [],acc,_=>by simp[Ey]
 | q::G,acc,h=>by
  have hq:=h q (by simp);have hp:=C2u hq.up (by have:=hq.ups;omega);rw[List.map_cons];unfold Ey;dsimp only;rw[hp,if_pos rfl,A5y G _ fun x hx=>h x (List.mem_cons_of_mem _ hx)];simp
theorem B4p {p:Pt} {P:Nat→Bool} (ok:p.Ok 0 P) (ht:p.Tight) {G:List Gr} (hp:p.bytes.length≤1048576) (hG:∀q∈G,GrOk q) (hn:G.length≤65536):Dt (Oy p.bytes G)=.ok (p,G):=by
 obtain⟨b1,b2⟩:=C6w (l:=p.bytes) (r:=J8 (UInt64.ofNat G.length)++G.flatMap fun q=>goB q.1 q.2.1 q.2.2) hp;obtain⟨c1,c2⟩:=C2c (n:=G.length) (r:=G.flatMap fun q=>goB q.1 q.2.1 q.2.2) hn;unfold Dt Oy;rw[b1,b2,c1,c2,B2u G [] hG,List.nil_append,B2j ok ht];dsimp only;rw[A5y G [] hG];rfl
theorem Hf {α:Type} [BEq α] [LawfulBEq α]:∀ {l m:List α},l.Nodup→l ⊆ m→l.length≤m.length
 | [],_,_,_=>Nat.zero_le _
 | x::l,m,h,hs=>by
  rw[List.nodup_cons]at h;have hx:x∈m:=hs (by simp);have:=Hf (m:=m.erase x) h.2 (fun y hy=>(List.mem_erase_of_ne (fun e=>h.1 (by rw[←e];exact hy))).2 (hs (by simp[hy])));have hp:=List.length_pos_of_mem hx;rw[List.length_erase_of_mem hx]at this;simp only[List.length_cons];omega
theorem A4a {us:List UV} {L:List En} {S:List (List UInt8)} {t t2:Tr} (hu:∀u∈us,u.Ok) (okE:OkE L) (ht:IsTree t L) (ht2:IsTree t2 (applyE us L)) (hm:∀x,x∈S↔moreE us L x≠[])
 (hs:S.Pairwise (fun a b=>Lib.compareBytes a b<0)) (hnd:S.Nodup) (hL:L.length≤1000) (hks:∀x,(lookE L x).length≤65536) (hul:us.length≤7000) :
 Dt (Oy (t.cut S 0).bytes (S.map fun x=>(x,lookE L x,moreE us L x)))=.ok (t.cut S 0,S.map fun x=>(x,lookE L x,moreE us L x))∧A4j t.root t2.root (Oy (t.cut S 0).bytes (S.map fun x=>(x,lookE L x,moreE us L x)))=0:=by
 have aB:=Iv us L;have hl:∀x∈S,x.length=32:=fun x hx=>by
  cases hq:moreE us L x with
  | nil=>exact absurd hq ((hm x).1 hx)
  | cons u l=>
   have aA:u∈moreE us L x:=by rw[hq];simp
   rw[←Mu u aA];exact (hu u (aB u (List.mem_filter.1 aA).1)).id
 have aC:(Ee us L).length≤us.length:=by
  clear hm hs hnd hks hl aB ht ht2 hul hL;revert L;induction us with
  | nil=>intro L _;simp[Ee]
  | cons u us ih=>
   intro L aF;have h1:=hu u (by simp);unfold Ee;split
   ·have:=ih (fun x hx=>hu x (List.mem_cons_of_mem _ hx)) (aF.with h1.id h1.key);simp;omega
   ·have:=ih (fun x hx=>hu x (List.mem_cons_of_mem _ hx)) aF;simp;omega
 have aD:∀x,∀u∈moreE us L x,0≤u.ver∧u.ver≤64:=by
  intro x;have hc:=Lt x hu okE;revert hc;generalize lookE L x=ks;generalize moreE us L x=m;induction m generalizing ks with
  | nil=>intro _ u hu;cases hu
  | cons y m ih=>
   intro hc u hu;rcases List.mem_cons.1 hu with rfl | hu
   ·have h1:=hc.1;unfold Df signedB at h1;simp only[Bool.and_eq_true,decide_eq_true_eq]at h1;omega
   ·exact ih _ hc.2 u hu
 have hG:∀q∈(S.map fun x=>(x,lookE L x,moreE us L x)),GrOk q:=by intro q hq;obtain⟨x,hx,rfl⟩:=List.mem_map.1 hq;refine ⟨hl x hx,Ru okE.key x,hks x,fun u aA=>⟨hu u (aB u (List.mem_filter.1 aA).1),aD x u aA⟩,?_⟩;have:(moreE us L x).length≤(Ee us L).length:=List.length_filter_le _ _;dsimp only;omega
 have aI:S.length≤us.length:=by
  refine Nat.le_trans ?_ aC;have aE:S ⊆ (Ee us L).map (·.id):=fun x hx=>by
   cases hq:moreE us L x with
   | nil=>exact absurd hq ((hm x).1 hx)
   | cons u l=>
    have aA:u∈moreE us L x:=by rw[hq];simp
    exact List.mem_map.2 ⟨u,(List.mem_filter.1 aA).1,Mu u aA⟩
  have:=Hf hnd aE;simpa using this
 have hv:=A4c t S 0;have aG:=hv.ok ht.ok;have aH:(t.cut S 0).bytes.length≤1048576:=by
  have:=Xk ht.ok (by omega) S 0;have hl:t.len≤1000:=by rw[Tr.len_pairs,ht.prs,X1];exact hL
  have h8:t.len*(65+2*(257-0))≤1000*579:=Nat.mul_le_mul hl (by omega);omega
 have hp:=B4p aG (hv.tight ht.ok) aH hG (by rw[List.length_map];omega);refine ⟨hp,?_⟩;unfold A4j;rw[hp];dsimp only;rw[if_neg (by rw[hv.root];simp)];obtain⟨q,g1,g2,g3⟩:=A3e hu okE (pr:=none) hv ht.ok (fun x hx=>Xs t S 0 hx) hl (fun x hx=>(hm x).1 hx) hs hnd (fun x hx=>rfl) (fun x hx=>by rw[Qs ht.ok okE ht.prs];rfl);rw[g1];dsimp only;rw[if_neg];rw[g2.root,B9s hu okE ht ht2 hl hm g3];simp
end Go.Proofs.YtmllnpokbbabhaaGreat
