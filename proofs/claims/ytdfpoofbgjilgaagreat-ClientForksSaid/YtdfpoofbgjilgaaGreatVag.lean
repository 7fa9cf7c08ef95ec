/- A part of the proof of ClientForks. -/
import Derived.Test.YtdfpoofbgjilgaaGreatVaf
set_option linter.unusedVariables false
set_option linter.unusedSimpArgs false
set_option maxRecDepth 100000
set_option maxHeartbeats 40000000
namespace Go.Proofs.YtdfpoofbgjilgaaGreat
open Go Go.RowKit Sh
section
variable {P : Program} {g : Cfg} {nm na : Nat} {st : St} {ev : SEv} {ρ : List Av} {μ : Nat → Nm} {a : Act} {w : World}
theorem Zy {t f:Nat} {fd:Field} (h:Og P t f=some fd) (w:World):∃fs,(underlying t).run P w=.ok (.struct fs) w∧fs[f]?=some fd:=by
 unfold Og at h;split at h
 ·rename_i fs hu
  exact ⟨fs,by simp[underlying,hu],h⟩
 ·cases h
theorem C2i {t f:Nat} {fd:Field} {l:List Sg} {y:SV} (hf:Og P t f=some fd) (hp:Wg P fd.type l fd.offset=some y) :
 (Instr.field t (.agg (cellsL ρ μ l).toArray) f).run P w=.ok (y.val ρ μ) w:=by
 obtain⟨fs,h1,h2⟩:=Zy hf w;unfold Instr.field;simp only[Sem.run_bind,h1,Result.andThen_ok,h2,asAgg];exact A5i hp w
theorem B2l {t f n b k:Nat} {fd:Field} (hf:Og P t f=some fd) (hs:Gt P fd.type=some n) (hn:n≠0) :
 (Instr.fieldAt t (.pointer (some ⟨b,k,none⟩)) f).run P w=.ok (.pointer (some ⟨b,k+fd.offset,none⟩)) w:=by
 obtain⟨fs,h1,h2⟩:=Zy hf w;unfold Instr.fieldAt;simp only[Sem.run_bind,h1,Result.andThen_ok,h2,Instr.sureAddr,fieldPlace,Y4 hs,if_neg hn];show Result.ok _ _=_;rw[Q3]
theorem C1h {t len e n k:Nat} {K:IntKind} {l:List Sg} {y:SV} (hu:P.underlying t=some (.array len e)) (hs:Gt P e=some n) (hp:Wg P e l (k*n)=some y) (hk:k<len) :
 (Instr.index t (.agg (cellsL ρ μ l).toArray) (.int K (k:Int))).run P w=.ok (y.val ρ μ) w:=by
 have h1:(underlying t).run P w=.ok (.array len e) w:=by simp[underlying,hu]
 have h2:(0:Int)≤(k:Int)∧(k:Int)<(len:Int):=by omega
 unfold Instr.index;simp only[Sem.run_bind,asIntOf,Result.andThen_ok,Sem.run_pure,h1];rw[if_pos h2];simp only[Sem.run_bind,Y4 hs,Result.andThen_ok,Int.toNat_natCast];exact A5i hp w
theorem Wt {t len e n k b f:Nat} {K:IntKind} (hu:P.underlying t=some (.array len e)) (hs:Gt P e=some n) (hk:k<len) :
 (Instr.indexAt t (.pointer (some ⟨b,f,none⟩)) (.int K (k:Int))).run P w=.ok (.pointer (some ⟨b,f+k*n,none⟩)) w:=by
 have h1:(underlying t).run P w=.ok (.array len e) w:=by simp[underlying,hu]
 have h2:(0:Int)≤(k:Int)∧(k:Int)<(len:Int):=by omega
 unfold Instr.indexAt;simp only[Sem.run_bind,asIntOf,h1,Result.andThen_ok];simp[Instr.sureAddr,h1,Y4 hs,h2,hk,Q3]
theorem A8j {t e n k b f l q:Nat} {K:IntKind} (hu:P.underlying t=some (.slice e)) (hs:Gt P e=some n) (hk:k<l) :
 (Instr.indexAt t (.slice (some ⟨b,f,none⟩) l q) (.int K (k:Int))).run P w=.ok (.pointer (some ⟨b,f+k*n,none⟩)) w:=by
 have h1:(underlying t).run P w=.ok (.slice e) w:=by simp[underlying,hu]
 have h2:(0:Int)≤(k:Int)∧(k:Int)<(l:Int):=by omega
 unfold Instr.indexAt;simp only[Sem.run_bind,asIntOf,h1,Result.andThen_ok];simp[h1,Y4 hs,h2,hk,Q3]
theorem Wq {t b f:Nat} {u:Value} (ha:Ti P t=some false) (hc:w.cell? ⟨b,f,none⟩=some u) :
 (Instr.loadAt t (.pointer (some ⟨b,f,none⟩))).run P w=.ok u w:=by
 unfold Instr.loadAt loadVar;simp only[Sem.run_bind,Instr.sureAddr,A4g ha,Result.andThen_ok];show Sem.run P (.load .plain ⟨b,f,none⟩ .pure) w=_;simp only[Sem.run,hc]
theorem A4u {t b f n T:Nat} {cs l:List Sg} {x:Bool} (hb:Bk w (μ b).b T (cellsL ρ μ cs)) (hs:Gt P t=some n) (ha:Ti P t=some x) (hc:Vs cs f n=some l) (hn:n≠0)
 (h1:x=false→l.length=1∧n=1):(Instr.loadAt t (.pointer (some ⟨(μ b).b,f,none⟩))).run P w=.ok (cv ρ μ x l) w:=by
 obtain⟨h2,h3,h4⟩:=Kl (ρ:=ρ) (μ:=μ) hc;cases x with
 | false=>
  obtain⟨h5,rfl⟩:=h1 rfl;have h6:f<(cellsL ρ μ cs).length:=by rw[P7];omega
  refine Wq ha ?_;rw[hb.cell,List.getElem?_eq_getElem h6];simp only[cv,Bool.false_eq_true,if_false,h2];rw[List.drop_eq_getElem_cons h6];rfl
 | true=>
  obtain⟨d,hu,hd⟩:=D4v ha;obtain⟨i,hi,rfl⟩:=A0j hs;have hr:=hb.row (o:=f) (n:=i.size) (by rw[P7];exact h4);rw[←h2]at hr;obtain⟨hl,aA⟩:=Z0.1 hr;have h5:=run_loadAt_mid (P:=P) w (μ b).b f t (cellsL ρ μ l) d aA hu hd (by rw[hi,hl];rfl);simp only[cv,if_true];exact h5
theorem B6m {t b f n T:Nat} {cs cs' l:List Sg} {v:Value} (hb:Bk w (μ b).b T (cellsL ρ μ cs)) (hs:Gt P t=some n) (hv:v.cells=(cellsL ρ μ l).toArray) (ho:∀u∈cellsL ρ μ l,u.oneCell'=true)
 (hc:A0r cs f l=some cs') (hn:Fb l=n) (hn0:n≠0) :
 (Instr.storeAt t (.pointer (some ⟨(μ b).b,f,none⟩)) v).run P w=.ok () (C4 w ⟨(μ b).b,f,none⟩ (cellsL ρ μ l))∧Bk (C4 w ⟨(μ b).b,f,none⟩ (cellsL ρ μ l)) (μ b).b T (cellsL ρ μ cs'):=by
 obtain⟨h2,h3,h4⟩:=Rt (ρ:=ρ) (μ:=μ) hc;obtain⟨i,hi,rfl⟩:=A0j hs;have aA:f+(cellsL ρ μ l).length≤(cellsL ρ μ cs).length:=by rw[P7,P7];exact h4
 refine ⟨?_,?_⟩
 ·have h5:(cellsL ρ μ l).toArray.size=i.size:=by simp[P7,hn]
  have h6:=run_storeAt_mid (P:=P) w (μ b).b f t (cellsL ρ μ l).toArray (Jp.1 (hb.can (by simpa using aA))) (by rw[hi,h5];rfl) (by simpa [List.all_eq_true] using ho);have h7:Instr.storeAt t (.pointer (some ⟨(μ b).b,f,none⟩)) v=Instr.storeAt t (.pointer (some ⟨(μ b).b,f,none⟩)) (.agg (cellsL ρ μ l).toArray):=by unfold Instr.storeAt storeVar;rw[hv];rfl
  rw[h7];exact h6
 ·rw[h2];exact hb.put aA
theorem A4l {x:SV} {l:List Sg} {N:Nat→Bool} (h:Nj x=some l) (hx:x.okn N=true):l.all (·.okn N)=true:=by
 unfold Nj at h;split at h
 ·split at h
  ·cases h;exact hx
  ·cases h
 ·split at h
  ·cases h;exact hx
  ·cases h
 ·cases h
theorem A6g {μ:Nat→Nm} {n b:Nat} {v:Nm} (h:(b != n)=true):μ b=Xm μ n v b:=by
 unfold Xm;rw[if_neg (by simpa using h)]
theorem A1h (μ:Nat→Nm) (n:Nat) (v:Nm):Xm μ n v n=v:=by unfold Xm;rw[if_pos rfl]
theorem C1m {xs:List Operand} {ys:List SV} (h:xs.mapM (Y7 st)=some ys) (hR:∀x∈xs,∀s,Y7 st x=some s→a.eval x=s.val ρ μ) :
 xs.map a.eval=ys.map (·.val ρ μ):=by
 induction xs generalizing ys with
 | nil=>simp at h;subst h;rfl
 | cons x xs ih=>
  simp only[List.mapM_cons,bind,Option.bind]at h;cases hx:Y7 st x with
  | none=>rw[hx]at h;cases h
  | some y=>
   rw[hx]at h;simp only at h;cases hxs:xs.mapM (Y7 st) with
   | none=>rw[hxs]at h;cases h
   | some zs=>
    rw[hxs]at h;cases h;rw[List.map_cons,List.map_cons,hR x (by simp) y hx,ih hxs fun x' hx'=>hR x' (by simp[hx'])]
theorem C2s {x:Operand} {y:SV} (h:Y7 st x=some y):y.known=true:=by
 cases x with
 | tmp t=>
  simp only[Y7]at h;cases hx:st.σ[t]? with
  | none=>rw[hx]at h;cases h
  | some z=>
   rw[hx]at h;simp only[Option.bind_some]at h;split at h
   ·cases h;assumption
   ·cases h
 | const v=>
  have h':Fr v=some y:=h;unfold Fr at h';split at h'
  ·split at h'
   ·cases h';rfl
   ·cases h'
  ·cases h'
  ·cases h';rfl
 | global _=>cases h
 | func _=>cases h
theorem C3d {f:FuncId} (h:C5i P f=true) (args:Array Value):(callFunc f args).run P w=.ok (.enter f args) w:=by
 unfold C5i at h;cases hf:P.funcs[f]? with
 | none=>rw[hf]at h;cases h
 | some fn=>
  rw[hf]at h;simp only[Bool.and_eq_true,Bool.not_eq_true']at h;obtain⟨h1,h2⟩:=h;have h3 : fn.name ≠ "runtime.NumGoroutine" := by simpa using h1
  obtain⟨c,hc⟩:=Option.isSome_iff_exists.1 h2;simp[callFunc,hf,h3,hc]
theorem B4m {na:Nat} {t:TypeId} {x:(Bool×List Sg)×Nat} (h:Sc P g na t=some x) (N:Nat→Bool):x.1.2.all (·.okn N)=true:=by
 unfold Sc at h;simp only[bind,Option.bind]at h;cases ha:Ti P t with
 | none=>rw[ha]at h;cases h
 | some a=>
  rw[ha]at h;simp only at h;split at h
  ·cases h;simp[Sg.okn]
  ·cases hs:Gt P t with
   | none=>rw[hs]at h;cases h
   | some n=>rw[hs]at h;cases h;simp[Sg.okn]
theorem Qq:∀ {ts:List TypeId} {na:Nat} {x:List (Bool×List Sg)×Nat},Hc P g na ts=some x→∀(N:Nat→Bool),(x.1.all fun y=>y.2.all (·.okn N))=true
 | [],na,x,h,N=>by cases h;rfl
 | t::ts,na,x,h,N=>by
  simp only[Hc,bind,Option.bind]at h;cases h1:Sc P g na t with
  | none=>rw[h1]at h;cases h
  | some y=>
   rw[h1]at h;simp only at h;cases h2:Hc P g y.2 ts with
   | none=>rw[h2]at h;cases h
   | some z=>
    rw[h2]at h;cases h;simp only[List.all_cons,Bool.and_eq_true];exact ⟨B4m h1 N,Qq h2 N⟩
theorem E0v {Φ:Fcts} {d:Dep} (hB:∀x∈d.bs,Bk w (μ x.1).b x.2.1 (cellsL ρ μ x.2.2)) (hD:∀n∈d.ds,Φ.at n μ w):d.ok ρ Φ μ w:=by
 unfold Dep.ok;have h1:∀l:List Nat,(∀n∈l,Φ.at n μ w)→l.foldr (fun n p=>Φ.at n μ w∧p) True:=by
  intro l;induction l with
  | nil=>intro _;trivial
  | cons n l ih=>intro h;exact ⟨h n (by simp),ih fun m hm=>h m (by simp[hm])⟩
 have h2:∀(l:List (Nat×TypeId×List Sg)) (p:Prop),p→(∀x∈l,Bk w (μ x.1).b x.2.1 (cellsL ρ μ x.2.2))→l.foldr (fun x p=>Bk w (μ x.1).b x.2.1 (cellsL ρ μ x.2.2)∧p) p:=by
  intro l p hp;induction l with
  | nil=>intro _;exact hp
  | cons x l ih=>intro h;exact ⟨h x (by simp),ih fun y hy=>h y (by simp[hy])⟩
 exact h2 _ _ (h1 _ hD) hB
theorem B4a {S:World→Prop} {f:FuncId} {K:Act→World→Prop} {Q:Exit→Act→World→Prop} {o:Oper} {c:Call} (ho:o.op=.call c) (hcal:c.callee=.value (.func f))
 (h:Yh P g nm na st f c.args.toList=some ev) (hR:∀x∈c.args.toList,∀s,Y7 st x=some s→a.eval x=s.val ρ μ) (hq:∀q,ev.rq=some q→q.Ok P ρ g.f S) (hS:S w)
 (hdep:∀q,ev.rq=some q→q.dep.ok ρ g.f μ w)
 (hK:∀μ' w',Fs ρ g.f S st nm ev μ w μ' w'→K (a.put o.dst (ev.val.val ρ μ')) w'):o.wp P a w K Q:=by
 unfold Yh at h;simp only[bind,Option.bind]at h;cases hxs:c.args.toList.mapM (Y7 st) with
 | none=>rw[hxs]at h;cases h
 | some ys=>
  rw[hxs]at h;simp only at h;cases hf:P.funcs[f]? with
  | none=>rw[hf]at h;cases h
  | some fn=>
   rw[hf]at h;simp only at h;cases hsh:Hc P g na fn.resultTypes.toList with
   | none=>rw[hsh]at h;cases h
   | some x=>
    rw[hsh]at h;simp only at h;split at h
    ·rename_i hcb
     have hv:=C1m (a:=a) (ρ:=ρ) (μ:=μ) hxs hR;generalize hr:(match B7t nm (g.dyn f) x.1 with | [y]=>SV.v y.1 y.2 | _=>.tup (B7t nm (g.dyn f) x.1))=r at h;have h6:(execOp a.eval o).run P w=.ok (.enter f (ys.map (·.val ρ μ)).toArray) w:=by
      have h7:c.args.map a.eval=(ys.map (·.val ρ μ)).toArray:=by rw[←hv,←List.map_toArray]
      have h8:=C3d (w:=w) hcb (ys.map (·.val ρ μ)).toArray;unfold execOp;rw[ho];simp only[resolve,hcal,h7];show ((Deferred.ofValue (.func (.func f) #[] #[]) (ys.map (·.val ρ μ)).toArray).bind fun d=>invoke d.target d.args).run P w=_;show (callFunc f ((#[]++(ys.map (·.val ρ μ)).toArray) ++ #[])).run P w=_;simpa using h8
     unfold Oper.wp;rw[h6,Oper.upon_enter];injection h with h;subst h;have h1:=hq _ rfl;have h2:=hdep _ rfl;cases hd:g.dyn f with
     | none=>
      rw[hd]at h1 h2 hK hr;refine (h1 μ w hS h2).mono fun e w' ⟨he,hb⟩=>?_;subst he;refine hK μ w' ?_;unfold Fs;exact ⟨hb,.inl ⟨rfl,rfl⟩⟩
     | some k=>
      rw[hd]at h1 h2 hK hr;refine (h1 μ w hS h2).mono fun e w' ⟨x,he,hb,hst⟩=>?_;subst he;refine hK (Xm μ nm x) w' ?_;unfold Fs;exact ⟨hb,.inr ⟨rfl,x,rfl,hst⟩⟩
    ·cases h
theorem A3x (o:Nat):∀(l:List Value) (k:Nat) (cs:Array Value),o+k+l.length≤cs.size→
 (l.zipIdx k).foldl (fun cs x=>cs.setIfInBounds (o+x.2) x.1) cs=(cs.toList.take (o+k)++l++cs.toList.drop (o+k+l.length)).toArray
 | [],k,cs,h=>by simp
 | v::l,k,cs,h=>by
  simp only[List.zipIdx_cons,List.foldl_cons];simp only[List.length_cons]at h;rw[A3x o l (k+1) _ (by simp;omega)];have hk:o+k<cs.toList.length:=by simp;omega
  congr 1;simp only[Array.toList_setIfInBounds,List.length_cons];rw[show o+(k+1)=o+k+1 by omega,List.take_add_one,List.take_set_of_le (Nat.le_refl _),List.getElem?_set_self hk,List.drop_set_of_lt (by omega)];rw[show o+k+1+l.length=o+k+(l.length+1) by omega];simp
theorem Lg {plc:Nat→Option (Nat×Nat)} {place:Nat→Option (Nat×Nat)} (hpl:∀i r,plc i=some r→place i=some r):∀(ps:List (Nat×Operand)) (l l':List Sg),Nf plc st l ps=some l'→
 (∀p∈ps,∀s,Y7 st p.2=some s→a.eval p.2=s.val ρ μ)→Instr.fill place (cellsL ρ μ l).toArray (ps.map fun p=>(p.1,a.eval p.2))=some (cellsL ρ μ l').toArray
 | [],l,l',h,_=>by cases h;rfl
 | (i,x)::ps,l,l',h,hR=>by
  unfold Nf at h;split at h
  ·rename_i o n y hp hy
   split at h
   ·rename_i hn
    split at h
    ·rename_i l1 hl1
     cases hx:Y7 st x with
     | none=>rw[hx]at hy;cases hy
     | some s=>
      rw[hx]at hy;have hv:=hR (i,x) (by simp) s hx;obtain⟨h1,h2⟩:=Mb (ρ:=ρ) (μ:=μ) (show Nj s=some y from hy);obtain⟨h3,h4,h5⟩:=Rt (ρ:=ρ) (μ:=μ) hl1;have ih:=Lg hpl ps l1 l' h fun p hp=>hR p (by simp[hp]);simp only[List.map_cons];unfold Instr.fill;rw[hpl i _ hp];simp only[hv,h1];have aA:(cellsL ρ μ y).toArray.size=n:=by simp[P7,hn]
      rw[if_neg (by simp[P7];omega)];have h6:=A3x o (cellsL ρ μ y) 0 (cellsL ρ μ l).toArray (by simp[P7];omega);have h7:(cellsL ρ μ y).toArray.zipIdx.foldl (fun cs x=>cs.setIfInBounds (o+x.2) x.1) (cellsL ρ μ l).toArray=(cellsL ρ μ l1).toArray:=by
       rw[←Array.foldl_toList];simp only[Array.toList_zipIdx];rw[h6,h3];simp
      have h8:∀(A B:Array Value),A=B→Instr.fill place A (ps.map fun p=>(p.1,a.eval p.2))=some (cellsL ρ μ l').toArray→Instr.fill place B (ps.map fun p=>(p.1,a.eval p.2))=some (cellsL ρ μ l').toArray:=fun A B e hh=>e▸hh;exact h8 _ _ h7.symm ih
    ·cases h
   ·cases h
  ·cases h
theorem A9i {α β:Type} {f:α→Sem β} {r:α→β}:∀(l:List α),(∀x∈l,(f x).run P w=.ok (r x) w)→(l.mapM f).run P w=.ok (l.map r) w
 | [],_=>rfl
 | x::l,h=>by
  simp only[List.mapM_cons,Sem.run_bind,h x (by simp),Result.andThen_ok,A9i l fun y hy=>h y (by simp[hy])];rfl
theorem C1k {t:TypeId} {ps:List (Nat×Operand)} {z:Value} {plc:Nat→Option (Nat×Nat)} {l':List Sg} (hz:(P.info? t).bind (·.zero)=some z) (hp:B6w P t=some plc)
 (hf:Nf plc st (z.cells.toList.map .c) ps=some l') (hR:∀p∈ps,∀s,Y7 st p.2=some s→a.eval p.2=s.val ρ μ) :
 (Instr.build t (ps.map fun p=>(p.1,a.eval p.2)).toArray).run P w=.ok (.agg (cellsL ρ μ l').toArray) w:=by
 have h1:(zeroValue t).run P w=.ok z w:=by
  cases hi:P.info? t with
  | none=>rw[hi]at hz;cases hz
  | some i=>
   have aB:i.zero=some z:=by simpa [hi] using hz
   simp[zeroValue,typeInfo,hi,aB]
 unfold B6w at hp;unfold Instr.build;simp only[Sem.run_bind,h1,Result.andThen_ok];have aA:(cellsL ρ μ (z.cells.toList.map .c)).toArray=z.cells:=by rw[Fh]
 split at hp
 ·rename_i fs hu
  split at hp
  ·rename_i hall
   cases hp;have h2:(underlying t).run P w=.ok (.struct fs) w:=by simp[underlying,hu]
   have h3:∀f∈fs.toList,(do pure (f.offset,←sizeOf f.type):Sem (Nat×Nat)).run P w=.ok (f.offset,(Gt P f.type).getD 0) w:=by intro f hf;have:=List.all_eq_true.1 hall f hf;obtain⟨n,hn⟩:=Option.isSome_iff_exists.1 this;simp only[Sem.run_bind,Y4 hn,Result.andThen_ok,hn];rfl
   have h4:=A9i (P:=P) (w:=w) (f:=fun f=>(do pure (f.offset,←sizeOf f.type):Sem (Nat×Nat))) (r:=fun f=>(f.offset,(Gt P f.type).getD 0)) fs.toList h3;have h5:(fs.mapM fun f=>(do pure (f.offset,←sizeOf f.type):Sem (Nat×Nat))).run P w=.ok (fs.map fun f=>(f.offset,(Gt P f.type).getD 0)) w:=by rw[Array.mapM_eq_mapM_toList];simp only[map_eq_pure_bind,Sem.run_bind,h4,Result.andThen_ok];simp;rw[←Array.toList_map,Array.toArray_toList]
   simp only[h2,Result.andThen_ok,Sem.run_bind,h5];have h6:=Lg (a:=a) (place:=fun i=>(fs.map fun f=>(f.offset,(Gt P f.type).getD 0))[i]?) (plc:=fun i=>(fs[i]?).bind fun f=>(Gt P f.type).map fun n=>(f.offset,n)) (by
    intro i r h;cases hfi:fs[i]? with
    | none=>rw[hfi]at h;cases h
    | some f=>
     rw[hfi]at h;simp only[Option.bind_some,Option.map_eq_some_iff]at h;obtain⟨n,hn,rfl⟩:=h;simp[hfi,hn]) ps _ l' hf hR
   rw[aA]at h6;rw[h6];rfl
  ·cases hp
 ·rename_i len e hu
  cases hs:Gt P e with
  | none=>rw[hs]at hp;cases hp
  | some n=>
   rw[hs]at hp;cases hp;have h2:(underlying t).run P w=.ok (.array len e) w:=by simp[underlying,hu]
   simp only[h2,Result.andThen_ok,Sem.run_bind,Y4 hs];have h6:=Lg (a:=a) (place:=fun i=>some (i*n,n)) (plc:=fun i=>some (i*n,n)) (fun i r h=>h) ps _ l' hf hR;rw[aA]at h6;rw[h6];rfl
 ·cases hp
def Bnd (v:Option Value) (d n:Nat):Prop:=(v=none∧n=d)∨∃k,v=some (.int k (n:Int))
theorem Vz {d n:Nat} {x:Option Operand} (h:A1f st d x=some n) (hR:∀y,x=some y→∀s,Y7 st y=some s→a.eval y=s.val ρ μ):Bnd (x.map a.eval) d n:=by
 cases x with
 | none=>cases h;exact .inl ⟨rfl,rfl⟩
 | some y=>
  have h':(Y7 st y).bind Si=some n:=h;cases hy:Y7 st y with
  | none=>rw[hy]at h';cases h'
  | some s=>
   rw[hy]at h';obtain⟨k,hk⟩:=Wb (ρ:=ρ) (μ:=μ) (show Si s=some n from h');exact .inr ⟨k,by simp[hR y rfl s hy,hk]⟩
theorem Zj {sl:Bool} {len cap l h:Nat} {low high:Option Value} (hl:Bnd low 0 l) (hh:Bnd high len h) (h1:l≤h) (h2:h≤cap):(Instr.sliceBounds sl len cap low high none).run P w=.ok (l,h,cap) w:=by
 unfold Instr.sliceBounds;have e1:(0:Int)≤(l:Int)∧(l:Int)≤(h:Int):=by omega
 have e2:(0:Int)≤(h:Int)∧(h:Int)≤(cap:Int):=by omega
 rcases hl with ⟨rfl,rfl⟩ | ⟨k,rfl⟩<;>rcases hh with ⟨rfl,rfl⟩ | ⟨k',rfl⟩<;>simp[Instr.sliceBound,asIntOf,e1,e2,h1,h2]
theorem B3z {t:TypeId} {x y:SV} {lo hi:Option Operand} (h:A7l P st t x lo hi=some y) (hl:∀z,lo=some z→∀s,Y7 st z=some s→a.eval z=s.val ρ μ) (hh:∀z,hi=some z→∀s,Y7 st z=some s→a.eval z=s.val ρ μ) :
 (Instr.sliceAt t (x.val ρ μ) (lo.map a.eval) (hi.map a.eval) none).run P w=.ok (y.val ρ μ) w:=by
 unfold A7l at h;simp only[bind,Option.bind]at h;cases hlo:A1f st 0 lo with
 | none=>rw[hlo]at h;cases h
 | some l=>
  rw[hlo]at h;simp only at h;have bl:=Vz (ρ:=ρ) (μ:=μ) hlo hl;split at h
  ·rename_i n e hu
   cases hp:Gv x with
   | none=>rw[hp]at h;cases h
   | some bo=>
    obtain⟨b,o⟩:=bo;rw[hp]at h;simp only at h;cases hhi:A1f st n hi with
    | none=>rw[hhi]at h;cases h
    | some hh'=>
     rw[hhi]at h;simp only at h;cases hz:Gt P e with
     | none=>rw[hz]at h;cases h
     | some z=>
      rw[hz]at h;simp only at h;split at h
      ·rename_i hb
       cases h;have h1:(underlying t).run P w=.ok (.array n e) w:=by simp[underlying,hu]
       unfold Instr.sliceAt;simp only[Sem.run_bind,h1,Result.andThen_ok,Gr hp,Instr.sureAddr,Sem.run_pure,Zj bl (Vz hhi hh) hb.1 hb.2,Y4 hz];by_cases hc:n=l
       ·simp[SV.val,cv,cellsL,Sg.cells,hc]
       ·simp[SV.val,cv,cellsL,Sg.cells,hc,Q3]
      ·cases h
  ·rename_i e hu
   split at h
   ·rename_i b o len q
    cases hhi:A1f st len hi with
    | none=>rw[hhi]at h;cases h
    | some hh'=>
     rw[hhi]at h;simp only at h;cases hz:Gt P e with
     | none=>rw[hz]at h;cases h
     | some z=>
      rw[hz]at h;simp only at h;split at h
      ·rename_i hb
       cases h;have h1:(underlying t).run P w=.ok (.slice e) w:=by simp[underlying,hu]
       unfold Instr.sliceAt;simp only[Sem.run_bind,h1,Result.andThen_ok];unfold Instr.slice;simp only[Sem.run_bind,h1,Result.andThen_ok,SV.val,cv,cellsL,Sg.cells,Bool.false_eq_true,if_false,List.headD_cons,Zj bl (Vz hhi hh) hb.1 hb.2,Y4 hz];by_cases hc:q=l
       ·simp[hc]
       ·simp[hc,Q3]
      ·cases h
   ·cases h
  ·cases h
theorem C5t {e:TypeId} {zv:Value} (hz:(P.info? e).bind (·.zero)=some zv) (w:World):(zeroValue e).run P w=.ok zv w:=by
 cases hi:P.info? e with
 | none=>rw[hi]at hz;cases hz
 | some i=>
  have aA:i.zero=some zv:=by simpa [hi] using hz
  simp[zeroValue,typeInfo,hi,aA]
theorem A2o {t e:TypeId} {len z:Nat} {ps:List (Nat×Operand)} {zv:Value} {l':List Sg} (hu:P.underlying t=some (.slice e)) (hs:Gt P e=some z) (hz:(P.info? e).bind (·.zero)=some zv)
 (hf:Nf (fun i=>some (i*z,z)) st ((List.range (len*z)).map fun j=>.c (zv.cells[j % zv.cells.size]!)) ps=some l') (h1:len*z≤2 ^ 24) (h2:len*z≠0) (hR:∀p∈ps,∀s,Y7 st p.2=some s→a.eval p.2=s.val ρ μ) :
 (Instr.buildSlice t len (ps.map fun p=>(p.1,a.eval p.2)).toArray).run P w=.ok (.slice (some ⟨w.heap.size,0,none⟩) len len) (w.alloc (.cells (cellsL ρ μ l').toArray e)):=by
 have aA:(underlying t).run P w=.ok (.slice e) w:=by simp[underlying,hu]
 have h6:=Lg (a:=a) (place:=fun i=>some (i*z,z)) (plc:=fun i=>some (i*z,z)) (fun i r h=>h) ps _ l' hf hR;have aB:cellsL ρ μ ((List.range (len*z)).map fun j=>Sg.c (zv.cells[j % zv.cells.size]!))=(List.range (len*z)).map fun j=>zv.cells[j % zv.cells.size]!:=by rw[←Fh ρ μ ((List.range (len*z)).map fun j=>zv.cells[j % zv.cells.size]!),List.map_map];rfl
 rw[aB]at h6;have h7:(Array.range (len*z)).map (zv.cells[· % zv.cells.size]!)=((List.range (len*z)).map fun j=>zv.cells[j % zv.cells.size]!).toArray:=by
  apply Array.ext';simp
 unfold Instr.buildSlice;simp only[Sem.run_bind,aA,Result.andThen_ok,Y4 hs];rw[if_neg (by omega)];rw[if_neg h2];simp only[Sem.run_bind,C5t hz,Result.andThen_ok,Sem.run_pure,h7,h6];rfl
theorem A5a {N:Nat→Bool}:∀ {l:List Sg} {n:Nat} {l':List Sg},Qh l n=some l'→l.all (·.okn N)=true→l'.all (·.okn N)=true
 | [],n,l',h,hl=>by
  unfold Qh at h;split at h
  ·cases h;rfl
  ·cases h
 | s::l,n,l',h,hl=>by
  unfold Qh at h;split at h
  ·cases h;exact hl
  ·split at h
   ·simp only[List.all_cons,Bool.and_eq_true]at hl;exact A5a h hl.2
   ·cases h
theorem A3m {N:Nat→Bool}:∀ {l:List Sg} {n:Nat} {l':List Sg},Nr l n=some l'→l.all (·.okn N)=true→l'.all (·.okn N)=true
 | [],n,l',h,hl=>by
  unfold Nr at h;split at h
  ·cases h;rfl
  ·cases h
 | s::l,n,l',h,hl=>by
  unfold Nr at h;split at h
  ·cases h;rfl
  ·split at h
   ·simp only[List.all_cons,Bool.and_eq_true]at hl;cases h2:Nr l (n-s.len) with
    | none=>rw[h2]at h;cases h
    | some l2=>
     rw[h2]at h;cases h;simp only[List.all_cons,Bool.and_eq_true];exact ⟨hl.1,A3m h2 hl.2⟩
   ·cases h
theorem C9m {N:Nat→Bool} {l:List Sg} {o:Nat} {x l':List Sg} (h:A0r l o x=some l') (hl:l.all (·.okn N)=true) (hx:x.all (·.okn N)=true):l'.all (·.okn N)=true:=by
 unfold A0r at h;split at h
 ·rename_i a b h1 h2
  cases h;simp only[List.all_append,Bool.and_eq_true];exact ⟨A3m h1 hl,hx,A5a h2 hl⟩
 ·cases h
theorem A3i {N:Nat→Bool} {plc:Nat→Option (Nat×Nat)}:∀(ps:List (Nat×Operand)) (l l':List Sg),Nf plc st l ps=some l'→l.all (·.okn N)=true→(∀p∈ps,∀s,Y7 st p.2=some s→s.okn N=true)→l'.all (·.okn N)=true
 | [],l,l',h,hl,_=>by cases h;exact hl
 | (i,x)::ps,l,l',h,hl,hp=>by
  unfold Nf at h;split at h
  ·rename_i o n y hpl hy
   split at h
   ·split at h
    ·rename_i l1 hl1
     cases hx:Y7 st x with
     | none=>rw[hx]at hy;cases hy
     | some s=>
      rw[hx]at hy;exact A3i ps l1 l' h (C9m hl1 hl (A4l (show Nj s=some y from hy) (hp (i,x) (by simp) s hx))) fun p hm=>hp p (by simp[hm])
    ·cases h
   ·cases h
  ·cases h
theorem Za {x:SV} {b o l:Nat} (h:B2b x=some (b,o,l)):∃q,x.val ρ μ=.slice (some ⟨(μ b).b,o,none⟩) l q:=by
 unfold B2b at h;split at h
 ·cases h;exact ⟨_,rfl⟩
 ·cases h
theorem Wv {t e:TypeId} (h:Qc P t=some e):P.underlying t=some (.slice e):=by
 unfold Qc at h;split at h
 ·cases h;assumption
 ·cases h
theorem C4p {t e T T':TypeId} {b o l q b' o' l' q' z:Nat} {ts:List TypeId} {ty:TypeId} {cs cs' seg cs2:List Sg} (he:Qc P t=some e) (hz:Gt P e=some z) (hb:Bk w (μ b).b T (cellsL ρ μ cs)) (hb':Bk w (μ b').b T' (cellsL ρ μ cs'))
 (hc:Vs cs' o' (Nat.min l' l*z)=some seg) (hp:A0r cs o seg=some cs2) (ho:C9c seg=true) :
 (Builtin.copy_ (t::ts).toArray ty #[.slice (some ⟨(μ b).b,o,none⟩) l q,.slice (some ⟨(μ b').b,o',none⟩) l' q']).run P w=.ok (.int .i64 (Nat.min l' l:Nat)) (C4 w ⟨(μ b).b,o,none⟩ (cellsL ρ μ seg))∧Bk (C4 w ⟨(μ b).b,o,none⟩ (cellsL ρ μ seg)) (μ b).b T (cellsL ρ μ cs2):=by
 obtain⟨h1,h2,h3⟩:=Kl (ρ:=ρ) (μ:=μ) hc;obtain⟨h4,h5,h6⟩:=Rt (ρ:=ρ) (μ:=μ) hp;have aA:o+(cellsL ρ μ seg).length≤(cellsL ρ μ cs).length:=by rw[P7,P7];exact h6
 refine ⟨?_,by rw[h4];exact hb.put aA⟩;have hu:(underlying t).run P w=.ok (.slice e) w:=by simp[underlying,Wv he]
 have hr:=hb'.row (o:=o') (n:=Nat.min l' l*z) (by rw[P7];exact h3);rw[←h1]at hr;obtain⟨hl,aC⟩:=Z0.1 hr;have aD:(loadCells ⟨(μ b').b,o',none⟩ (Nat.min l' l*z)).run P w=.ok (cellsL ρ μ seg).toArray w:=by have:=run_loadCells_list (P:=P) (w:=w) ⟨(μ b').b,o',none⟩ (cellsL ρ μ seg) (fun j v hj=>by rw[Q3];exact aC j v hj);rwa [hl]at this
 have aB:=Jp.1 (hb.can (o:=o) (n:=(cellsL ρ μ seg).length) aA);have aE:=run_storeCells_cells (P:=P) (μ b).b o (cellsL ρ μ seg) 0 w (fun j hj=>by rw[Nat.add_zero];exact (aB j hj).1) (fun j hj=>by rw[Nat.add_zero];exact (aB j hj).2) (Rn ρ μ seg ho);unfold Builtin.copy_;simp only[List.getElem?_toArray,List.getElem?_cons_zero];show (do
  let .slice elem ← underlying t | stuck "copy: slice type expected"
  let n:=Nat.min (←Builtin.lenOf (.slice (some ⟨(μ b').b,o',none⟩) l' q')) l
  let cells ←Builtin.firstCells (←sizeOf elem) n (.slice (some ⟨(μ b').b,o',none⟩) l' q')
  storeCells ⟨(μ b).b,o,none⟩ cells.toList
  pure (goInt n):Sem Value).run P w=_
 simp only[Sem.run_bind,hu,Result.andThen_ok,Builtin.lenOf,Sem.run_pure,Y4 hz,Builtin.firstCells,aD,aE];rfl
end
section
variable {P : Program} {g : Cfg} {nm na : Nat} {st : St} {ev : SEv} {ρ : List Av} {μ : Nat → Nm} {S : World → Prop} {a : Act} {w : World}
theorem C4k {x:Operand} {v:Value} (h:Mo st x=some v) (hR:∀s,Y7 st x=some s→a.eval x=s.val ρ μ):a.eval x=v:=by
 unfold Mo at h;cases ho:Y7 st x with
 | none=>rw[ho]at h;cases h
 | some s=>rw[ho]at h;rw[hR s ho];exact B3o h
theorem A4n:∀ {xs:List Operand} {ys:List SV},xs.mapM (Y7 st)=some ys→∀x∈xs,∃y,Y7 st x=some y
 | [],_,_,x,hx=>by cases hx
 | x::xs,ys,h,z,hz=>by
  simp only[List.mapM_cons,bind,Option.bind]at h;cases hx:Y7 st x with
  | none=>rw[hx]at h;cases h
  | some y=>
   rw[hx]at h;simp only at h;cases hxs:xs.mapM (Y7 st) with
   | none=>rw[hxs]at h;cases h
   | some zs=>
    rcases List.mem_cons.1 hz with rfl | hz
    ·exact ⟨y,hx⟩
    ·exact A4n hxs z hz
theorem B1j {o:Oper} {K:Act→World→Prop} {Q:Exit→Act→World→Prop} (h:Zg P g ρ nm na st o=some ev)
 (hR:∀x∈o.op.operands.toList,∀s,Y7 st x=some s→a.eval x=s.val ρ μ)
 (hN:∀x∈o.op.operands.toList,∀s,Y7 st x=some s→s.okn (fun b=>b != nm)=true)
 (hB:∀b∈ev.rb,∀T cs,st.blk b=some (T,cs)→Bk w (μ b).b T (cellsL ρ μ cs))
 (hq:∀q,ev.rq=some q→q.Ok P ρ g.f S) (hS:S w) (hdep:∀q,ev.rq=some q→q.dep.ok ρ g.f μ w)
 (hK:∀μ' w',Fs ρ g.f S st nm ev μ w μ' w'→K (a.put o.dst (ev.val.val ρ μ')) w'):o.wp P a w K Q:=by
 have aA:(execOp a.eval o).run P w=.ok (.value (ev.val.val ρ μ)) w→ev.wb=none→ev.dy=false→o.wp P a w K Q:=by intro h1 h3 h4;unfold Oper.wp;rw[h1];exact hK μ w (by unfold Fs;rw[h3];exact ⟨Below.refl _ _,.inl ⟨h4,rfl⟩⟩)
 have aB:∀T cs,(execOp a.eval o).run P w=.ok (.value (.pointer (some ⟨w.heap.size,0,none⟩))) (w.alloc (.cells (cellsL ρ μ cs).toArray T))→ev.val=.v false [.p nm 0]→ev.wb=some (nm,T,cs)→
  cs.all (·.okn (fun b=>b != nm))=true→ev.dy=false→o.wp P a w K Q:=by
  intro T cs h1 h2 h3 h4 h9;unfold Oper.wp;rw[h1];have h5:cellsL ρ μ cs=cellsL ρ (Xm μ nm ⟨w.heap.size,jnk,rfl⟩) cs:=Dq (fun b hb=>A6g hb) h4;have h6:=hK (Xm μ nm ⟨w.heap.size,jnk,rfl⟩) (w.alloc (.cells (cellsL ρ μ cs).toArray T)) (by
   unfold Fs;rw[h3];exact ⟨h9,.inl ⟨rfl,rfl,(Below.refl _ _).alloc (Nat.le_refl _) _,by rw[←h5];exact Bk.new w T _⟩⟩)
  rw[h2]at h6;simp only[SV.val,cv,Bool.false_eq_true,if_false,M2,U2,Sg.cells,A1h,List.append_nil,List.headD_cons]at h6;exact h6
 unfold Zg at h;by_cases hc:Ug st o=true
 ·rw[if_pos hc]at h;unfold Ug at hc;simp only[Bool.and_eq_true,List.all_eq_true]at hc;have aH:∀cs b,o.op≠.select cs b:=by intro cs b hb;rw[hb]at hc;cases hc.1
  have h1:execOp a.eval o=execOp (fun x=>(Mo st x).getD undef) o:=by refine execOp_congr o aH fun x hx=>?_;have h2:=hc.2 x (by simpa using hx);obtain⟨v,hv⟩:=Option.isSome_iff_exists.1 h2;rw[C4k hv (hR x (by simpa using hx)),hv];rfl
  unfold Zw at h;split at h
  ·rename_i v hv
   cases hcv:Fr v with
   | none=>rw[hcv]at h;cases h
   | some x=>
    rw[hcv]at h;cases h;refine aA ?_ rfl rfl;rw[h1,Ru hv w,Li hcv]
  ·cases h
 ·rw[if_neg hc]at h;clear hc;by_cases hgen:Zt P g ρ nm na st o=none;case pos=>
   rw[hgen]at h;simp only[B5d,bind,Option.bind]at h;cases hmk:B3g o.op with
   | none=>rw[hmk]at h;cases h
   | some mk=>
    rw[hmk]at h;simp only at h;cases hxs:o.op.operands.toList.mapM (Y7 st) with
    | none=>rw[hxs]at h;cases h
    | some xs=>
     rw[hxs]at h;simp only at h;have hv:∀x∈o.op.operands.toList,a.eval x=E1p ρ st μ x:=fun x hx=>by
      obtain⟨y,hy⟩:=A4n hxs x hx;unfold E1p;rw[hy];exact hR x hx y hy
     have aK:∀r:(Bool×List Sg)×Nat,some { val:=SV.v r.1.1 r.1.2,rq:=some (Rq.sem mk st (.v r.1.1 r.1.2) none (Hy st g.f.sup xs)),rb:=(Hy st g.f.sup xs).bs.map (·.1),na:=r.2:SEv }=some ev→o.wp P a w K Q:=by
      intro r hr;cases hr;have h1:=hq _ rfl μ w hS (hdep _ rfl);refine aA ?_ rfl rfl;obtain⟨dst,op,ty,pos,after,guard⟩:=o;cases op<;>simp only[B3g,Option.some.injEq,reduceCtorEq]at hmk<;>subst hmk<;>simp only[Op.operands]at hv<;>simp only[execOp];case load t x=>rw[hv x (by simp)];exact M5 h1
      case convert s d x=>rw[hv x (by simp)];exact M5 h1
      case fieldAddr t x f=>rw[hv x (by simp)];exact M5 h1
      case indexAddr t x i=>rw[hv x (by simp),hv i (by simp)];exact M5 h1
      case index t x i=>rw[hv x (by simp),hv i (by simp)];exact M5 h1
     by_cases hdy:B9c o.op=true
     ·rw[if_pos hdy]at h;cases h;obtain⟨x,h1,h2⟩:=hq _ rfl μ w hS (hdep _ rfl);obtain⟨dst,op,ty,pos,after,guard⟩:=o;cases op<;>simp only[B9c,Bool.false_eq_true]at hdy;case indexAddr t y i=>simp only[B3g,Option.some.injEq]at hmk;subst hmk;simp only[Op.operands]at hv;unfold Oper.wp;simp only[execOp];rw[hv y (by simp),hv i (by simp),M5 h1];refine hK (Xm μ nm x) w ?_;unfold Fs;exact ⟨Below.refl _ _,.inr ⟨rfl,x,rfl,h2⟩⟩
     rw[if_neg hdy]at h;by_cases ht:o.type=0
     ·rw[if_pos ht]at h;exact aK ((false,[.m na 1]),na+1) h
     ·rw[if_neg ht]at h;cases hsh:Sc P g na o.type with
      | none=>rw[hsh]at h;cases h
      | some r=>rw[hsh]at h;exact aK r h
  obtain⟨aN,aC⟩:=Option.ne_none_iff_exists'.1 hgen;rw[aC]at h;simp only at h;by_cases hns:A7q aN=true;case neg=>rw[if_neg hns]at h;cases h
  rw[if_pos hns]at h;injection h with h;subst h;have h:=aC;clear hgen aC hns;unfold Zt at h;obtain⟨dst,op,ty,pos,after,guard⟩:=o;simp only at h hR hN;cases op<;>(try simp only at h);case move x=>
   cases hx:Y7 st x with
   | none=>rw[hx]at h;cases h
   | some s=>rw[hx]at h;cases h;exact aA (by simp only[execOp];rw[hR x (by simp[Op.operands]) s hx];rfl) rfl rfl
  case assign x=>
   cases hx:Y7 st x with
   | none=>rw[hx]at h;cases h
   | some s=>rw[hx]at h;cases h;exact aA (by simp only[execOp];rw[hR x (by simp[Op.operands]) s hx];rfl) rfl rfl
  case pick c x y=>
   split at h
   ·rename_i b hb
    cases hc:Y7 st c with
    | none=>rw[hc]at hb;cases hb
    | some sc=>
     rw[hc]at hb;have h2:a.eval c=.bool b:=(hR c (by simp[Op.operands]) _ hc).trans (Lo hb);cases hx:Y7 st (if b then x else y) with
     | none=>rw[hx]at h;cases h
     | some s=>
      rw[hx]at h;cases h;refine aA ?_ rfl rfl;simp only[execOp,h2,asBool];cases b
      ·simp only[Bool.false_eq_true,if_false]at hx;rw[←hR y (by simp[Op.operands]) s hx];rfl
      ·simp only[if_true]at hx;rw[←hR x (by simp[Op.operands]) s hx];rfl
   ·cases h
  case alloc t=>
   split at h
   ·rename_i z hz
    split at h
    ·rename_i h1
     cases h;refine aB t (z.cells.toList.map .c) ?_ rfl rfl (by simp[Sg.okn]) rfl;rw[Fh,Array.toArray_toList];exact I7 w _ _ _ _ _ _ t z hz
    ·cases h
   ·cases h
  case box t x=>
   cases hx:Y7 st x with
   | none=>rw[hx]at h;cases h
   | some s=>
    rw[hx]at h;simp only[Option.bind_some]at h;cases hl:Nj s with
    | none=>rw[hl]at h;cases h
    | some l=>
     rw[hl]at h;cases h;refine aB t l ?_ rfl rfl (A4l hl (hN x (by simp[Op.operands]) s hx)) rfl;simp only[execOp];rw[hR x (by simp[Op.operands]) s hx];refine M5 (v:=.pointer (some ⟨w.heap.size,0,none⟩)) ?_;simp[Instr.box,newVar,newRow,newObj,(Mb (ρ:=ρ) (μ:=μ) hl).1];rfl
  case build t ps=>
   split at h
   ·rename_i z plc hz hp
    split at h
    ·cases hl:Nf plc st (z.cells.toList.map .c) ps.toList with
     | none=>rw[hl]at h;cases h
     | some l=>
      rw[hl]at h;cases h;refine aA ?_ rfl rfl;simp only[execOp];refine M5 ?_;have aE:∀p∈ps.toList,p.2∈(Op.build t ps).operands.toList:=fun p hp=>by
       show p.2∈((ps.toList.map (·.2)).toArray).toList;exact List.mem_map_of_mem (f:=fun x:Nat×Operand=>x.2) hp
      have h1:=C1k (a:=a) (w:=w) hz hp hl fun p hp s hs=>hR p.2 (aE p hp) s hs;have e:(ps.toList.map fun p=>(p.1,a.eval p.2)).toArray=ps.map fun p=>(p.1,a.eval p.2):=by rw[←Array.toList_map,Array.toArray_toList]
      rw[e]at h1;exact h1
    ·cases h
   ·cases h
  case load t x=>
   simp only[bind,Option.bind]at h;cases hx:Y7 st x with
   | none=>rw[hx]at h;cases h
   | some s=>
    rw[hx]at h;simp only at h;cases hp:Gv s with
    | none=>rw[hp]at h;cases h
    | some bf=>
     obtain⟨b,f⟩:=bf;rw[hp]at h;simp only at h;cases hb:st.blk b with
     | none=>rw[hb]at h;cases h
     | some Tc=>
      obtain⟨T,cs⟩:=Tc;rw[hb]at h;simp only at h;cases hs:Gt P t with
      | none=>rw[hs]at h;cases h
      | some n=>
       rw[hs]at h;simp only at h;cases ha:Ti P t with
       | none=>rw[ha]at h;cases h
       | some ag=>
        rw[ha]at h;simp only at h;cases hc:Vs cs f n with
        | none=>rw[hc]at h;cases h
        | some l=>
         rw[hc]at h;simp only at h;split at h
         ·cases h
         ·rename_i hcond
          cases h;refine aA ?_ rfl rfl;simp only[execOp];rw[hR x (by simp[Op.operands]) s hx,Gr hp];refine M5 (A4u (hB b (by simp) T cs hb) hs ha hc ?_ ?_)
          ·intro h0;subst h0;simp at hcond
          ·intro h0;subst h0;simp at hcond;exact ⟨hcond.1.1,hcond.2⟩
  case store t x y=>
   simp only[bind,Option.bind]at h;cases hx:Y7 st x with
   | none=>rw[hx]at h;cases h
   | some s=>
    rw[hx]at h;simp only at h;cases hp:Gv s with
    | none=>rw[hp]at h;cases h
    | some bf=>
     obtain⟨b,f⟩:=bf;rw[hp]at h;simp only at h;cases hb:st.blk b with
     | none=>rw[hb]at h;cases h
     | some Tc=>
      obtain⟨T,cs⟩:=Tc;rw[hb]at h;simp only at h;cases hy:Y7 st y with
      | none=>rw[hy]at h;cases h
      | some sy=>
       rw[hy]at h;simp only at h;cases hl:Nj sy with
       | none=>rw[hl]at h;cases h
       | some l=>
        rw[hl]at h;simp only at h;cases hs:Gt P t with
        | none=>rw[hs]at h;cases h
        | some n=>
         rw[hs]at h;simp only at h;cases hc:A0r cs f l with
         | none=>rw[hc]at h;cases h
         | some aI=>
          rw[hc]at h;simp only at h;split at h
          ·cases h
          ·rename_i hcond
           cases h;simp only[Bool.or_eq_true,bne_iff_ne,ne_eq,beq_iff_eq,not_or,Decidable.not_not]at hcond;obtain⟨hv,ho⟩:=Mb (ρ:=ρ) (μ:=μ) hl;obtain⟨h1,h2⟩:=B6m (hB b (by simp) T cs hb) hs hv ho hc hcond.1.1 hcond.1.2;unfold Oper.wp;simp only[execOp];rw[hR x (by simp[Op.operands]) s hx,Gr hp,hR y (by simp[Op.operands]) sy hy];simp only[Sem.run_bind,h1,Result.andThen_ok];refine hK μ _ ?_;unfold Fs;refine ⟨rfl,.inr ⟨by simp,⟨T,cs,hb⟩,rfl,?_,A1z _ _ _,h2⟩⟩;have h3:=C0 (Below.refl 0 w) (Nat.zero_le _) (a:=⟨(μ b).b,f,none⟩) (cellsL ρ μ l);exact ⟨h3.os,h3.tape,h3.output,h3.size,fun k hk hne=>T7 _ _ _ _ _ (fun e=>hne (by rw[e]))⟩
  case fieldAddr t x f=>
   simp only[bind,Option.bind]at h;cases hx:Y7 st x with
   | none=>rw[hx]at h;cases h
   | some s=>
    rw[hx]at h;simp only at h;cases hp:Gv s with
    | none=>rw[hp]at h;cases h
    | some bf=>
     obtain⟨b,k⟩:=bf;rw[hp]at h;simp only at h;cases hf:Og P t f with
     | none=>rw[hf]at h;cases h
     | some fd=>
      rw[hf]at h;simp only at h;cases hs:Gt P fd.type with
      | none=>rw[hs]at h;cases h
      | some n=>
       rw[hs]at h;simp only at h;split at h
       ·cases h
       ·rename_i hn
        cases h;refine aA ?_ rfl rfl;simp only[execOp];rw[hR x (by simp[Op.operands]) s hx,Gr hp];exact M5 (B2l hf hs (by simpa using hn))
  case field t x f=>
   split at h
   ·rename_i l hx
    simp only[bind,Option.bind]at h;cases hf:Og P t f with
    | none=>rw[hf]at h;cases h
    | some fd=>
     rw[hf]at h;simp only at h;cases hp:Wg P fd.type l fd.offset with
     | none=>rw[hp]at h;cases h
     | some y=>
      rw[hp]at h;cases h;refine aA ?_ rfl rfl;simp only[execOp];rw[hR x (by simp[Op.operands]) _ hx];exact M5 (C2i hf hp)
   ·cases h
  case indexAddr t x i=>
   simp only[bind,Option.bind]at h;cases hi:Y7 st i with
   | none=>rw[hi]at h;cases h
   | some si=>
    rw[hi]at h;simp only at h;cases hk:Si si with
    | none=>rw[hk]at h;cases h
    | some k=>
     rw[hk]at h;simp only at h;obtain⟨IK,aG⟩:=Wb (ρ:=ρ) (μ:=μ) hk;split at h
     ·rename_i len e hu
      cases hx:Y7 st x with
      | none=>rw[hx]at h;cases h
      | some s=>
       rw[hx]at h;simp only at h;cases hp:Gv s with
       | none=>rw[hp]at h;cases h
       | some bf=>
        obtain⟨b,f⟩:=bf;rw[hp]at h;simp only at h;cases hs:Gt P e with
        | none=>rw[hs]at h;cases h
        | some n=>
         rw[hs]at h;simp only at h;split at h
         ·rename_i hlt
          cases h;refine aA ?_ rfl rfl;simp only[execOp];rw[hR x (by simp[Op.operands]) s hx,Gr hp,hR i (by simp[Op.operands]) si hi,aG];exact M5 (Wt hu hs hlt)
         ·cases h
     ·rename_i e hu
      split at h
      ·rename_i b f l q hx
       cases hs:Gt P e with
       | none=>rw[hs]at h;cases h
       | some n=>
        rw[hs]at h;simp only at h;split at h
        ·rename_i hlt
         cases h;refine aA ?_ rfl rfl;simp only[execOp];rw[hR x (by simp[Op.operands]) _ hx,hR i (by simp[Op.operands]) si hi,aG];exact M5 (A8j hu hs hlt)
        ·cases h
      ·cases h
     ·cases h
  case index t x i=>
   simp only[bind,Option.bind]at h;cases hi:Y7 st i with
   | none=>rw[hi]at h;cases h
   | some si=>
    rw[hi]at h;simp only at h;cases hk:Si si with
    | none=>rw[hk]at h;cases h
    | some k=>
     rw[hk]at h;simp only at h;obtain⟨IK,aG⟩:=Wb (ρ:=ρ) (μ:=μ) hk;split at h
     ·rename_i len e l hu hx
      cases hs:Gt P e with
      | none=>rw[hs]at h;cases h
      | some n=>
       rw[hs]at h;simp only at h;cases hp:Wg P e l (k*n) with
       | none=>rw[hp]at h;cases h
       | some y=>
        rw[hp]at h;simp only at h;split at h
        ·rename_i hlt
         cases h;refine aA ?_ rfl rfl;simp only[execOp];rw[hR x (by simp[Op.operands]) _ hx,hR i (by simp[Op.operands]) si hi,aG];exact M5 (C1h hu hs hp hlt)
        ·cases h
     ·cases h
  case binOp op t x y yt=>
   simp only[bind,Option.bind]at h;cases hx:Y7 st x with
   | none=>rw[hx]at h;cases h
   | some sx=>
    rw[hx]at h;simp only at h;cases hy:Y7 st y with
    | none=>rw[hy]at h;cases h
    | some sy=>
     rw[hy]at h;simp only at h;cases h;have h1:=hq _ rfl μ x y w hS (hdep _ rfl);refine aA ?_ rfl rfl;simp only[execOp];rw[hR x (by simp[Op.operands]) sx hx,hR y (by simp[Op.operands]) sy hy];exact M5 h1
  case slice t x lo hi mx=>
   cases mx with
   | some m=>simp only at h;cases h
   | none=>
    simp only[bind,Option.bind]at h;cases hx:Y7 st x with
    | none=>rw[hx]at h;cases h
    | some sx=>
     rw[hx]at h;simp only at h;cases hz:A7l P st t sx lo hi with
     | none=>rw[hz]at h;cases h
     | some z=>
      rw[hz]at h;cases h;refine aA ?_ rfl rfl;have h1:=B3z (a:=a) (w:=w) hz (fun y hy s hs=>hR y (by simp[Op.operands,hy]) s hs) (fun y hy s hs=>hR y (by simp[Op.operands,hy]) s hs);simp only[execOp];rw[hR x (by simp[Op.operands]) sx hx];exact M5 h1
  case sliceToArrayPointer t x=>
   split at h
   ·rename_i n e b o l q hu hx
    split at h
    ·rename_i hl
     cases h;refine aA ?_ rfl rfl;simp only[execOp];rw[hR x (by simp[Op.operands]) _ hx];refine M5 ?_;have h1:(underlying t).run P w=.ok (.array n e) w:=by simp[underlying,hu]
     unfold Instr.arrayAt;simp only[Sem.run_bind,h1,Result.andThen_ok,SV.val,cv,cellsL,Sg.cells,Bool.false_eq_true,if_false,List.headD_cons];rw[if_neg (by omega)];rfl
    ·cases h
   ·cases h
  case buildSlice t len ps=>
   simp only[bind,Option.bind]at h;cases he:Qc P t with
   | none=>rw[he]at h;cases h
   | some e=>
    rw[he]at h;simp only at h;have hu:P.underlying t=some (.slice e):=by
     unfold Qc at he;split at he
     ·cases he;assumption
     ·cases he
    cases hs:Gt P e with
    | none=>rw[hs]at h;cases h
    | some z=>
     rw[hs]at h;simp only at h;cases hz:(P.info? e).bind (·.zero) with
     | none=>simp only[Option.bind]at hz;simp only[hz]at h;cases h
     | some zv=>
      have aL:=hz;simp only[Option.bind]at aL;simp only[aL]at h;cases hl:Nf (fun i=>some (i*z,z)) st ((List.range (len*z)).map fun j=>.c (zv.cells[j % zv.cells.size]!)) ps.toList with
      | none=>rw[hl]at h;cases h
      | some l=>
       rw[hl]at h;simp only at h;split at h
       ·rename_i hc
        cases h;have aE:∀p∈ps.toList,p.2∈(Op.buildSlice t len ps).operands.toList:=fun p hp=>by
         show p.2∈((ps.toList.map (·.2)).toArray).toList;exact List.mem_map_of_mem (f:=fun x:Nat×Operand=>x.2) hp
        have h1:=A2o (a:=a) (w:=w) hu hs hz hl hc.1 hc.2.1 fun p hp s hs=>hR p.2 (aE p hp) s hs;have e1:(ps.toList.map fun p=>(p.1,a.eval p.2)).toArray=ps.map fun p=>(p.1,a.eval p.2):=by rw[←Array.toList_map,Array.toArray_toList]
        rw[e1]at h1;have aO:l.all (·.okn fun b=>b != nm)=true:=A3i _ _ _ hl (by simp[Sg.okn]) fun p hp s hs=>hN p.2 (aE p hp) s hs;have h5:cellsL ρ μ l=cellsL ρ (Xm μ nm ⟨w.heap.size,jnk,rfl⟩) l:=Dq (fun b hb=>A6g hb) aO;unfold Oper.wp;have h9:(execOp a.eval ⟨dst,.buildSlice t len ps,ty,pos,after,guard⟩).run P w=.ok (.value (.slice (some ⟨w.heap.size,0,none⟩) len len)) (w.alloc (.cells (cellsL ρ μ l).toArray e)):=by
         simp only[execOp];exact M5 h1
        rw[h9];have h6:=hK (Xm μ nm ⟨w.heap.size,jnk,rfl⟩) (w.alloc (.cells (cellsL ρ μ l).toArray e)) (by
         unfold Fs;exact ⟨rfl,.inl ⟨rfl,rfl,(Below.refl _ _).alloc (Nat.le_refl _) _,by rw[←h5];exact Bk.new w e _⟩⟩)
        simp only[SV.val,cv,Bool.false_eq_true,if_false,M2,U2,Sg.cells,A1h,List.append_nil,List.headD_cons]at h6;exact h6
       ·cases h
  case unOp op t x=>
   split at h
   ·rename_i b hb
    cases hx:Y7 st x with
    | none=>rw[hx]at hb;cases hb
    | some sx=>
     rw[hx]at hb;have h2:a.eval x=.bool b:=(hR x (by simp[Op.operands]) _ hx).trans (Lo hb);split at h
     ·rename_i v hv
      cases hcv:Fr v with
      | none=>rw[hcv]at h;cases h
      | some y=>
       rw[hcv]at h;cases h;refine aA ?_ rfl rfl;simp only[execOp,h2];exact M5 ((Ru hv w).trans (by rw[←Li hcv]))
     ·cases h
   ·cases h
  case extract x i=>
   split at h
   ·rename_i l hx
    cases hl:l[i]? with
    | none=>rw[hl]at h;cases h
    | some y=>
     rw[hl]at h;cases h;refine aA ?_ rfl rfl;simp only[execOp];rw[hR x (by simp[Op.operands]) _ hx];refine M5 ?_;simp[Instr.extract,SV.val,hl]
   ·cases h
  case nilCheck x=>
   split at h
   ·rename_i b f hx
    cases h;refine aA ?_ rfl rfl;simp only[execOp];rw[hR x (by simp[Op.operands]) _ hx];rfl
   ·cases h
  case call c=>
   split at h
   ·rename_i f hf
    exact B4a (K:=K) (Q:=Q) (w:=w) (o:=⟨dst,.call c,ty,pos,after,guard⟩) rfl hf h (fun x hx s hs=>hR x (by simp[Op.operands,Call.operands];right;simpa using hx) s hs) hq hS hdep hK
   ·rename_i hf
    split at h
    ·rename_i t ts x y ht ha
     simp only[B8g,bind,Option.bind]at h;cases hx:Y7 st x with
     | none=>rw[hx]at h;cases h
     | some sx=>
      rw[hx]at h;simp only at h;cases hsx:B2b sx with
      | none=>rw[hsx]at h;cases h
      | some bol=>
       obtain⟨b,o,l⟩:=bol;rw[hsx]at h;simp only at h;cases hy:Y7 st y with
       | none=>rw[hy]at h;cases h
       | some sy=>
        rw[hy]at h;simp only at h;cases hsy:B2b sy with
        | none=>rw[hsy]at h;cases h
        | some bol'=>
         obtain⟨b',o',l'⟩:=bol';rw[hsy]at h;simp only at h;cases he:Qc P t with
         | none=>rw[he]at h;cases h
         | some e=>
          rw[he]at h;simp only at h;cases hz:Gt P e with
          | none=>rw[hz]at h;cases h
          | some z=>
           rw[hz]at h;simp only at h;cases hbk:st.blk b with
           | none=>rw[hbk]at h;cases h
           | some Tc=>
            obtain⟨T,cs⟩:=Tc;rw[hbk]at h;simp only at h;cases hbk':st.blk b' with
            | none=>rw[hbk']at h;cases h
            | some Tc'=>
             obtain⟨T',aI⟩:=Tc';rw[hbk']at h;simp only at h;cases hc:Vs aI o' (Nat.min l' l*z) with
             | none=>rw[hc]at h;cases h
             | some seg=>
              rw[hc]at h;simp only at h;cases hp:A0r cs o seg with
              | none=>rw[hp]at h;cases h
              | some cs2=>
               rw[hp]at h;simp only at h;split at h
               ·rename_i hone
                cases h;have aJ:x∈c.args.toList:=by rw[ha];simp
                have aP:y∈c.args.toList:=by rw[ha];simp
                have aM:∀z,z∈c.args.toList→z∈(Op.call c).operands.toList:=fun z hz=>by simp[Op.operands,Call.operands];right;simpa using hz
                obtain⟨q,e1⟩:=Za (ρ:=ρ) (μ:=μ) hsx;obtain⟨q',e2⟩:=Za (ρ:=ρ) (μ:=μ) hsy;rw[←hR x (aM x aJ) sx hx]at e1;rw[←hR y (aM y aP) sy hy]at e2;have aD:c.args.map a.eval=#[a.eval x,a.eval y]:=by
                 have:c.args=#[x,y]:=by rw[←Array.toArray_toList (xs:=c.args),ha]
                 rw[this];simp
                have aF:c.argTypes=(t::ts).toArray:=by rw[←ht]
                obtain⟨h1,h2⟩:=C4p (P:=P) (w:=w) (ts:=ts) (ty:=ty) (q:=q) (q':=q') he hz (hB b (by simp) T cs hbk) (hB b' (by simp) T' aI hbk') hc hp hone;unfold Oper.wp;have h3:(execOp a.eval ⟨dst,.call c,ty,pos,after,guard⟩).run P w=.ok (.value (.int .i64 (Nat.min l' l:Nat))) (C4 w ⟨(μ b).b,o,none⟩ (cellsL ρ μ seg)):=by
                 simp only[execOp,resolve,hf,aD,e1,e2];rw[aF];exact M5 h1
                rw[h3];refine hK μ _ ?_;unfold Fs;refine ⟨rfl,.inr ⟨by simp,⟨T,cs,hbk⟩,rfl,?_,A1z _ _ _,h2⟩⟩;have h4:=C0 (Below.refl 0 w) (Nat.zero_le _) (a:=⟨(μ b).b,o,none⟩) (cellsL ρ μ seg);exact ⟨h4.os,h4.tape,h4.output,h4.size,fun k hk hne=>T7 _ _ _ _ _ (fun e=>hne (by rw[e]))⟩
               ·cases h
    ·cases h
   ·rename_i hf
    split at h
    ·rename_i t ts x ht ha
     simp only[C8z,bind,Option.bind]at h;cases hx:Y7 st x with
     | none=>rw[hx]at h;cases h
     | some sx=>
      rw[hx]at h;simp only at h;cases hsx:B2b sx with
      | none=>rw[hsx]at h;cases h
      | some bol=>
       obtain⟨b,o,l⟩:=bol;rw[hsx]at h;simp only at h;cases he:Qc P t with
       | none=>rw[he]at h;cases h
       | some e=>
        rw[he]at h;cases h;have aJ:x∈c.args.toList:=by rw[ha];simp
        obtain⟨q,e1⟩:=Za (ρ:=ρ) (μ:=μ) hsx;rw[←hR x (by simp[Op.operands,Call.operands];right;simpa using aJ) sx hx]at e1;have aD:c.args.map a.eval=#[a.eval x]:=by
         have:c.args=#[x]:=by rw[←Array.toArray_toList (xs:=c.args),ha]
         rw[this];simp
        have aF:c.argTypes=(t::ts).toArray:=by rw[←ht]
        have hu:(underlying t).run P w=.ok (.slice e) w:=by simp[underlying,Wv he]
        refine aA ?_ rfl rfl;simp only[execOp,resolve,hf,aD,e1];rw[aF];refine M5 ?_;unfold Builtin.len_;simp only[List.getElem?_toArray,List.getElem?_cons_zero];simp only[Sem.run_bind,hu,Result.andThen_ok];rfl
    ·cases h
   ·cases h
  all_goals (cases h)
end
end Go.Proofs.YtdfpoofbgjilgaaGreat
