/- A part of the proof of AuditBatch. -/
import Derived.Test.YtdfpoofbgjilgaaGreatUae
set_option linter.unusedVariables false
set_option linter.unusedSimpArgs false
set_option maxRecDepth 100000
set_option maxHeartbeats 40000000
namespace Go.Proofs.YtdfpoofbgjilgaaGreat
open Go Go.RowKit Sh
structure Av where
 l:List Value
 k:Nat
 h:l.length=k
 one:∀v∈l,v.oneCell'=true
structure Nm where
 b:Nat
 v:Value
 one:v.oneCell'=true
inductive Sg where
 | c (v:Value)
 | m (n k:Nat)
 | p (b o:Nat)
 | sl (b o l q:Nat)
 | d (n:Nat)
def Sg.len:Sg→Nat
 | .m _ k=>k
 | _=>1
def jnk:Value:=.bool false
def A7n (ρ:List Av) (n k:Nat):List Value:=match ρ[n]? with
 | some x=>if x.k=k then x.l else List.replicate k jnk
 | none=>List.replicate k jnk
theorem C7b (ρ:List Av) (n k:Nat):(A7n ρ n k).length=k:=by
 unfold A7n;split
 ·rename_i x _
  split
  ·rename_i h;rw[x.h,h]
  ·simp
 ·simp
theorem C5g (ρ:List Av) (n k:Nat):∀v∈A7n ρ n k,v.oneCell'=true:=by
 unfold A7n;split
 ·rename_i x _
  split
  ·exact x.one
  ·intro v hv;rw[List.eq_of_mem_replicate hv];rfl
 ·intro v hv;rw[List.eq_of_mem_replicate hv];rfl
def Sg.cells (ρ:List Av) (μ:Nat→Nm):Sg→List Value
 | .c v=>[v]
 | .m n k=>A7n ρ n k
 | .p b o=>[.pointer (some ⟨(μ b).b,o,none⟩)]
 | .sl b o l q=>[.slice (some ⟨(μ b).b,o,none⟩) l q]
 | .d n=>[(μ n).v]
theorem Sg.cells_len (ρ:List Av) (μ:Nat→Nm) (s:Sg):(s.cells ρ μ).length=s.len:=by
 cases s<;>simp[Sg.cells,Sg.len,C7b]
def Sg.one:Sg→Bool
 | .c v=>v.oneCell'
 | _=>true
theorem Sg.cells_one (ρ:List Av) (μ:Nat→Nm) (s:Sg) (h:s.one=true):∀v∈s.cells ρ μ,v.oneCell'=true:=by
 cases s with
 | c v=>intro u hu;simp only[Sg.cells,List.mem_singleton]at hu;subst hu;exact h
 | m n k=>exact C5g ρ n k
 | p b o=>intro u hu;simp only[Sg.cells,List.mem_singleton]at hu;subst hu;rfl
 | sl b o l q=>intro u hu;simp only[Sg.cells,List.mem_singleton]at hu;subst hu;rfl
 | d n=>intro u hu;simp only[Sg.cells,List.mem_singleton]at hu;subst hu;exact (μ n).one
def cellsL (ρ:List Av) (μ:Nat→Nm):List Sg→List Value
 | []=>[]
 | [s]=>s.cells ρ μ
 | s::l=>s.cells ρ μ++cellsL ρ μ l
theorem M8 (ρ:List Av) (μ:Nat→Nm) (s:Sg) (l:List Sg):cellsL ρ μ (s::l)=s.cells ρ μ++cellsL ρ μ l:=by
 cases l<;>simp[cellsL]
theorem X3 (ρ:List Av) (μ:Nat→Nm):cellsL ρ μ []=[]:=rfl
def Fq:List Sg→Nat
 | []=>0
 | s::l=>s.len+Fq l
theorem Q5 (ρ:List Av) (μ:Nat→Nm):∀l:List Sg,(cellsL ρ μ l).length=Fq l
 | []=>rfl
 | s::l=>by simp[M8,X3,Fq,Sg.cells_len,Q5 ρ μ l]
theorem Ja (ρ:List Av) (μ:Nat→Nm):∀l l':List Sg,cellsL ρ μ (l++l')=cellsL ρ μ l++cellsL ρ μ l'
 | [],_=>rfl
 | s::l,l'=>by simp[M8,X3,Ja ρ μ l l']
theorem Om:∀l l':List Sg,Fq (l++l')=Fq l+Fq l'
 | [],_=>by simp[Fq]
 | s::l,l'=>by simp[Fq,Om l l'];omega
def D0f (l:List Sg):Bool:=l.all Sg.one
theorem Se (ρ:List Av) (μ:Nat→Nm):∀l:List Sg,D0f l=true→∀v∈cellsL ρ μ l,v.oneCell'=true
 | [],_,_,h=>by cases h
 | s::l,h,v,hv=>by
  simp only[D0f,List.all_cons,Bool.and_eq_true]at h;rw[M8]at hv;rcases List.mem_append.1 hv with hv | hv
  ·exact Sg.cells_one ρ μ s h.1 v hv
  ·exact Se ρ μ l h.2 v hv
def Qj:List Sg→Nat→Option (List Sg)
 | [],n=>if n=0 then some [] else none
 | s::l,n=>if n=0 then some (s::l) else if s.len≤n then Qj l (n-s.len) else none
def Pc:List Sg→Nat→Option (List Sg)
 | [],n=>if n=0 then some [] else none
 | s::l,n=>if n=0 then some [] else if s.len≤n then (Pc l (n-s.len)).map (s :: ·) else none
theorem Nr (ρ : List Av) (μ : Nat → Nm) : ∀ (l : List Sg) (n : Nat) (l' : List Sg), Qj l n = some l' → cellsL ρ μ l' = (cellsL ρ μ l).drop n ∧ n + Fq l' = Fq l
  | [], n, l', h => by
    unfold Qj at h
    split at h
    · cases h; simp [M8, X3, Fq, *]
    · cases h
  | s :: l, n, l', h => by
    unfold Qj at h
    split at h
    · cases h; simp [*]
    · split at h
      · rename_i h0 h1
        obtain ⟨h2, h3⟩ := Nr ρ μ l _ l' h
        refine ⟨?_, ?_⟩
        · rw [h2]; simp only [M8]
          rw [List.drop_append, (show List.drop n (s.cells ρ μ) = [] from List.drop_eq_nil_of_le (by rw [Sg.cells_len]; exact h1)), Sg.cells_len]; rfl
        · simp only [Fq]; omega
      · cases h
theorem Nv (ρ : List Av) (μ : Nat → Nm) : ∀ (l : List Sg) (n : Nat) (l' : List Sg), Pc l n = some l' → cellsL ρ μ l' = (cellsL ρ μ l).take n ∧ Fq l' = n
  | [], n, l', h => by
    unfold Pc at h
    split at h
    · cases h; simp [M8, X3, Fq, *]
    · cases h
  | s :: l, n, l', h => by
    unfold Pc at h
    split at h
    · rename_i h0; cases h; simp [M8, X3, Fq, h0]
    · split at h
      · rename_i h0 h1
        cases h2 : Pc l (n - s.len) with
        | none => rw [h2] at h; cases h
        | some l2 =>
          rw [h2] at h; cases h
          obtain ⟨h3, h4⟩ := Nv ρ μ l _ l2 h2
          refine ⟨?_, ?_⟩
          · simp only [M8]
            rw [h3, List.take_append, Sg.cells_len, List.take_of_length_le (l := s.cells ρ μ) (by rw [Sg.cells_len]; exact h1)]
          · simp only [Fq]; omega
      · cases h
def Wi (l:List Sg) (o n:Nat):Option (List Sg):=(Qj l o).bind (Pc · n)
theorem Kx {ρ:List Av} {μ:Nat→Nm} {l:List Sg} {o n:Nat} {l':List Sg} (h:Wi l o n=some l'):cellsL ρ μ l'=((cellsL ρ μ l).drop o).take n∧Fq l'=n∧o+n≤Fq l:=by
 unfold Wi at h;cases h1:Qj l o with
 | none=>rw[h1]at h;cases h
 | some l1=>
  rw[h1]at h;obtain⟨h2,h3⟩:=Nr ρ μ _ _ _ h1;obtain⟨h4,h5⟩:=Nv ρ μ _ _ _ h;have h6:=congrArg List.length h4;rw[Q5,List.length_take,Q5]at h6;exact ⟨by rw[h4,h2],h5,by omega⟩
def Zv (l:List Sg) (o:Nat) (x:List Sg):Option (List Sg):=
 match Pc l o,Qj l (o+Fq x) with
 | some a,some b=>some (a++(x++b))
 | _,_=>none
theorem Rm {ρ:List Av} {μ:Nat→Nm} {l:List Sg} {o:Nat} {x l':List Sg} (h:Zv l o x=some l') :
 cellsL ρ μ l'=(cellsL ρ μ l).take o++cellsL ρ μ x++(cellsL ρ μ l).drop (o+(cellsL ρ μ x).length)∧Fq l'=Fq l∧o+Fq x≤Fq l:=by
 unfold Zv at h;split at h
 ·rename_i a b h1 h2
  cases h;obtain⟨h3,h4⟩:=Nv ρ μ _ _ _ h1;obtain⟨h5,h6⟩:=Nr ρ μ _ _ _ h2;refine ⟨?_,?_,by omega⟩
  ·rw[Ja,Ja,h3,h5,Q5,List.append_assoc]
  ·rw[Om,Om];omega
 ·cases h
inductive SV where
 | v (a:Bool) (l:List Sg)
 | tup (l:List (Bool×List Sg))
 | any
def SV.known:SV→Bool
 | .any=>false
 | _=>true
def cv (ρ:List Av) (μ:Nat→Nm) (a:Bool) (l:List Sg):Value:=if a then .agg (cellsL ρ μ l).toArray else (cellsL ρ μ l).headD undef
def SV.val (ρ:List Av) (μ:Nat→Nm):SV→Value
 | .v a l=>cv ρ μ a l
 | .tup l=>.tuple (l.map fun x=>cv ρ μ x.1 x.2).toArray
 | .any=>undef
def Sg.okn (N:Nat→Bool):Sg→Bool
 | .p b _ | .sl b _ _ _=>N b
 | .d n=>N n
 | _=>true
def SV.okn (N:Nat→Bool):SV→Bool
 | .v _ l=>l.all (·.okn N)
 | .tup l=>l.all fun x=>x.2.all (·.okn N)
 | .any=>true
theorem Sg.cells_congr {ρ:List Av} {μ μ':Nat→Nm} {N:Nat→Bool} (h:∀b,N b=true→μ b=μ' b) {s:Sg} (hs:s.okn N=true):s.cells ρ μ=s.cells ρ μ':=by
 cases s with
 | c v=>rfl
 | m n k=>rfl
 | p b o=>simp only[Sg.cells,h b hs]
 | sl b o l q=>simp only[Sg.cells,h b hs]
 | d n=>simp only[Sg.cells,h n hs]
theorem Dy {ρ:List Av} {μ μ':Nat→Nm} {N:Nat→Bool} (h:∀b,N b=true→μ b=μ' b):∀ {l:List Sg},l.all (·.okn N)=true→cellsL ρ μ l=cellsL ρ μ' l
 | [],_=>rfl
 | s::l,hl=>by
  simp only[List.all_cons,Bool.and_eq_true]at hl;simp only[M8,X3,Sg.cells_congr h hl.1,Dy h hl.2]
theorem B1w {ρ:List Av} {μ μ':Nat→Nm} {N:Nat→Bool} (h:∀b,N b=true→μ b=μ' b) {a:Bool} {l:List Sg} (hl:l.all (·.okn N)=true):cv ρ μ a l=cv ρ μ' a l:=by
 unfold cv;rw[Dy h hl]
theorem SV.val_congr {ρ:List Av} {μ μ':Nat→Nm} {N:Nat→Bool} (h:∀b,N b=true→μ b=μ' b) {x:SV} (hx:x.okn N=true):x.val ρ μ=x.val ρ μ':=by
 cases x with
 | v a l=>exact B1w h hx
 | tup l=>
  simp only[SV.val];congr 2;refine List.map_congr_left fun y hy=>?_;exact B1w h (List.all_eq_true.1 hx y hy)
 | any=>rfl
def Vp {α:Type} (P:Program):Sem α→Option α
 | .pure x=>some x
 | .program k=>Vp P (k P)
 | _=>none
theorem Qz {α:Type} {P:Program}:∀ {s:Sem α} {x:α},Vp P s=some x→∀w,s.run P w=.ok x w
 | .pure y,x,h,w=>by simp only[Vp,Option.some.injEq]at h;subst h;rfl
 | .program k,x,h,w=>by simp only[Vp]at h;exact Qz (s:=k P) h w
 | .load ..,_,h,_=>by cases h
 | .store ..,_,h,_=>by cases h
 | .new ..,_,h,_=>by cases h
 | .shape ..,_,h,_=>by cases h
 | .freeze ..,_,h,_=>by cases h
 | .frozen ..,_,h,_=>by cases h
 | .getObj ..,_,h,_=>by cases h
 | .setObj ..,_,h,_=>by cases h
 | .choose ..,_,h,_=>by cases h
 | .sys ..,_,h,_=>by cases h
 | .mark ..,_,h,_=>by cases h
 | .halt ..,_,h,_=>by cases h
structure St where
 σ:List SV
 h:List (Option (TypeId×List Sg))
 dy:List Nat
def St.blk (s:St) (b:Nat):Option (TypeId×List Sg):=(s.h[b]?).join
structure Fcts where
 sup:Nat→List Nat
 p:Nat→List Nm→World→Prop
def Fcts.at (Φ:Fcts) (n:Nat) (μ:Nat→Nm) (W:World):Prop:=Φ.p n ((n::Φ.sup n).map μ) W
def Fx:Value→Option SV
 | .agg cs=>if cs.toList.all (·.oneCell') then some (.v true (cs.toList.map .c)) else none
 | .tuple _=>none
 | v=>some (.v false [.c v])
def Y9 (s:St):Operand→Option SV
 | .tmp t=>(s.σ[t]?).bind fun x=>if x.known then some x else none
 | .const v=>Fx v
 | _=>none
structure Dep where
 bs:List (Nat×TypeId×List Sg)
 ds:List Nat
inductive Rq where
 | call (f:FuncId) (args:List SV) (r:SV) (nm:Option Nat) (dep:Dep)
 | bin (op:BinOp) (t:TypeId) (x y:SV) (r:SV) (dep:Dep)
 | sem (mk:(Operand→Value)→Sem Value) (st:St) (r:SV) (nm:Option Nat) (dep:Dep)
def Rq.dep:Rq→Dep
 | .call _ _ _ _ d=>d
 | .bin _ _ _ _ _ d=>d
 | .sem _ _ _ _ d=>d
structure SEv where
 val:SV
 wb:Option (Nat×TypeId×List Sg):=none
 rb:List Nat:=[]
 rq:Option Rq:=none
 dy:Bool:=false
 na:Nat
def Jn:List Sg→Option (List Value)
 | []=>some []
 | .c v::l=>(Jn l).map (v :: ·)
 | _::_=>none
def A8i:SV→Option Value
 | .v false [.c v]=>some v
 | .v true l=>(Jn l).map fun vs=>.agg vs.toArray
 | _=>none
theorem Ng {ρ:List Av} {μ:Nat→Nm}:∀ {l:List Sg} {vs:List Value},Jn l=some vs→cellsL ρ μ l=vs
 | [],vs,h=>by cases h;rfl
 | .c v::l,vs,h=>by
  simp only[Jn]at h;cases h1:Jn l with
  | none=>rw[h1]at h;cases h
  | some us=>rw[h1]at h;cases h;simp only[M8,X3,Sg.cells,Ng h1,List.singleton_append]
 | .m .. :: _,_,h=>by cases h
 | .p .. :: _,_,h=>by cases h
 | .sl .. :: _,_,h=>by cases h
 | .d .. :: _,_,h=>by cases h
theorem B3h {ρ:List Av} {μ:Nat→Nm} {x:SV} {v:Value} (h:A8i x=some v):x.val ρ μ=v:=by
 unfold A8i at h;split at h
 ·cases h;rfl
 ·rename_i l
  cases h1:Jn l with
  | none=>rw[h1]at h;cases h
  | some us=>rw[h1]at h;cases h;simp only[SV.val,cv,if_true,Ng h1]
 ·cases h
theorem Fj (ρ:List Av) (μ:Nat→Nm):∀l:List Value,cellsL ρ μ (l.map .c)=l
 | []=>rfl
 | v::l=>by simp only[List.map_cons,M8,X3,Sg.cells,Fj ρ μ l,List.singleton_append]
theorem Ln {ρ:List Av} {μ:Nat→Nm} {v:Value} {x:SV} (h:Fx v=some x):x.val ρ μ=v:=by
 unfold Fx at h;split at h
 ·split at h
  ·cases h;simp only[SV.val,cv,if_true,Fj]
  ·cases h
 ·cases h
 ·cases h;rfl
def Ob (s:St) (x:Operand):Option Value:=(Y9 s x).bind A8i
def Hv (P:Program) (t:TypeId):Option Nat:=(P.info? t).map (·.size)
def Sy (P:Program) (t:TypeId):Option Bool:=match P.underlying t with
 | some (.struct _) | some (.array _ _)=>some true
 | some _=>some false
 | none=>none
def Ov:SV→Option (List Sg)
 | .v true l=>if D0f l then some l else none
 | .v false [s]=>if s.len=1∧s.one=true then some [s] else none
 | _=>none
def Gx:SV→Option (Nat×Nat)
 | .v false [.p b o]=>some (b,o)
 | _=>none
def Tj:SV→Option Nat
 | .v false [.c (.int _ (.ofNat n))]=>some n
 | _=>none
def Rf (ρ:List Av):SV→Option Bool
 | .v false [.c (.bool b)]=>some b
 | .v false [.m n 1]=>match A7n ρ n 1 with
  | [.bool b]=>some b
  | _=>none
 | _=>none
theorem Kl {ρ:List Av} {μ:Nat→Nm} {x:SV} {b:Bool} (h:Rf ρ x=some b):x.val ρ μ=.bool b:=by
 unfold Rf at h;split at h
 ·cases h;rfl
 ·split at h
  ·rename_i n u hu
   cases h;simp[SV.val,cv,M8,X3,Sg.cells,hu]
  ·cases h
 ·cases h
def Wp (P:Program) (t:TypeId) (l:List Sg) (o:Nat):Option SV:=do
 let a ←Sy P t
 let n ←if a then Hv P t else some 1
 let x ←Wi l o n
 if !a&&x.length != 1 then none else some (.v a x)
def Pd (P:Program) (t:TypeId) (f:Nat):Option Field:=match P.underlying t with
 | some (.struct fs)=>fs[f]?
 | _=>none
structure Cfg where
 cut:TypeId→Option (List Nat)
 dyn:FuncId→Option Nat
 f:Fcts
def Rp (P:Program) (g:Cfg) (na:Nat) (t:TypeId):Option ((Bool×List Sg)×Nat):=do
 let a ←Sy P t
 match g.cut t with
 | some ks=>some ((a,(ks.zipIdx na).map fun x=>.m x.2 x.1),na+ks.length)
 | none=>let n ←Hv P t;some ((a,[.m na n]),na+1)
def Hl (P:Program) (g:Cfg):Nat→List TypeId→Option (List (Bool×List Sg)×Nat)
 | na,[]=>some ([],na)
 | na,t::ts=>do
  let x ←Rp P g na t
  let y ←Hl P g x.2 ts
  some (x.1::y.1,y.2)
def Sg.names:Sg→List Nat
 | .p b _ | .sl b _ _ _=>[b]
 | .d n=>[n]
 | _=>[]
def SV.names:SV→List Nat
 | .v _ l=>l.flatMap Sg.names
 | .tup l=>l.flatMap fun x=>x.2.flatMap Sg.names
 | .any=>[]
def A0e (l:List Nat) (n:Nat):List Nat:=if l.contains n then l else l++[n]
def Ub (s:St) (sup:Nat→List Nat) (n:Nat):List Nat:=(match s.blk n with | some (_,cs)=>cs.flatMap Sg.names | none=>[])++(if s.dy.contains n then sup n else [])
def Ml (s:St) (sup:Nat→List Nat):Nat→List Nat→List Nat
 | 0,l=>l
 | k+1,l=>Ml s sup k (l.foldl (fun acc n=>(Ub s sup n).foldl A0e acc) l)
def Ho (s:St) (sup:Nat→List Nat) (xs:List SV):Dep:=
 let ns:=Ml s sup 3 ((xs.flatMap SV.names).foldl A0e [])
 ⟨ns.filterMap fun n=>(s.blk n).map fun x=>(n,x),ns.filter fun n=>s.dy.contains n⟩
def C5m (P:Program) (f:FuncId):Bool:=match P.funcs[f]? with
 | some fn => !(fn.name == "runtime.NumGoroutine") && fn.body.isSome
 | none=>false
def B7f (nm:Nat):Option Nat→List (Bool×List Sg)→List (Bool×List Sg)
 | some k,l=>l.set k (false,[.d nm])
 | none,l=>l
def Yb (P:Program) (g:Cfg) (nm na:Nat) (s:St) (f:FuncId) (args:List Operand):Option SEv:=do
 let xs ←args.mapM (Y9 s)
 let fn ←P.funcs[f]?
 let x ←Hl P g na fn.resultTypes.toList
 let l:=B7f nm (g.dyn f) x.1
 let r:=match l with
  | [y]=>.v y.1 y.2
  | _=>.tup l
 let dep:=Ho s g.f.sup xs
 if C5m P f then some { val:=r,rq:=some (.call f xs r ((g.dyn f).map fun _=>nm) dep),dy:=(g.dyn f).isSome,rb:=dep.bs.map (·.1),na:=x.2 } else none
def B5s (P:Program) (t:TypeId):Option (Nat→Option (Nat×Nat)):=match P.underlying t with
 | some (.struct fs)=>if fs.toList.all (fun f=>(Hv P f.type).isSome)=true then some fun i=>(fs[i]?).bind fun f=>(Hv P f.type).map fun n=>(f.offset,n) else none
 | some (.array _ e)=>(Hv P e).map fun n=>fun i=>some (i*n,n)
 | _=>none
def Pb (plc:Nat→Option (Nat×Nat)) (st:St):List Sg→List (Nat×Operand)→Option (List Sg)
 | l,[]=>some l
 | l,(i,x)::ps=>match plc i,(Y9 st x).bind Ov with
  | some (o,n),some y=>if Fq y=n then match Zv l o y with
   | some l'=>Pb plc st l' ps
   | none=>none
   else none
  | _,_=>none
def A1a (st:St) (dflt:Nat):Option Operand→Option Nat
 | none=>some dflt
 | some x=>(Y9 st x).bind Tj
def A6f (P:Program) (st:St) (t:TypeId) (x:SV) (lo hi:Option Operand):Option SV:=do
 let l ←A1a st 0 lo
 match P.underlying t with
 | some (.array n e)=>do
  let (b,o) ←Gx x
  let h ←A1a st n hi
  let z ←Hv P e
  if l≤h∧h≤n then some (.v false [.sl b (if n=l then o else o+l*z) (h-l) (n-l)]) else none
 | some (.slice e)=>match x with
  | .v false [.sl b o len q]=>do
   let h ←A1a st len hi
   let z ←Hv P e
   if l≤h∧h≤q then some (.v false [.sl b (if q=l then o else o+l*z) (h-l) (q-l)]) else none
  | _=>none
 | _=>none
def Qm (P:Program) (t:TypeId):Option TypeId:=match P.underlying t with
 | some (.slice e)=>some e
 | _=>none
def B1d:SV→Option (Nat×Nat×Nat)
 | .v false [.sl b o l _]=>some (b,o,l)
 | _=>none
def B8s (P:Program) (na:Nat) (s:St) (t:TypeId) (x y:Operand):Option SEv:=do
 let (b,o,l) ←(Y9 s x).bind B1d
 let (b',o',l') ←(Y9 s y).bind B1d
 let e ←Qm P t
 let z ←Hv P e
 let (T,cs) ←s.blk b
 let (_,cs') ←s.blk b'
 let seg ←Wi cs' o' (Nat.min l' l*z)
 let cs2 ←Zv cs o seg
 if D0f seg then some { val:=.v false [.c (.int .i64 (Nat.min l' l:Nat))],wb:=some (b,T,cs2),rb:=[b,b'],na } else none
def C7e (P:Program) (na:Nat) (s:St) (t:TypeId) (x:Operand):Option SEv:=do
 let (_,_,l) ←(Y9 s x).bind B1d
 let _ ←Qm P t
 some { val:=.v false [.c (.int .i64 (l:Nat))],na }
def D1q:Op→Bool
 | .binOp .. | .unOp .. | .convert ..=>true
 | _=>false
def Tw (s:St) (o:Oper):Bool:=D1q o.op&&o.op.operands.toList.all fun x=>(Ob s x).isSome
def A1t (P:Program) (na:Nat) (s:St) (o:Oper):Option SEv:=
 match Vp P (execOp (fun x=>(Ob s x).getD undef) o) with
 | some (.value v)=>(Fx v).map fun x=>{ val:=x,na }
 | _=>none
def Zc (P:Program) (g:Cfg) (ρ:List Av) (nm na:Nat) (s:St) (o:Oper):Option SEv:=
 match o.op with
 | .move x | .assign x=>(Y9 s x).map fun x=>{ val:=x,na }
 | .pick c x y=>match (Y9 s c).bind (Rf ρ) with
  | some b=>(Y9 s (if b then x else y)).map fun x=>{ val:=x,na }
  | none=>none
 | .alloc t=>match (P.info? t).bind (·.zero) with
  | some z=>if z.cells.toList.all (·.oneCell') then some { val:=.v false [.p nm 0],wb:=some (nm,t,z.cells.toList.map .c),na } else none
  | none=>none
 | .box t x=>((Y9 s x).bind Ov).map fun l=>{ val:=.v false [.p nm 0],wb:=some (nm,t,l),na }
 | .build t ps=>match (P.info? t).bind (·.zero),B5s P t with
  | some z,some plc=>if z.cells.toList.all (·.oneCell') then (Pb plc s (z.cells.toList.map .c) ps.toList).map fun l=>{ val:=.v true l,na } else none
  | _,_=>none
 | .load t x=>do
  let (b,f) ←(Y9 s x).bind Gx
  let (_,cs) ←s.blk b
  let n ←Hv P t
  let a ←Sy P t
  let l ←Wi cs f n
  if (!a&&l.length != 1)||n==0||(!a&&n != 1) then none else some { val:=.v a l,rb:=[b],na }
 | .store t x y=>do
  let (b,f) ←(Y9 s x).bind Gx
  let (T,cs) ←s.blk b
  let l ←(Y9 s y).bind Ov
  let n ←Hv P t
  let cs' ←Zv cs f l
  if Fq l != n||n==0||o.dst.isSome then none else some { val:=.v false [.c undef],wb:=some (b,T,cs'),rb:=[b],na }
 | .fieldAddr t x f=>do
  let (b,k) ←(Y9 s x).bind Gx
  let fd ←Pd P t f
  let n ←Hv P fd.type
  if n==0 then none else some { val:=.v false [.p b (k+fd.offset)],na }
 | .field t x f=>match Y9 s x with
  | some (.v true l)=>do
   let fd ←Pd P t f
   let y ←Wp P fd.type l fd.offset
   some { val:=y,na }
  | _=>none
 | .indexAddr t x i=>do
  let k ←(Y9 s i).bind Tj
  match P.underlying t with
  | some (.array len e)=>do
   let (b,f) ←(Y9 s x).bind Gx
   let n ←Hv P e
   if k<len then some { val:=.v false [.p b (f+k*n)],na } else none
  | some (.slice e)=>match Y9 s x with
   | some (.v false [.sl b f l _])=>do
    let n ←Hv P e
    if k<l then some { val:=.v false [.p b (f+k*n)],na } else none
   | _=>none
  | _=>none
 | .index t x i=>do
  let k ←(Y9 s i).bind Tj
  match P.underlying t,Y9 s x with
  | some (.array len e),some (.v true l)=>do
   let n ←Hv P e
   let y ←Wp P e l (k*n)
   if k<len then some { val:=y,na } else none
  | _,_=>none
 | .binOp op t x y _=>do
  let a ←Y9 s x
  let b ←Y9 s y
  let dep:=Ho s g.f.sup [a,b]
  some { val:=.v false [.m na 1],rq:=some (.bin op t a b (.v false [.m na 1]) dep),rb:=dep.bs.map (·.1),na:=na+1 }
 | .slice t x lo hi none=>do
  let y ←Y9 s x
  let z ←A6f P s t y lo hi
  some { val:=z,na }
 | .sliceToArrayPointer t x=>match P.underlying t,Y9 s x with
  | some (.array n _),some (.v false [.sl b o l _])=>if n≤l then some { val:=.v false [.p b o],na } else none
  | _,_=>none
 | .buildSlice t len ps=>do
  let e ←Qm P t
  let z ←Hv P e
  let zv ←(P.info? e).bind (·.zero)
  let l ←Pb (fun i=>some (i*z,z)) s ((List.range (len*z)).map fun j=>.c (zv.cells[j % zv.cells.size]!)) ps.toList
  if len*z≤2 ^ 24∧len*z≠0∧zv.cells.toList.all (·.oneCell') then some { val:=.v false [.sl nm 0 len len],wb:=some (nm,e,l),na } else none
 | .unOp op _ x=>match (Y9 s x).bind (Rf ρ) with
  | some b=>match Vp P (Op.unary op (.bool b)) with
   | some v=>(Fx v).map fun y=>{ val:=y,na }
   | none=>none
  | none=>none
 | .extract x i=>match Y9 s x with
  | some (.tup l)=>(l[i]?).map fun y=>{ val:=.v y.1 y.2,na }
  | _=>none
 | .nilCheck x=>match Y9 s x with
  | some (.v false [.p b f])=>some { val:=.v false [.p b f],na }
  | _=>none
 | .call c=>match c.callee with
  | .value (.func f)=>Yb P g nm na s f c.args.toList
  | .builtin .copy=>match c.argTypes.toList,c.args.toList with
   | t::_,[x,y]=>B8s P na s t x y
   | _,_=>none
  | .builtin .len=>match c.argTypes.toList,c.args.toList with
   | t::_,[x]=>C7e P na s t x
   | _,_=>none
  | _=>none
 | _=>none
def A9b:Op→Option ((Operand→Value)→Sem Value)
 | .convert src dst x=>some fun ρ=>convert src dst (ρ x)
 | .indexAddr t x i=>some fun ρ=>Instr.indexAt t (ρ x) (ρ i)
 | .index t x i=>some fun ρ=>Instr.index t (ρ x) (ρ i)
 | .load t x=>some fun ρ=>Instr.loadAt t (ρ x)
 | .fieldAddr t x f=>some fun ρ=>Instr.fieldAt t (ρ x) f
 | _=>none
def B7x:Op→Bool
 | .indexAddr ..=>true
 | _=>false
def B7m (P:Program) (g:Cfg) (nm na:Nat) (s:St) (o:Oper):Option SEv:=do
 let mk ←A9b o.op
 let xs ←o.op.operands.toList.mapM (Y9 s)
 let dep:=Ho s g.f.sup xs
 if B7x o.op=true then some { val:=.v false [.d nm],rq:=some (.sem mk s (.v false [.d nm]) (some nm) dep),rb:=dep.bs.map (·.1),na,dy:=true } else
 let r ←if o.type=0 then some ((false,[Sg.m na 1]),na+1) else Rp P g na o.type
 some { val:=.v r.1.1 r.1.2,rq:=some (.sem mk s (.v r.1.1 r.1.2) none dep),rb:=dep.bs.map (·.1),na:=r.2 }
def A8n (ev:SEv):Bool:=match ev.rq with
 | some (.sem ..)=>false
 | _=>true
def A2j (P:Program) (g:Cfg) (ρ:List Av) (nm na:Nat) (s:St) (o:Oper):Option SEv:=
 if Tw s o=true then A1t P na s o else
 match Zc P g ρ nm na s o with
 | some ev=>if A8n ev=true then some ev else none
 | none=>B7m P g nm na s o
def Xs (μ:Nat→Nm) (n:Nat) (x:Nm):Nat→Nm:=fun b=>if b=n then x else μ b
def Dep.ok (ρ:List Av) (Φ:Fcts) (d:Dep) (μ:Nat→Nm) (W:World):Prop:=
 d.bs.foldr (fun x p=>Bk W (μ x.1).b x.2.1 (cellsL ρ μ x.2.2)∧p) (d.ds.foldr (fun n p=>Φ.at n μ W∧p) True)
def C9f (Φ:Fcts) (S:World→Prop) (n:Nat) (μ:Nat→Nm) (W W':World):Prop:=
 ∀W'',W'.heap.size≤W''.heap.size→(∀k,W.heap.size≤k→k<W'.heap.size→W''.heap[k]?=W'.heap[k]?)→S W''→Φ.at n μ W''
inductive Eqn where
 | call (f:FuncId) (args:(Nat→Nm)→Array Value) (v:(Nat→Nm)→Value) (nm:Option Nat) (pre:(Nat→Nm)→World→Prop)
 | bin (op:BinOp) (t:TypeId) (x y v:(Nat→Nm)→Value) (pre:(Nat→Nm)→World→Prop)
 | sem (s:(Nat→Nm)→Sem Value) (v:(Nat→Nm)→Value) (nm:Option Nat) (pre:(Nat→Nm)→World→Prop)
def Eqn.Ok (P:Program) (Φ:Fcts) (S:World→Prop):Eqn→Prop
 | .call f args v none pre=>∀μ W,S W→pre μ W→Calls P f (args μ) W fun e W'=>e=.returned (v μ)∧Below W.heap.size W W'
 | .call f args v (some n) pre=>∀μ W,S W→pre μ W→Calls P f (args μ) W fun e W'=>∃x:Nm,e=.returned (v (Xs μ n x))∧Below W.heap.size W W'∧C9f Φ S n (Xs μ n x) W W'
 | .bin op t x y v pre=>∀μ (X Y:Operand) W,S W→pre μ W→(do eqGuard op t X Y (x μ) (y μ);binOp op t (x μ) (y μ):Sem Value).run P W=.ok (v μ) W
 | .sem s v none pre=>∀μ W,S W→pre μ W→(s μ).run P W=.ok (v μ) W
 | .sem s v (some n) pre=>∀μ W,S W→pre μ W→∃x:Nm,(s μ).run P W=.ok (v (Xs μ n x)) W∧C9f Φ S n (Xs μ n x) W W
def D8e (ρ:List Av) (st:St) (μ:Nat→Nm) (x:Operand):Value:=match Y9 st x with
 | some y=>y.val ρ μ
 | none=>undef
def Rq.eqn (ρ:List Av) (Φ:Fcts):Rq→Eqn
 | .call f args r nm d=>.call f (fun μ=>(args.map (·.val ρ μ)).toArray) (fun μ=>r.val ρ μ) nm (fun μ W=>d.ok ρ Φ μ W)
 | .bin op t x y r d=>.bin op t (fun μ=>x.val ρ μ) (fun μ=>y.val ρ μ) (fun μ=>r.val ρ μ) (fun μ W=>d.ok ρ Φ μ W)
 | .sem mk st r nm d=>.sem (fun μ=>mk (D8e ρ st μ)) (fun μ=>r.val ρ μ) nm (fun μ W=>d.ok ρ Φ μ W)
def Rq.Ok (P:Program) (ρ:List Av) (Φ:Fcts) (S:World→Prop) (q:Rq):Prop:=(q.eqn ρ Φ).Ok P Φ S
def Ga (ρ:List Av) (Φ:Fcts) (S:World→Prop) (st:St) (nm:Nat) (ev:SEv) (μ:Nat→Nm) (w:World) (μ':Nat→Nm) (w':World):Prop:=
 match ev.wb with
 | none=>Below w.heap.size w w'∧((ev.dy=false∧μ'=μ)∨(ev.dy=true∧∃x,μ'=Xs μ nm x∧C9f Φ S nm μ' w w'))
 | some (b,T,cs)=>ev.dy=false∧
  ((b=nm∧μ'=Xs μ nm ⟨w.heap.size,jnk,rfl⟩∧Below w.heap.size w w'∧Bk w' w.heap.size T (cellsL ρ μ' cs))∨
  (b∈ev.rb∧(∃T0 cs0,st.blk b=some (T0,cs0))∧μ'=μ∧w.grownBy w' (some (μ b).b)∧w'.heap.size=w.heap.size∧Bk w' (μ b).b T (cellsL ρ μ cs)))
theorem N6 {P:Program} {s:Sem Value} {w w':World} {v:Value} (h:s.run P w=.ok v w'):(do pure (Next.value (←s)):Sem Next).run P w=.ok (.value v) w':=by
 simp only[Sem.run_bind,h,Result.andThen_ok];rfl
theorem Mx {ρ:List Av} {μ:Nat→Nm} {x:SV} {l:List Sg} (h:Ov x=some l):(x.val ρ μ).cells=(cellsL ρ μ l).toArray∧(∀v∈cellsL ρ μ l,v.oneCell'=true):=by
 unfold Ov at h;split at h
 ·split at h
  ·rename_i h1;cases h;exact ⟨rfl,Se ρ μ _ h1⟩
  ·cases h
 ·split at h
  ·rename_i s h1
   cases h;have h2:=Sg.cells_len ρ μ s;rw[h1.1]at h2;obtain⟨u,hu⟩:=List.length_eq_one_iff.1 h2;have h3:=Sg.cells_one ρ μ s h1.2 u (by rw[hu];simp);have h4:cellsL ρ μ [s]=[u]:=by simp[M8,X3,hu]
   refine ⟨?_,?_⟩
   ·simp only[SV.val,cv,h4,Bool.false_eq_true,if_false,List.headD_cons];cases u<;>first | rfl | cases h3
   ·rw[h4];intro v hv;rw[List.mem_singleton.1 hv];exact h3
  ·cases h
 ·cases h
theorem Gm {ρ:List Av} {μ:Nat→Nm} {x:SV} {b o:Nat} (h:Gx x=some (b,o)):x.val ρ μ=.pointer (some ⟨(μ b).b,o,none⟩):=by
 unfold Gx at h;split at h
 ·cases h;rfl
 ·cases h
theorem Vd {ρ:List Av} {μ:Nat→Nm} {x:SV} {n:Nat} (h:Tj x=some n):∃k,x.val ρ μ=.int k (n:Int):=by
 unfold Tj at h;split at h
 ·cases h;exact ⟨_,rfl⟩
 ·cases h
theorem A2o {P:Program} {t n:Nat} (h:Hv P t=some n):∃i,P.info? t=some i∧i.size=n:=by
 unfold Hv at h;cases hi:P.info? t with
 | none=>rw[hi]at h;cases h
 | some i=>rw[hi]at h;exact ⟨i,rfl,by simpa using h⟩
theorem Y5 {P:Program} {t n:Nat} (h:Hv P t=some n) (w:World):(sizeOf t).run P w=.ok n w:=by
 obtain⟨i,hi,rfl⟩:=A2o h;simp[sizeOf,typeInfo,hi]
theorem A5w {P:Program} {t:Nat} {b:Bool} (h:Sy P t=some b) (w:World):(isAgg t).run P w=.ok b w:=by
 unfold Sy at h;cases hu:P.underlying t with
 | none=>rw[hu]at h;cases h
 | some d=>
  rw[hu]at h;unfold isAgg;simp only[Sem.run_bind];have h1:(underlying t).run P w=.ok d w:=by simp[underlying,hu]
  rw[h1,Result.andThen_ok];cases d<;>cases h<;>rfl
theorem C1x {l:List Sg} (h:l.length=1):∃s,l=[s]:=List.length_eq_one_iff.1 h
theorem D3h {P:Program} {t:Nat} (h:Sy P t=some true):∃d,P.underlying t=some d∧d.isRow=true:=by
 unfold Sy at h;cases hu:P.underlying t with
 | none=>rw[hu]at h;cases h
 | some d=>rw[hu]at h;refine ⟨d,rfl,?_⟩;cases d<;>first | rfl | cases h
theorem A5z {P:Program} {ρ:List Av} {μ:Nat→Nm} {t o:Nat} {l:List Sg} {y:SV} (h:Wp P t l o=some y) (w:World) :
 (part t (cellsL ρ μ l).toArray o).run P w=.ok (y.val ρ μ) w:=by
 unfold Wp at h;cases ha:Sy P t with
 | none=>rw[ha]at h;cases h
 | some a=>
  rw[ha]at h;unfold part;simp only[Sem.run_bind,A5w ha,Result.andThen_ok];cases a with
  | true=>
   simp only[if_true,bind,Option.bind]at h;cases hs:Hv P t with
   | none=>rw[hs]at h;cases h
   | some n=>
    rw[hs]at h;cases hc:Wi l o n with
    | none=>simp only[hc]at h;cases h
    | some x=>
     simp only[hc,Bool.not_true,Bool.false_and,Bool.false_eq_true,if_false,Option.some.injEq]at h;subst h;obtain⟨h1,h2,h3⟩:=Kx (ρ:=ρ) (μ:=μ) hc;simp only[if_true,Sem.run_bind,Y5 hs,Result.andThen_ok,SV.val,cv,h1];simp[List.extract_eq_take_drop]
  | false=>
   simp only[Bool.false_eq_true,if_false,bind,Option.bind]at h;cases hc:Wi l o 1 with
   | none=>simp only[hc]at h;cases h
   | some x=>
    simp only[hc,Bool.not_false,Bool.true_and]at h;split at h
    ·cases h
    ·rename_i hx
     have aA:x.length=1:=by simpa using hx
     cases h;obtain⟨s,rfl⟩:=C1x aA;obtain⟨h1,h2,h3⟩:=Kx (ρ:=ρ) (μ:=μ) hc;have h4:o<(cellsL ρ μ l).length:=by rw[Q5];omega
     simp only[Bool.false_eq_true,if_false,List.getElem?_toArray,List.getElem?_eq_getElem h4];simp only[SV.val,cv,Bool.false_eq_true,if_false,h1];rw[List.drop_eq_getElem_cons h4];rfl
end Go.Proofs.YtdfpoofbgjilgaaGreat
