/- A part of the proof of ClientForks. -/
import Derived.Test.YtdfpoofbgjilgaaGreatVae
set_option linter.unusedVariables false
set_option linter.unusedSimpArgs false
set_option maxRecDepth 100000
set_option maxHeartbeats 40000000
namespace Go.Proofs.YtdfpoofbgjilgaaGreat
open Go Go.RowKit Sh
structure Av where
 l:List Value
 k:Nat
 h:l.length=k
 one:∀v∈l,v.oneCell'=true
structure Nm where
 b:Nat
 v:Value
 one:v.oneCell'=true
inductive Sg where
 | c (v:Value)
 | m (n k:Nat)
 | p (b o:Nat)
 | sl (b o l q:Nat)
 | d (n:Nat)
def Sg.len:Sg→Nat
 | .m _ k=>k
 | _=>1
def jnk:Value:=.bool false
def A6b (ρ:List Av) (n k:Nat):List Value:=match ρ[n]? with
 | some x=>if x.k=k then x.l else List.replicate k jnk
 | none=>List.replicate k jnk
theorem D2f (ρ:List Av) (n k:Nat):(A6b ρ n k).length=k:=by
 unfold A6b;split
 ·rename_i x _
  split
  ·rename_i h;rw[x.h,h]
  ·simp
 ·simp
theorem C8t (ρ:List Av) (n k:Nat):∀v∈A6b ρ n k,v.oneCell'=true:=by
 unfold A6b;split
 ·rename_i x _
  split
  ·exact x.one
  ·intro v hv;rw[List.eq_of_mem_replicate hv];rfl
 ·intro v hv;rw[List.eq_of_mem_replicate hv];rfl
def Sg.cells (ρ:List Av) (μ:Nat→Nm):Sg→List Value
 | .c v=>[v]
 | .m n k=>A6b ρ n k
 | .p b o=>[.pointer (some ⟨(μ b).b,o,none⟩)]
 | .sl b o l q=>[.slice (some ⟨(μ b).b,o,none⟩) l q]
 | .d n=>[(μ n).v]
theorem Sg.cells_len (ρ:List Av) (μ:Nat→Nm) (s:Sg):(s.cells ρ μ).length=s.len:=by
 cases s<;>simp[Sg.cells,Sg.len,D2f]
def Sg.one:Sg→Bool
 | .c v=>v.oneCell'
 | _=>true
theorem Sg.cells_one (ρ:List Av) (μ:Nat→Nm) (s:Sg) (h:s.one=true):∀v∈s.cells ρ μ,v.oneCell'=true:=by
 cases s with
 | c v=>intro u hu;simp only[Sg.cells,List.mem_singleton]at hu;subst hu;exact h
 | m n k=>exact C8t ρ n k
 | p b o=>intro u hu;simp only[Sg.cells,List.mem_singleton]at hu;subst hu;rfl
 | sl b o l q=>intro u hu;simp only[Sg.cells,List.mem_singleton]at hu;subst hu;rfl
 | d n=>intro u hu;simp only[Sg.cells,List.mem_singleton]at hu;subst hu;exact (μ n).one
def cellsL (ρ:List Av) (μ:Nat→Nm):List Sg→List Value
 | []=>[]
 | [s]=>s.cells ρ μ
 | s::l=>s.cells ρ μ++cellsL ρ μ l
theorem M2 (ρ:List Av) (μ:Nat→Nm) (s:Sg) (l:List Sg):cellsL ρ μ (s::l)=s.cells ρ μ++cellsL ρ μ l:=by
 cases l<;>simp[cellsL]
theorem U2 (ρ:List Av) (μ:Nat→Nm):cellsL ρ μ []=[]:=rfl
def Fb:List Sg→Nat
 | []=>0
 | s::l=>s.len+Fb l
theorem P7 (ρ:List Av) (μ:Nat→Nm):∀l:List Sg,(cellsL ρ μ l).length=Fb l
 | []=>rfl
 | s::l=>by simp[M2,U2,Fb,Sg.cells_len,P7 ρ μ l]
theorem Jc (ρ:List Av) (μ:Nat→Nm):∀l l':List Sg,cellsL ρ μ (l++l')=cellsL ρ μ l++cellsL ρ μ l'
 | [],_=>rfl
 | s::l,l'=>by simp[M2,U2,Jc ρ μ l l']
theorem Mq:∀l l':List Sg,Fb (l++l')=Fb l+Fb l'
 | [],_=>by simp[Fb]
 | s::l,l'=>by simp[Fb,Mq l l'];omega
def C9c (l:List Sg):Bool:=l.all Sg.one
theorem Rn (ρ:List Av) (μ:Nat→Nm):∀l:List Sg,C9c l=true→∀v∈cellsL ρ μ l,v.oneCell'=true
 | [],_,_,h=>by cases h
 | s::l,h,v,hv=>by
  simp only[C9c,List.all_cons,Bool.and_eq_true]at h;rw[M2]at hv;rcases List.mem_append.1 hv with hv | hv
  ·exact Sg.cells_one ρ μ s h.1 v hv
  ·exact Rn ρ μ l h.2 v hv
def Qh:List Sg→Nat→Option (List Sg)
 | [],n=>if n=0 then some [] else none
 | s::l,n=>if n=0 then some (s::l) else if s.len≤n then Qh l (n-s.len) else none
def Nr:List Sg→Nat→Option (List Sg)
 | [],n=>if n=0 then some [] else none
 | s::l,n=>if n=0 then some [] else if s.len≤n then (Nr l (n-s.len)).map (s :: ·) else none
theorem Nx (ρ : List Av) (μ : Nat → Nm) : ∀ (l : List Sg) (n : Nat) (l' : List Sg), Qh l n = some l' → cellsL ρ μ l' = (cellsL ρ μ l).drop n ∧ n + Fb l' = Fb l
  | [], n, l', h => by
    unfold Qh at h
    split at h
    · cases h; simp [M2, U2, Fb, *]
    · cases h
  | s :: l, n, l', h => by
    unfold Qh at h
    split at h
    · cases h; simp [*]
    · split at h
      · rename_i h0 h1
        obtain ⟨h2, h3⟩ := Nx ρ μ l _ l' h
        refine ⟨?_, ?_⟩
        · rw [h2]; simp only [M2]
          rw [List.drop_append, (show List.drop n (s.cells ρ μ) = [] from List.drop_eq_nil_of_le (by rw [Sg.cells_len]; exact h1)), Sg.cells_len]; rfl
        · simp only [Fb]; omega
      · cases h
theorem Nh (ρ : List Av) (μ : Nat → Nm) : ∀ (l : List Sg) (n : Nat) (l' : List Sg), Nr l n = some l' → cellsL ρ μ l' = (cellsL ρ μ l).take n ∧ Fb l' = n
  | [], n, l', h => by
    unfold Nr at h
    split at h
    · cases h; simp [M2, U2, Fb, *]
    · cases h
  | s :: l, n, l', h => by
    unfold Nr at h
    split at h
    · rename_i h0; cases h; simp [M2, U2, Fb, h0]
    · split at h
      · rename_i h0 h1
        cases h2 : Nr l (n - s.len) with
        | none => rw [h2] at h; cases h
        | some l2 =>
          rw [h2] at h; cases h
          obtain ⟨h3, h4⟩ := Nh ρ μ l _ l2 h2
          refine ⟨?_, ?_⟩
          · simp only [M2]
            rw [h3, List.take_append, Sg.cells_len, List.take_of_length_le (l := s.cells ρ μ) (by rw [Sg.cells_len]; exact h1)]
          · simp only [Fb]; omega
      · cases h
def Vs (l:List Sg) (o n:Nat):Option (List Sg):=(Qh l o).bind (Nr · n)
theorem Kl {ρ:List Av} {μ:Nat→Nm} {l:List Sg} {o n:Nat} {l':List Sg} (h:Vs l o n=some l'):cellsL ρ μ l'=((cellsL ρ μ l).drop o).take n∧Fb l'=n∧o+n≤Fb l:=by
 unfold Vs at h;cases h1:Qh l o with
 | none=>rw[h1]at h;cases h
 | some l1=>
  rw[h1]at h;obtain⟨h2,h3⟩:=Nx ρ μ _ _ _ h1;obtain⟨h4,h5⟩:=Nh ρ μ _ _ _ h;have h6:=congrArg List.length h4;rw[P7,List.length_take,P7]at h6;exact ⟨by rw[h4,h2],h5,by omega⟩
def A0r (l:List Sg) (o:Nat) (x:List Sg):Option (List Sg):=
 match Nr l o,Qh l (o+Fb x) with
 | some a,some b=>some (a++(x++b))
 | _,_=>none
theorem Rt {ρ:List Av} {μ:Nat→Nm} {l:List Sg} {o:Nat} {x l':List Sg} (h:A0r l o x=some l') :
 cellsL ρ μ l'=(cellsL ρ μ l).take o++cellsL ρ μ x++(cellsL ρ μ l).drop (o+(cellsL ρ μ x).length)∧Fb l'=Fb l∧o+Fb x≤Fb l:=by
 unfold A0r at h;split at h
 ·rename_i a b h1 h2
  cases h;obtain⟨h3,h4⟩:=Nh ρ μ _ _ _ h1;obtain⟨h5,h6⟩:=Nx ρ μ _ _ _ h2;refine ⟨?_,?_,by omega⟩
  ·rw[Jc,Jc,h3,h5,P7,List.append_assoc]
  ·rw[Mq,Mq];omega
 ·cases h
inductive SV where
 | v (a:Bool) (l:List Sg)
 | tup (l:List (Bool×List Sg))
 | any
def SV.known:SV→Bool
 | .any=>false
 | _=>true
def cv (ρ:List Av) (μ:Nat→Nm) (a:Bool) (l:List Sg):Value:=if a then .agg (cellsL ρ μ l).toArray else (cellsL ρ μ l).headD undef
def SV.val (ρ:List Av) (μ:Nat→Nm):SV→Value
 | .v a l=>cv ρ μ a l
 | .tup l=>.tuple (l.map fun x=>cv ρ μ x.1 x.2).toArray
 | .any=>undef
def Sg.okn (N:Nat→Bool):Sg→Bool
 | .p b _ | .sl b _ _ _=>N b
 | .d n=>N n
 | _=>true
def SV.okn (N:Nat→Bool):SV→Bool
 | .v _ l=>l.all (·.okn N)
 | .tup l=>l.all fun x=>x.2.all (·.okn N)
 | .any=>true
theorem Sg.cells_congr {ρ:List Av} {μ μ':Nat→Nm} {N:Nat→Bool} (h:∀b,N b=true→μ b=μ' b) {s:Sg} (hs:s.okn N=true):s.cells ρ μ=s.cells ρ μ':=by
 cases s with
 | c v=>rfl
 | m n k=>rfl
 | p b o=>simp only[Sg.cells,h b hs]
 | sl b o l q=>simp only[Sg.cells,h b hs]
 | d n=>simp only[Sg.cells,h n hs]
theorem Dq {ρ:List Av} {μ μ':Nat→Nm} {N:Nat→Bool} (h:∀b,N b=true→μ b=μ' b):∀ {l:List Sg},l.all (·.okn N)=true→cellsL ρ μ l=cellsL ρ μ' l
 | [],_=>rfl
 | s::l,hl=>by
  simp only[List.all_cons,Bool.and_eq_true]at hl;simp only[M2,U2,Sg.cells_congr h hl.1,Dq h hl.2]
theorem A9f {ρ:List Av} {μ μ':Nat→Nm} {N:Nat→Bool} (h:∀b,N b=true→μ b=μ' b) {a:Bool} {l:List Sg} (hl:l.all (·.okn N)=true):cv ρ μ a l=cv ρ μ' a l:=by
 unfold cv;rw[Dq h hl]
theorem SV.val_congr {ρ:List Av} {μ μ':Nat→Nm} {N:Nat→Bool} (h:∀b,N b=true→μ b=μ' b) {x:SV} (hx:x.okn N=true):x.val ρ μ=x.val ρ μ':=by
 cases x with
 | v a l=>exact A9f h hx
 | tup l=>
  simp only[SV.val];congr 2;refine List.map_congr_left fun y hy=>?_;exact A9f h (List.all_eq_true.1 hx y hy)
 | any=>rfl
def Vg {α:Type} (P:Program):Sem α→Option α
 | .pure x=>some x
 | .program k=>Vg P (k P)
 | _=>none
theorem Ru {α:Type} {P:Program}:∀ {s:Sem α} {x:α},Vg P s=some x→∀w,s.run P w=.ok x w
 | .pure y,x,h,w=>by simp only[Vg,Option.some.injEq]at h;subst h;rfl
 | .program k,x,h,w=>by simp only[Vg]at h;exact Ru (s:=k P) h w
 | .load ..,_,h,_=>by cases h
 | .store ..,_,h,_=>by cases h
 | .new ..,_,h,_=>by cases h
 | .shape ..,_,h,_=>by cases h
 | .freeze ..,_,h,_=>by cases h
 | .frozen ..,_,h,_=>by cases h
 | .getObj ..,_,h,_=>by cases h
 | .setObj ..,_,h,_=>by cases h
 | .choose ..,_,h,_=>by cases h
 | .sys ..,_,h,_=>by cases h
 | .mark ..,_,h,_=>by cases h
 | .halt ..,_,h,_=>by cases h
structure St where
 σ:List SV
 h:List (Option (TypeId×List Sg))
 dy:List Nat
def St.blk (s:St) (b:Nat):Option (TypeId×List Sg):=(s.h[b]?).join
structure Fcts where
 sup:Nat→List Nat
 p:Nat→List Nm→World→Prop
def Fcts.at (Φ:Fcts) (n:Nat) (μ:Nat→Nm) (W:World):Prop:=Φ.p n ((n::Φ.sup n).map μ) W
def Fr:Value→Option SV
 | .agg cs=>if cs.toList.all (·.oneCell') then some (.v true (cs.toList.map .c)) else none
 | .tuple _=>none
 | v=>some (.v false [.c v])
def Y7 (s:St):Operand→Option SV
 | .tmp t=>(s.σ[t]?).bind fun x=>if x.known then some x else none
 | .const v=>Fr v
 | _=>none
structure Dep where
 bs:List (Nat×TypeId×List Sg)
 ds:List Nat
inductive Rq where
 | call (f:FuncId) (args:List SV) (r:SV) (nm:Option Nat) (dep:Dep)
 | bin (op:BinOp) (t:TypeId) (x y:SV) (r:SV) (dep:Dep)
 | sem (mk:(Operand→Value)→Sem Value) (st:St) (r:SV) (nm:Option Nat) (dep:Dep)
def Rq.dep:Rq→Dep
 | .call _ _ _ _ d=>d
 | .bin _ _ _ _ _ d=>d
 | .sem _ _ _ _ d=>d
structure SEv where
 val:SV
 wb:Option (Nat×TypeId×List Sg):=none
 rb:List Nat:=[]
 rq:Option Rq:=none
 dy:Bool:=false
 na:Nat
def Kc:List Sg→Option (List Value)
 | []=>some []
 | .c v::l=>(Kc l).map (v :: ·)
 | _::_=>none
def A7d:SV→Option Value
 | .v false [.c v]=>some v
 | .v true l=>(Kc l).map fun vs=>.agg vs.toArray
 | _=>none
theorem Nn {ρ:List Av} {μ:Nat→Nm}:∀ {l:List Sg} {vs:List Value},Kc l=some vs→cellsL ρ μ l=vs
 | [],vs,h=>by cases h;rfl
 | .c v::l,vs,h=>by
  simp only[Kc]at h;cases h1:Kc l with
  | none=>rw[h1]at h;cases h
  | some us=>rw[h1]at h;cases h;simp only[M2,U2,Sg.cells,Nn h1,List.singleton_append]
 | .m .. :: _,_,h=>by cases h
 | .p .. :: _,_,h=>by cases h
 | .sl .. :: _,_,h=>by cases h
 | .d .. :: _,_,h=>by cases h
theorem B3o {ρ:List Av} {μ:Nat→Nm} {x:SV} {v:Value} (h:A7d x=some v):x.val ρ μ=v:=by
 unfold A7d at h;split at h
 ·cases h;rfl
 ·rename_i l
  cases h1:Kc l with
  | none=>rw[h1]at h;cases h
  | some us=>rw[h1]at h;cases h;simp only[SV.val,cv,if_true,Nn h1]
 ·cases h
theorem Fh (ρ:List Av) (μ:Nat→Nm):∀l:List Value,cellsL ρ μ (l.map .c)=l
 | []=>rfl
 | v::l=>by simp only[List.map_cons,M2,U2,Sg.cells,Fh ρ μ l,List.singleton_append]
theorem Li {ρ:List Av} {μ:Nat→Nm} {v:Value} {x:SV} (h:Fr v=some x):x.val ρ μ=v:=by
 unfold Fr at h;split at h
 ·split at h
  ·cases h;simp only[SV.val,cv,if_true,Fh]
  ·cases h
 ·cases h
 ·cases h;rfl
def Mo (s:St) (x:Operand):Option Value:=(Y7 s x).bind A7d
def Gt (P:Program) (t:TypeId):Option Nat:=(P.info? t).map (·.size)
def Ti (P:Program) (t:TypeId):Option Bool:=match P.underlying t with
 | some (.struct _) | some (.array _ _)=>some true
 | some _=>some false
 | none=>none
def Nj:SV→Option (List Sg)
 | .v true l=>if C9c l then some l else none
 | .v false [s]=>if s.len=1∧s.one=true then some [s] else none
 | _=>none
def Gv:SV→Option (Nat×Nat)
 | .v false [.p b o]=>some (b,o)
 | _=>none
def Si:SV→Option Nat
 | .v false [.c (.int _ (.ofNat n))]=>some n
 | _=>none
def Ry (ρ:List Av):SV→Option Bool
 | .v false [.c (.bool b)]=>some b
 | .v false [.m n 1]=>match A6b ρ n 1 with
  | [.bool b]=>some b
  | _=>none
 | _=>none
theorem Lo {ρ:List Av} {μ:Nat→Nm} {x:SV} {b:Bool} (h:Ry ρ x=some b):x.val ρ μ=.bool b:=by
 unfold Ry at h;split at h
 ·cases h;rfl
 ·split at h
  ·rename_i n u hu
   cases h;simp[SV.val,cv,M2,U2,Sg.cells,hu]
  ·cases h
 ·cases h
def Wg (P:Program) (t:TypeId) (l:List Sg) (o:Nat):Option SV:=do
 let a ←Ti P t
 let n ←if a then Gt P t else some 1
 let x ←Vs l o n
 if !a&&x.length != 1 then none else some (.v a x)
def Og (P:Program) (t:TypeId) (f:Nat):Option Field:=match P.underlying t with
 | some (.struct fs)=>fs[f]?
 | _=>none
structure Cfg where
 cut:TypeId→Option (List Nat)
 dyn:FuncId→Option Nat
 f:Fcts
def Sc (P:Program) (g:Cfg) (na:Nat) (t:TypeId):Option ((Bool×List Sg)×Nat):=do
 let a ←Ti P t
 match g.cut t with
 | some ks=>some ((a,(ks.zipIdx na).map fun x=>.m x.2 x.1),na+ks.length)
 | none=>let n ←Gt P t;some ((a,[.m na n]),na+1)
def Hc (P:Program) (g:Cfg):Nat→List TypeId→Option (List (Bool×List Sg)×Nat)
 | na,[]=>some ([],na)
 | na,t::ts=>do
  let x ←Sc P g na t
  let y ←Hc P g x.2 ts
  some (x.1::y.1,y.2)
def Sg.names:Sg→List Nat
 | .p b _ | .sl b _ _ _=>[b]
 | .d n=>[n]
 | _=>[]
def SV.names:SV→List Nat
 | .v _ l=>l.flatMap Sg.names
 | .tup l=>l.flatMap fun x=>x.2.flatMap Sg.names
 | .any=>[]
def A2i (l:List Nat) (n:Nat):List Nat:=if l.contains n then l else l++[n]
def Ui (s:St) (sup:Nat→List Nat) (n:Nat):List Nat:=(match s.blk n with | some (_,cs)=>cs.flatMap Sg.names | none=>[])++(if s.dy.contains n then sup n else [])
def Nt (s:St) (sup:Nat→List Nat):Nat→List Nat→List Nat
 | 0,l=>l
 | k+1,l=>Nt s sup k (l.foldl (fun acc n=>(Ui s sup n).foldl A2i acc) l)
def Hy (s:St) (sup:Nat→List Nat) (xs:List SV):Dep:=
 let ns:=Nt s sup 3 ((xs.flatMap SV.names).foldl A2i [])
 ⟨ns.filterMap fun n=>(s.blk n).map fun x=>(n,x),ns.filter fun n=>s.dy.contains n⟩
def C5i (P:Program) (f:FuncId):Bool:=match P.funcs[f]? with
 | some fn => !(fn.name == "runtime.NumGoroutine") && fn.body.isSome
 | none=>false
def B7t (nm:Nat):Option Nat→List (Bool×List Sg)→List (Bool×List Sg)
 | some k,l=>l.set k (false,[.d nm])
 | none,l=>l
def Yh (P:Program) (g:Cfg) (nm na:Nat) (s:St) (f:FuncId) (args:List Operand):Option SEv:=do
 let xs ←args.mapM (Y7 s)
 let fn ←P.funcs[f]?
 let x ←Hc P g na fn.resultTypes.toList
 let l:=B7t nm (g.dyn f) x.1
 let r:=match l with
  | [y]=>.v y.1 y.2
  | _=>.tup l
 let dep:=Hy s g.f.sup xs
 if C5i P f then some { val:=r,rq:=some (.call f xs r ((g.dyn f).map fun _=>nm) dep),dy:=(g.dyn f).isSome,rb:=dep.bs.map (·.1),na:=x.2 } else none
def B6w (P:Program) (t:TypeId):Option (Nat→Option (Nat×Nat)):=match P.underlying t with
 | some (.struct fs)=>if fs.toList.all (fun f=>(Gt P f.type).isSome)=true then some fun i=>(fs[i]?).bind fun f=>(Gt P f.type).map fun n=>(f.offset,n) else none
 | some (.array _ e)=>(Gt P e).map fun n=>fun i=>some (i*n,n)
 | _=>none
def Nf (plc:Nat→Option (Nat×Nat)) (st:St):List Sg→List (Nat×Operand)→Option (List Sg)
 | l,[]=>some l
 | l,(i,x)::ps=>match plc i,(Y7 st x).bind Nj with
  | some (o,n),some y=>if Fb y=n then match A0r l o y with
   | some l'=>Nf plc st l' ps
   | none=>none
   else none
  | _,_=>none
def A1f (st:St) (dflt:Nat):Option Operand→Option Nat
 | none=>some dflt
 | some x=>(Y7 st x).bind Si
def A7l (P:Program) (st:St) (t:TypeId) (x:SV) (lo hi:Option Operand):Option SV:=do
 let l ←A1f st 0 lo
 match P.underlying t with
 | some (.array n e)=>do
  let (b,o) ←Gv x
  let h ←A1f st n hi
  let z ←Gt P e
  if l≤h∧h≤n then some (.v false [.sl b (if n=l then o else o+l*z) (h-l) (n-l)]) else none
 | some (.slice e)=>match x with
  | .v false [.sl b o len q]=>do
   let h ←A1f st len hi
   let z ←Gt P e
   if l≤h∧h≤q then some (.v false [.sl b (if q=l then o else o+l*z) (h-l) (q-l)]) else none
  | _=>none
 | _=>none
def Qc (P:Program) (t:TypeId):Option TypeId:=match P.underlying t with
 | some (.slice e)=>some e
 | _=>none
def B2b:SV→Option (Nat×Nat×Nat)
 | .v false [.sl b o l _]=>some (b,o,l)
 | _=>none
def B8g (P:Program) (na:Nat) (s:St) (t:TypeId) (x y:Operand):Option SEv:=do
 let (b,o,l) ←(Y7 s x).bind B2b
 let (b',o',l') ←(Y7 s y).bind B2b
 let e ←Qc P t
 let z ←Gt P e
 let (T,cs) ←s.blk b
 let (_,cs') ←s.blk b'
 let seg ←Vs cs' o' (Nat.min l' l*z)
 let cs2 ←A0r cs o seg
 if C9c seg then some { val:=.v false [.c (.int .i64 (Nat.min l' l:Nat))],wb:=some (b,T,cs2),rb:=[b,b'],na } else none
def C8z (P:Program) (na:Nat) (s:St) (t:TypeId) (x:Operand):Option SEv:=do
 let (_,_,l) ←(Y7 s x).bind B2b
 let _ ←Qc P t
 some { val:=.v false [.c (.int .i64 (l:Nat))],na }
def D5d:Op→Bool
 | .binOp .. | .unOp .. | .convert ..=>true
 | _=>false
def Ug (s:St) (o:Oper):Bool:=D5d o.op&&o.op.operands.toList.all fun x=>(Mo s x).isSome
def Zw (P:Program) (na:Nat) (s:St) (o:Oper):Option SEv:=
 match Vg P (execOp (fun x=>(Mo s x).getD undef) o) with
 | some (.value v)=>(Fr v).map fun x=>{ val:=x,na }
 | _=>none
def Zt (P:Program) (g:Cfg) (ρ:List Av) (nm na:Nat) (s:St) (o:Oper):Option SEv:=
 match o.op with
 | .move x | .assign x=>(Y7 s x).map fun x=>{ val:=x,na }
 | .pick c x y=>match (Y7 s c).bind (Ry ρ) with
  | some b=>(Y7 s (if b then x else y)).map fun x=>{ val:=x,na }
  | none=>none
 | .alloc t=>match (P.info? t).bind (·.zero) with
  | some z=>if z.cells.toList.all (·.oneCell') then some { val:=.v false [.p nm 0],wb:=some (nm,t,z.cells.toList.map .c),na } else none
  | none=>none
 | .box t x=>((Y7 s x).bind Nj).map fun l=>{ val:=.v false [.p nm 0],wb:=some (nm,t,l),na }
 | .build t ps=>match (P.info? t).bind (·.zero),B6w P t with
  | some z,some plc=>if z.cells.toList.all (·.oneCell') then (Nf plc s (z.cells.toList.map .c) ps.toList).map fun l=>{ val:=.v true l,na } else none
  | _,_=>none
 | .load t x=>do
  let (b,f) ←(Y7 s x).bind Gv
  let (_,cs) ←s.blk b
  let n ←Gt P t
  let a ←Ti P t
  let l ←Vs cs f n
  if (!a&&l.length != 1)||n==0||(!a&&n != 1) then none else some { val:=.v a l,rb:=[b],na }
 | .store t x y=>do
  let (b,f) ←(Y7 s x).bind Gv
  let (T,cs) ←s.blk b
  let l ←(Y7 s y).bind Nj
  let n ←Gt P t
  let cs' ←A0r cs f l
  if Fb l != n||n==0||o.dst.isSome then none else some { val:=.v false [.c undef],wb:=some (b,T,cs'),rb:=[b],na }
 | .fieldAddr t x f=>do
  let (b,k) ←(Y7 s x).bind Gv
  let fd ←Og P t f
  let n ←Gt P fd.type
  if n==0 then none else some { val:=.v false [.p b (k+fd.offset)],na }
 | .field t x f=>match Y7 s x with
  | some (.v true l)=>do
   let fd ←Og P t f
   let y ←Wg P fd.type l fd.offset
   some { val:=y,na }
  | _=>none
 | .indexAddr t x i=>do
  let k ←(Y7 s i).bind Si
  match P.underlying t with
  | some (.array len e)=>do
   let (b,f) ←(Y7 s x).bind Gv
   let n ←Gt P e
   if k<len then some { val:=.v false [.p b (f+k*n)],na } else none
  | some (.slice e)=>match Y7 s x with
   | some (.v false [.sl b f l _])=>do
    let n ←Gt P e
    if k<l then some { val:=.v false [.p b (f+k*n)],na } else none
   | _=>none
  | _=>none
 | .index t x i=>do
  let k ←(Y7 s i).bind Si
  match P.underlying t,Y7 s x with
  | some (.array len e),some (.v true l)=>do
   let n ←Gt P e
   let y ←Wg P e l (k*n)
   if k<len then some { val:=y,na } else none
  | _,_=>none
 | .binOp op t x y _=>do
  let a ←Y7 s x
  let b ←Y7 s y
  let dep:=Hy s g.f.sup [a,b]
  some { val:=.v false [.m na 1],rq:=some (.bin op t a b (.v false [.m na 1]) dep),rb:=dep.bs.map (·.1),na:=na+1 }
 | .slice t x lo hi none=>do
  let y ←Y7 s x
  let z ←A7l P s t y lo hi
  some { val:=z,na }
 | .sliceToArrayPointer t x=>match P.underlying t,Y7 s x with
  | some (.array n _),some (.v false [.sl b o l _])=>if n≤l then some { val:=.v false [.p b o],na } else none
  | _,_=>none
 | .buildSlice t len ps=>do
  let e ←Qc P t
  let z ←Gt P e
  let zv ←(P.info? e).bind (·.zero)
  let l ←Nf (fun i=>some (i*z,z)) s ((List.range (len*z)).map fun j=>.c (zv.cells[j % zv.cells.size]!)) ps.toList
  if len*z≤2 ^ 24∧len*z≠0∧zv.cells.toList.all (·.oneCell') then some { val:=.v false [.sl nm 0 len len],wb:=some (nm,e,l),na } else none
 | .unOp op _ x=>match (Y7 s x).bind (Ry ρ) with
  | some b=>match Vg P (Op.unary op (.bool b)) with
   | some v=>(Fr v).map fun y=>{ val:=y,na }
   | none=>none
  | none=>none
 | .extract x i=>match Y7 s x with
  | some (.tup l)=>(l[i]?).map fun y=>{ val:=.v y.1 y.2,na }
  | _=>none
 | .nilCheck x=>match Y7 s x with
  | some (.v false [.p b f])=>some { val:=.v false [.p b f],na }
  | _=>none
 | .call c=>match c.callee with
  | .value (.func f)=>Yh P g nm na s f c.args.toList
  | .builtin .copy=>match c.argTypes.toList,c.args.toList with
   | t::_,[x,y]=>B8g P na s t x y
   | _,_=>none
  | .builtin .len=>match c.argTypes.toList,c.args.toList with
   | t::_,[x]=>C8z P na s t x
   | _,_=>none
  | _=>none
 | _=>none
def B3g:Op→Option ((Operand→Value)→Sem Value)
 | .convert src dst x=>some fun ρ=>convert src dst (ρ x)
 | .indexAddr t x i=>some fun ρ=>Instr.indexAt t (ρ x) (ρ i)
 | .index t x i=>some fun ρ=>Instr.index t (ρ x) (ρ i)
 | .load t x=>some fun ρ=>Instr.loadAt t (ρ x)
 | .fieldAddr t x f=>some fun ρ=>Instr.fieldAt t (ρ x) f
 | _=>none
def B9c:Op→Bool
 | .indexAddr ..=>true
 | _=>false
def B5d (P:Program) (g:Cfg) (nm na:Nat) (s:St) (o:Oper):Option SEv:=do
 let mk ←B3g o.op
 let xs ←o.op.operands.toList.mapM (Y7 s)
 let dep:=Hy s g.f.sup xs
 if B9c o.op=true then some { val:=.v false [.d nm],rq:=some (.sem mk s (.v false [.d nm]) (some nm) dep),rb:=dep.bs.map (·.1),na,dy:=true } else
 let r ←if o.type=0 then some ((false,[Sg.m na 1]),na+1) else Sc P g na o.type
 some { val:=.v r.1.1 r.1.2,rq:=some (.sem mk s (.v r.1.1 r.1.2) none dep),rb:=dep.bs.map (·.1),na:=r.2 }
def A7q (ev:SEv):Bool:=match ev.rq with
 | some (.sem ..)=>false
 | _=>true
def Zg (P:Program) (g:Cfg) (ρ:List Av) (nm na:Nat) (s:St) (o:Oper):Option SEv:=
 if Ug s o=true then Zw P na s o else
 match Zt P g ρ nm na s o with
 | some ev=>if A7q ev=true then some ev else none
 | none=>B5d P g nm na s o
def Xm (μ:Nat→Nm) (n:Nat) (x:Nm):Nat→Nm:=fun b=>if b=n then x else μ b
def Dep.ok (ρ:List Av) (Φ:Fcts) (d:Dep) (μ:Nat→Nm) (W:World):Prop:=
 d.bs.foldr (fun x p=>Bk W (μ x.1).b x.2.1 (cellsL ρ μ x.2.2)∧p) (d.ds.foldr (fun n p=>Φ.at n μ W∧p) True)
def C7w (Φ:Fcts) (S:World→Prop) (n:Nat) (μ:Nat→Nm) (W W':World):Prop:=
 ∀W'',W'.heap.size≤W''.heap.size→(∀k,W.heap.size≤k→k<W'.heap.size→W''.heap[k]?=W'.heap[k]?)→S W''→Φ.at n μ W''
inductive Eqn where
 | call (f:FuncId) (args:(Nat→Nm)→Array Value) (v:(Nat→Nm)→Value) (nm:Option Nat) (pre:(Nat→Nm)→World→Prop)
 | bin (op:BinOp) (t:TypeId) (x y v:(Nat→Nm)→Value) (pre:(Nat→Nm)→World→Prop)
 | sem (s:(Nat→Nm)→Sem Value) (v:(Nat→Nm)→Value) (nm:Option Nat) (pre:(Nat→Nm)→World→Prop)
def Eqn.Ok (P:Program) (Φ:Fcts) (S:World→Prop):Eqn→Prop
 | .call f args v none pre=>∀μ W,S W→pre μ W→Calls P f (args μ) W fun e W'=>e=.returned (v μ)∧Below W.heap.size W W'
 | .call f args v (some n) pre=>∀μ W,S W→pre μ W→Calls P f (args μ) W fun e W'=>∃x:Nm,e=.returned (v (Xm μ n x))∧Below W.heap.size W W'∧C7w Φ S n (Xm μ n x) W W'
 | .bin op t x y v pre=>∀μ (X Y:Operand) W,S W→pre μ W→(do eqGuard op t X Y (x μ) (y μ);binOp op t (x μ) (y μ):Sem Value).run P W=.ok (v μ) W
 | .sem s v none pre=>∀μ W,S W→pre μ W→(s μ).run P W=.ok (v μ) W
 | .sem s v (some n) pre=>∀μ W,S W→pre μ W→∃x:Nm,(s μ).run P W=.ok (v (Xm μ n x)) W∧C7w Φ S n (Xm μ n x) W W
def E1p (ρ:List Av) (st:St) (μ:Nat→Nm) (x:Operand):Value:=match Y7 st x with
 | some y=>y.val ρ μ
 | none=>undef
def Rq.eqn (ρ:List Av) (Φ:Fcts):Rq→Eqn
 | .call f args r nm d=>.call f (fun μ=>(args.map (·.val ρ μ)).toArray) (fun μ=>r.val ρ μ) nm (fun μ W=>d.ok ρ Φ μ W)
 | .bin op t x y r d=>.bin op t (fun μ=>x.val ρ μ) (fun μ=>y.val ρ μ) (fun μ=>r.val ρ μ) (fun μ W=>d.ok ρ Φ μ W)
 | .sem mk st r nm d=>.sem (fun μ=>mk (E1p ρ st μ)) (fun μ=>r.val ρ μ) nm (fun μ W=>d.ok ρ Φ μ W)
def Rq.Ok (P:Program) (ρ:List Av) (Φ:Fcts) (S:World→Prop) (q:Rq):Prop:=(q.eqn ρ Φ).Ok P Φ S
def Fs (ρ:List Av) (Φ:Fcts) (S:World→Prop) (st:St) (nm:Nat) (ev:SEv) (μ:Nat→Nm) (w:World) (μ':Nat→Nm) (w':World):Prop:=
 match ev.wb with
 | none=>Below w.heap.size w w'∧((ev.dy=false∧μ'=μ)∨(ev.dy=true∧∃x,μ'=Xm μ nm x∧C7w Φ S nm μ' w w'))
 | some (b,T,cs)=>ev.dy=false∧
  ((b=nm∧μ'=Xm μ nm ⟨w.heap.size,jnk,rfl⟩∧Below w.heap.size w w'∧Bk w' w.heap.size T (cellsL ρ μ' cs))∨
  (b∈ev.rb∧(∃T0 cs0,st.blk b=some (T0,cs0))∧μ'=μ∧w.grownBy w' (some (μ b).b)∧w'.heap.size=w.heap.size∧Bk w' (μ b).b T (cellsL ρ μ cs)))
theorem M5 {P:Program} {s:Sem Value} {w w':World} {v:Value} (h:s.run P w=.ok v w'):(do pure (Next.value (←s)):Sem Next).run P w=.ok (.value v) w':=by
 simp only[Sem.run_bind,h,Result.andThen_ok];rfl
theorem Mb {ρ:List Av} {μ:Nat→Nm} {x:SV} {l:List Sg} (h:Nj x=some l):(x.val ρ μ).cells=(cellsL ρ μ l).toArray∧(∀v∈cellsL ρ μ l,v.oneCell'=true):=by
 unfold Nj at h;split at h
 ·split at h
  ·rename_i h1;cases h;exact ⟨rfl,Rn ρ μ _ h1⟩
  ·cases h
 ·split at h
  ·rename_i s h1
   cases h;have h2:=Sg.cells_len ρ μ s;rw[h1.1]at h2;obtain⟨u,hu⟩:=List.length_eq_one_iff.1 h2;have h3:=Sg.cells_one ρ μ s h1.2 u (by rw[hu];simp);have h4:cellsL ρ μ [s]=[u]:=by simp[M2,U2,hu]
   refine ⟨?_,?_⟩
   ·simp only[SV.val,cv,h4,Bool.false_eq_true,if_false,List.headD_cons];cases u<;>first | rfl | cases h3
   ·rw[h4];intro v hv;rw[List.mem_singleton.1 hv];exact h3
  ·cases h
 ·cases h
theorem Gr {ρ:List Av} {μ:Nat→Nm} {x:SV} {b o:Nat} (h:Gv x=some (b,o)):x.val ρ μ=.pointer (some ⟨(μ b).b,o,none⟩):=by
 unfold Gv at h;split at h
 ·cases h;rfl
 ·cases h
theorem Wb {ρ:List Av} {μ:Nat→Nm} {x:SV} {n:Nat} (h:Si x=some n):∃k,x.val ρ μ=.int k (n:Int):=by
 unfold Si at h;split at h
 ·cases h;exact ⟨_,rfl⟩
 ·cases h
theorem A0j {P:Program} {t n:Nat} (h:Gt P t=some n):∃i,P.info? t=some i∧i.size=n:=by
 unfold Gt at h;cases hi:P.info? t with
 | none=>rw[hi]at h;cases h
 | some i=>rw[hi]at h;exact ⟨i,rfl,by simpa using h⟩
theorem Y4 {P:Program} {t n:Nat} (h:Gt P t=some n) (w:World):(sizeOf t).run P w=.ok n w:=by
 obtain⟨i,hi,rfl⟩:=A0j h;simp[sizeOf,typeInfo,hi]
theorem A4g {P:Program} {t:Nat} {b:Bool} (h:Ti P t=some b) (w:World):(isAgg t).run P w=.ok b w:=by
 unfold Ti at h;cases hu:P.underlying t with
 | none=>rw[hu]at h;cases h
 | some d=>
  rw[hu]at h;unfold isAgg;simp only[Sem.run_bind];have h1:(underlying t).run P w=.ok d w:=by simp[underlying,hu]
  rw[h1,Result.andThen_ok];cases d<;>cases h<;>rfl
theorem C2w {l:List Sg} (h:l.length=1):∃s,l=[s]:=List.length_eq_one_iff.1 h
theorem D4v {P:Program} {t:Nat} (h:Ti P t=some true):∃d,P.underlying t=some d∧d.isRow=true:=by
 unfold Ti at h;cases hu:P.underlying t with
 | none=>rw[hu]at h;cases h
 | some d=>rw[hu]at h;refine ⟨d,rfl,?_⟩;cases d<;>first | rfl | cases h
theorem A5i {P:Program} {ρ:List Av} {μ:Nat→Nm} {t o:Nat} {l:List Sg} {y:SV} (h:Wg P t l o=some y) (w:World) :
 (part t (cellsL ρ μ l).toArray o).run P w=.ok (y.val ρ μ) w:=by
 unfold Wg at h;cases ha:Ti P t with
 | none=>rw[ha]at h;cases h
 | some a=>
  rw[ha]at h;unfold part;simp only[Sem.run_bind,A4g ha,Result.andThen_ok];cases a with
  | true=>
   simp only[if_true,bind,Option.bind]at h;cases hs:Gt P t with
   | none=>rw[hs]at h;cases h
   | some n=>
    rw[hs]at h;cases hc:Vs l o n with
    | none=>simp only[hc]at h;cases h
    | some x=>
     simp only[hc,Bool.not_true,Bool.false_and,Bool.false_eq_true,if_false,Option.some.injEq]at h;subst h;obtain⟨h1,h2,h3⟩:=Kl (ρ:=ρ) (μ:=μ) hc;simp only[if_true,Sem.run_bind,Y4 hs,Result.andThen_ok,SV.val,cv,h1];simp[List.extract_eq_take_drop]
  | false=>
   simp only[Bool.false_eq_true,if_false,bind,Option.bind]at h;cases hc:Vs l o 1 with
   | none=>simp only[hc]at h;cases h
   | some x=>
    simp only[hc,Bool.not_false,Bool.true_and]at h;split at h
    ·cases h
    ·rename_i hx
     have aA:x.length=1:=by simpa using hx
     cases h;obtain⟨s,rfl⟩:=C2w aA;obtain⟨h1,h2,h3⟩:=Kl (ρ:=ρ) (μ:=μ) hc;have h4:o<(cellsL ρ μ l).length:=by rw[P7];omega
     simp only[Bool.false_eq_true,if_false,List.getElem?_toArray,List.getElem?_eq_getElem h4];simp only[SV.val,cv,Bool.false_eq_true,if_false,h1];rw[List.drop_eq_getElem_cons h4];rfl
end Go.Proofs.YtdfpoofbgjilgaaGreat
